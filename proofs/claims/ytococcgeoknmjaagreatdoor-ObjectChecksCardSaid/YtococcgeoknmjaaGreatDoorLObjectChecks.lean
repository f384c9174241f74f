/- Which objects may be, of any kind, whichever way they are asked, and their names, is just what the document says (package variables of the library as the text of the library lays them). -/
import Derived.Test.YtococcgeoknmjaaGreatDoorM10
import Derived.Test.YtococcgeoknmjaaGreatDoorM17
namespace Go.Proofs.YtococcgeoknmjaaGreatDoor
open Go Go.ChangeShapes Go.WideShapes Go.ChangeAt Go.WideMaps Go.WideElems Go.RowKit Go.Proofs.AM
set_option maxRecDepth 100000

theorem objectChecks_call (xs : List D) (hx : ArgsFit Tryz.prog Tryz.f3.params.toList xs) : PR3.v 3 xs (.bool true) := by
  rw [Tryz.params3] at hx
  replace hx : ArgsFit Tryz.prog [44] xs := hx
  obtain ⟨x0, _, rfl, h0, hx⟩ := args_cons hx
  obtain rfl := args_nil hx
  obtain ⟨x, rfl, hf⟩ := fits_any h0
  exact m3 x hf
theorem objectChecks_lifted (os : Os) (started : os.Started) (H : Type) (enc : TypeId × Value → H) :
    ReturnsInHanded {} Tryz.checked os 3 .any (fun w args => (Rows.objectChecksSpec.pre enc Tryz.prog Tryz.f3 [] false w args ∧ laidMetH Tryz.prog laid5 w) ∧ sizedMet enc Tryz.prog Tryz.f3 (OpenSpec.ofChange Rows.objectChecksSpec) false w args)
      (Rows.objectChecksSpec.post enc Tryz.prog Tryz.f3 false true false false) := by
  refine returnsInHanded_of_change_and (C := Tryz.checked) (X := fun w _ => laidMetH Tryz.prog laid5 w) (fun _ _ _ hh h => h.of_heap hh) own started (by kernel_rfl) Tryz.func3
    (ChangeSpec.witness_shaped (enc := enc) (C := Tryz.checked) (os := os) (X := fun w _ => laidMetH Tryz.prog laid5 w) false (World.doorLaid Tryz.prog 62 os) #[.agg #[.int .i64 0, .string ⟨#[]⟩, .string ⟨#[]⟩, .int .i64 0, .int .i64 0, .int .i64 0, .slice none 0 0, .slice none 0 0, .slice none 0 0, .slice none 0 0, .slice none 0 0, .int .i64 0, .string ⟨#[]⟩, .string ⟨#[]⟩, .int .i64 0, .int .i64 0, .int .i64 0, .slice none 0 0, .slice none 0 0, .int .i64 0, .int .i64 0, .int .i64 0, .int .i64 0, .string ⟨#[]⟩, .string ⟨#[]⟩, .int .i64 0, .string ⟨#[]⟩, .string ⟨#[]⟩, .string ⟨#[]⟩, .int .i64 0, .int .i64 0, .int .i64 0, .slice none 0 0, .int .i64 0, .string ⟨#[]⟩, .int .i64 0, .int .i64 0, .bool false, .int .i64 0, .slice none 0 0, .int .i64 0, .int .i64 0, .string ⟨#[]⟩, .string ⟨#[]⟩, .slice none 0 0, .bool false, .string ⟨#[]⟩, .string ⟨#[]⟩, .string ⟨#[]⟩, .int .i64 0]] 8 rfl (World.shaped_of_RefB (by kernel_rfl) (by kernel_rfl)) (by kernel_rfl) (by kernel_rfl) (by kernel_rfl) (door_met os _)) ?_
  intro W base args ds gs before hval hW hc hsz hL _
  refine law_contract (X := fun w _ => laidMetH Tryz.prog laid5 w) laidOut (by kernel_rfl) (by kernel_rfl) (bt := 4) (by kernel_rfl) Tryz.underlying4 rfl (fun ds hd => ?_) (fun _ _ h => of_laid h) objectChecks_call W base args ds gs before hval hW hc hsz hL
  have hd : ds.length = 1 := hd
  match ds, hd with
  | [d0], _ => exact ⟨rfl, rfl, rfl⟩

theorem objectChecks_c1 : (Rows.objectChecksRow.wf (OpenSpec.ofChange Rows.objectChecksSpec) && laidOutB Tryz.prog && mapsRowed Tryz.prog && Tryz.f3.params.all (Tryz.prog.readableRec ·) && namedTie Tryz.prog Rows.objectChecksRow.named Rows.objectChecksSpec.vars && (Rows.objectChecksRow.stops == []) && (Tryz.prog.stops == []) && (Rows.objectChecksRow.knobs == []) && (Tryz.prog.stopKnobs == [])) = true := by kernel_rfl
theorem objectChecks_c2 : (Rows.objectChecksRow.inPlace == Tryz.prog.inPlace 3) = true := by kernel_rfl
theorem objectChecks_c3 : (Rows.objectChecksRow.unfollowed == Tryz.prog.unfollowed 3) = true := by kernel_rfl
theorem objectChecks_c4 : (Rows.objectChecksRow.recurses == Tryz.prog.recurses 3) = true := by kernel_rfl
theorem objectChecks_c5 : (Rows.objectChecksRow.named == Tryz.prog.varsNamed 3) = true := by kernel_rfl
theorem objectChecks_c6 : ((Rows.objectChecksRow.maps == (Tryz.f3.params.toList ++ Rows.objectChecksSpec.plain.varTypes Tryz.prog).any (Tryz.prog.mapsRec ·)) && (Rows.objectChecksRow.ifaces == (Tryz.f3.params.toList ++ Rows.objectChecksSpec.plain.varTypes Tryz.prog).any (Tryz.prog.ifacesRec ·)) && (Rows.objectChecksRow.mapsOut == Tryz.prog.mapsAmong Tryz.f3.resultTypes.toList) && (Rows.objectChecksRow.loops == (Tryz.f3.params.toList ++ Rows.objectChecksSpec.plain.varTypes Tryz.prog).any (Tryz.prog.loopsFrom ·)) && (Rows.objectChecksRow.wideKeys == (Tryz.f3.params.toList ++ Rows.objectChecksSpec.plain.varTypes Tryz.prog ++ Tryz.f3.resultTypes.toList).any (Tryz.prog.wideKeysFrom ·))) = true := by kernel_rfl
theorem objectChecks_c7 : (Rows.objectChecksSpec.vars.all (Tryz.prog.varReadable ·) && Tryz.f3.resultTypes.all (fun t => Tryz.prog.readableRec t && decide (t < Tryz.prog.types.size)) && (Rows.objectChecksRow.ifacesOut == Tryz.f3.resultTypes.toList.any (Tryz.prog.ifacesRec ·)) && (Rows.objectChecksRow.loopsOut == Tryz.f3.resultTypes.toList.any (Tryz.prog.loopsFrom ·))) = true := by kernel_rfl
theorem objectChecks_c8 : (Rows.objectChecksRow.plainKeys == Tryz.prog.plainKeys) = true := by kernel_rfl
theorem objectChecks_c9 : (Rows.objectChecksRow.shortTexts.isNone && Tryz.prog.stopsHeard && Tryz.prog.mayEnter) = true := by kernel_rfl
theorem objectChecks_c10 : (Rows.objectChecksRow.lifted == Tryz.prog.liftsFinal) = true := by kernel_rfl
theorem objectChecks_c11 : (Tryz.prog.make == some Rows.objectChecksRow.make) = true := by kernel_rfl
theorem objectChecks_c12 : ((Rows.objectChecksRow.kinds == (if Rows.objectChecksRow.domain.isEmpty then [] else Tryz.f3.params.toList.map fun t => match Tryz.prog.underlying t with | some (.int k) => some k | _ => none)) && (Rows.objectChecksRow.pinned == Rows.objectChecksRow.pinnedBy)) = true := by kernel_rfl
theorem objectChecks_c13 : ((Rows.objectChecksRow.veiled == (Tryz.f3.params.toList ++ Rows.objectChecksSpec.plain.varTypes Tryz.prog ++ Tryz.f3.resultTypes.toList).any (Tryz.prog.veiledRec ·)) && Rows.objectChecksRow.veiledFits Tryz.prog Tryz.f3.params.toList (Tryz.f3.params.toList ++ Rows.objectChecksSpec.plain.varTypes Tryz.prog ++ Tryz.f3.resultTypes.toList)) = true := by kernel_rfl
theorem objectChecks_row : Rows.ObjectChecksSaid :=
  OpenClaim.holds_of_wide 3 Tryz.f3 rfl rfl rfl rfl rfl rfl rfl ⟨rfl, rfl, rfl, rfl, rfl⟩ rfl rfl rfl rfl rfl (by kernel_rfl) Tryz.func3 (joined_split objectChecks_c1 objectChecks_c2 objectChecks_c3 objectChecks_c4 objectChecks_c5 objectChecks_c6 objectChecks_c7 objectChecks_c8 objectChecks_c9 objectChecks_c10 objectChecks_c11 objectChecks_c12 objectChecks_c13)
    (of_decide_eq_true (by kernel_rfl)) (by unfold Func.isWrapper; first | (rw [if_pos (by decide +kernel)]; kernel_rfl) | (rw [if_neg (by decide +kernel)]; exact ⟨rfl, rfl⟩))
    (fun os started H enc _ => objectChecks_lifted os started H enc)

theorem objectChecks_holds : Rows.ObjectChecksCardSaid :=
  Claim7.holds_tied_plain_at .later [] [.data, .data, .data, .sentinel, .sentinel] true (true, "dcfc04c605f64eed57c85bef62aa2d78270be6caa863562f953d313a4a280b39") true
    objectChecks_row (fun _ h => by cases h) (by kernel_rfl) (fun _ h => by cases h) objectChecks_row_tie rfl ⟨rfl, rfl⟩ (by kernel_rfl) rfl
    (fun f fn hf hfn => by
      obtain rfl : f = 3 := Option.some.inj ((show Tryz.prog.funcNamed "sutler/sutlerlaw08.ObjectChecks" = some 3 by kernel_rfl).symm.trans hf) |>.symm
      obtain rfl : fn = Tryz.f3 := (Option.some.inj (Tryz.func3.symm.trans hfn)).symm
      exact ⟨by kernel_rfl, fun j t ht => by
        rw [Tryz.params3] at ht
        have hm : t ∈ ([44] : List Nat) := by simpa using Array.mem_of_getElem? ht
        have hall : (([44] : List Nat).all fun u => !Tryz.prog.wantsStandIn u) = true := by kernel_rfl
        exact (show Tryz.prog.wantsStandIn t = false by simpa using List.all_eq_true.1 hall t hm)⟩)
    (by kernel_rfl)
#print axioms objectChecks_holds
end Go.Proofs.YtococcgeoknmjaaGreatDoor
