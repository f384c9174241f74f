/- A pod that may be may be without one of its requirements, tolerations and terms (package variables of the library as the text of the library lays them). -/
import Derived.Test.YtococcgeoknmjaaGreatDoorM10
import Derived.Test.YtococcgeoknmjaaGreatDoorM17
namespace Go.Proofs.YtococcgeoknmjaaGreatDoor
open Go Go.ChangeShapes Go.WideShapes Go.ChangeAt Go.WideMaps Go.WideElems Go.RowKit Go.Proofs.AM
set_option maxRecDepth 100000

theorem objectLess_call (xs : List D) (hx : ArgsFit Tryz.prog Tryz.f4.params.toList xs) : PR3.v 4 xs (.bool true) := by
  rw [Tryz.params4] at hx
  replace hx : ArgsFit Tryz.prog [29, 3] xs := hx
  obtain ⟨x0, _, rfl, h0, hx⟩ := args_cons hx
  obtain ⟨x1, _, rfl, h1, hx⟩ := args_cons hx
  obtain rfl := args_nil hx
  obtain ⟨p, rfl, hf⟩ := fits_pod h0
  obtain ⟨w, rfl, hw⟩ := fits_int h1
  exact m4 p w hf hw
theorem objectLess_lifted (os : Os) (started : os.Started) (H : Type) (enc : TypeId × Value → H) :
    ReturnsInHanded {} Tryz.checked os 4 .any (fun w args => (Rows.objectLessSpec.pre enc Tryz.prog Tryz.f4 [] false w args ∧ laidMetH Tryz.prog laid5 w) ∧ sizedMet enc Tryz.prog Tryz.f4 (OpenSpec.ofChange Rows.objectLessSpec) false w args)
      (Rows.objectLessSpec.post enc Tryz.prog Tryz.f4 false true false false) := by
  refine returnsInHanded_of_change_and (C := Tryz.checked) (X := fun w _ => laidMetH Tryz.prog laid5 w) (fun _ _ _ hh h => h.of_heap hh) own started (by kernel_rfl) Tryz.func4
    (ChangeSpec.witness_shaped (enc := enc) (C := Tryz.checked) (os := os) (X := fun w _ => laidMetH Tryz.prog laid5 w) false (World.doorLaid Tryz.prog 62 os) #[.agg #[.string ⟨#[]⟩, .string ⟨#[]⟩, .int .i64 0, .int .i64 0, .int .i64 0, .slice none 0 0, .slice none 0 0, .slice none 0 0, .slice none 0 0, .slice none 0 0, .int .i64 0, .string ⟨#[]⟩], .int .i64 0] 8 rfl (World.shaped_of_RefB (by kernel_rfl) (by kernel_rfl)) (by kernel_rfl) (by kernel_rfl) (by kernel_rfl) (door_met os _)) ?_
  intro W base args ds gs before hval hW hc hsz hL _
  refine law_contract (X := fun w _ => laidMetH Tryz.prog laid5 w) laidOut (by kernel_rfl) (by kernel_rfl) (bt := 4) (by kernel_rfl) Tryz.underlying4 rfl (fun ds hd => ?_) (fun _ _ h => of_laid h) objectLess_call W base args ds gs before hval hW hc hsz hL
  have hd : ds.length = 2 := hd
  match ds, hd with
  | [d0, d1], _ => exact ⟨rfl, rfl, rfl⟩

theorem objectLess_c1 : (Rows.objectLessRow.wf (OpenSpec.ofChange Rows.objectLessSpec) && laidOutB Tryz.prog && mapsRowed Tryz.prog && Tryz.f4.params.all (Tryz.prog.readableRec ·) && namedTie Tryz.prog Rows.objectLessRow.named Rows.objectLessSpec.vars && (Rows.objectLessRow.stops == []) && (Tryz.prog.stops == []) && (Rows.objectLessRow.knobs == []) && (Tryz.prog.stopKnobs == [])) = true := by kernel_rfl
theorem objectLess_c2 : (Rows.objectLessRow.inPlace == Tryz.prog.inPlace 4) = true := by kernel_rfl
theorem objectLess_c3 : (Rows.objectLessRow.unfollowed == Tryz.prog.unfollowed 4) = true := by kernel_rfl
theorem objectLess_c4 : (Rows.objectLessRow.recurses == Tryz.prog.recurses 4) = true := by kernel_rfl
theorem objectLess_c5 : (Rows.objectLessRow.named == Tryz.prog.varsNamed 4) = true := by kernel_rfl
theorem objectLess_c6 : ((Rows.objectLessRow.maps == (Tryz.f4.params.toList ++ Rows.objectLessSpec.plain.varTypes Tryz.prog).any (Tryz.prog.mapsRec ·)) && (Rows.objectLessRow.ifaces == (Tryz.f4.params.toList ++ Rows.objectLessSpec.plain.varTypes Tryz.prog).any (Tryz.prog.ifacesRec ·)) && (Rows.objectLessRow.mapsOut == Tryz.prog.mapsAmong Tryz.f4.resultTypes.toList) && (Rows.objectLessRow.loops == (Tryz.f4.params.toList ++ Rows.objectLessSpec.plain.varTypes Tryz.prog).any (Tryz.prog.loopsFrom ·)) && (Rows.objectLessRow.wideKeys == (Tryz.f4.params.toList ++ Rows.objectLessSpec.plain.varTypes Tryz.prog ++ Tryz.f4.resultTypes.toList).any (Tryz.prog.wideKeysFrom ·))) = true := by kernel_rfl
theorem objectLess_c7 : (Rows.objectLessSpec.vars.all (Tryz.prog.varReadable ·) && Tryz.f4.resultTypes.all (fun t => Tryz.prog.readableRec t && decide (t < Tryz.prog.types.size)) && (Rows.objectLessRow.ifacesOut == Tryz.f4.resultTypes.toList.any (Tryz.prog.ifacesRec ·)) && (Rows.objectLessRow.loopsOut == Tryz.f4.resultTypes.toList.any (Tryz.prog.loopsFrom ·))) = true := by kernel_rfl
theorem objectLess_c8 : (Rows.objectLessRow.plainKeys == Tryz.prog.plainKeys) = true := by kernel_rfl
theorem objectLess_c9 : (Rows.objectLessRow.shortTexts.isNone && Tryz.prog.stopsHeard && Tryz.prog.mayEnter) = true := by kernel_rfl
theorem objectLess_c10 : (Rows.objectLessRow.lifted == Tryz.prog.liftsFinal) = true := by kernel_rfl
theorem objectLess_c11 : (Tryz.prog.make == some Rows.objectLessRow.make) = true := by kernel_rfl
theorem objectLess_c12 : ((Rows.objectLessRow.kinds == (if Rows.objectLessRow.domain.isEmpty then [] else Tryz.f4.params.toList.map fun t => match Tryz.prog.underlying t with | some (.int k) => some k | _ => none)) && (Rows.objectLessRow.pinned == Rows.objectLessRow.pinnedBy)) = true := by kernel_rfl
theorem objectLess_c13 : ((Rows.objectLessRow.veiled == (Tryz.f4.params.toList ++ Rows.objectLessSpec.plain.varTypes Tryz.prog ++ Tryz.f4.resultTypes.toList).any (Tryz.prog.veiledRec ·)) && Rows.objectLessRow.veiledFits Tryz.prog Tryz.f4.params.toList (Tryz.f4.params.toList ++ Rows.objectLessSpec.plain.varTypes Tryz.prog ++ Tryz.f4.resultTypes.toList)) = true := by kernel_rfl
theorem objectLess_row : Rows.ObjectLessSaid :=
  OpenClaim.holds_of_wide 4 Tryz.f4 rfl rfl rfl rfl rfl rfl rfl ⟨rfl, rfl, rfl, rfl, rfl⟩ rfl rfl rfl rfl rfl (by kernel_rfl) Tryz.func4 (joined_split objectLess_c1 objectLess_c2 objectLess_c3 objectLess_c4 objectLess_c5 objectLess_c6 objectLess_c7 objectLess_c8 objectLess_c9 objectLess_c10 objectLess_c11 objectLess_c12 objectLess_c13)
    (of_decide_eq_true (by kernel_rfl)) (by unfold Func.isWrapper; first | (rw [if_pos (by decide +kernel)]; kernel_rfl) | (rw [if_neg (by decide +kernel)]; exact ⟨rfl, rfl⟩))
    (fun os started H enc _ => objectLess_lifted os started H enc)

theorem objectLess_holds : Rows.ObjectLessCardSaid :=
  Claim7.holds_tied_plain_at .later [] [.data, .data, .data, .sentinel, .sentinel] true (true, "dcfc04c605f64eed57c85bef62aa2d78270be6caa863562f953d313a4a280b39") true
    objectLess_row (fun _ h => by cases h) (by kernel_rfl) (fun _ h => by cases h) objectLess_row_tie rfl ⟨rfl, rfl⟩ (by kernel_rfl) rfl
    (fun f fn hf hfn => by
      obtain rfl : f = 4 := Option.some.inj ((show Tryz.prog.funcNamed "sutler/sutlerlaw08.ObjectLess" = some 4 by kernel_rfl).symm.trans hf) |>.symm
      obtain rfl : fn = Tryz.f4 := (Option.some.inj (Tryz.func4.symm.trans hfn)).symm
      exact ⟨by kernel_rfl, fun j t ht => by
        rw [Tryz.params4] at ht
        have hm : t ∈ ([29, 3] : List Nat) := by simpa using Array.mem_of_getElem? ht
        have hall : (([29, 3] : List Nat).all fun u => !Tryz.prog.wantsStandIn u) = true := by kernel_rfl
        exact (show Tryz.prog.wantsStandIn t = false by simpa using List.all_eq_true.1 hall t hm)⟩)
    (by kernel_rfl)
#print axioms objectLess_holds
end Go.Proofs.YtococcgeoknmjaaGreatDoor
