/- Whether a pod keeps its spreads on any claim is told just as the document says (package variables of the library as the text of the library lays them). -/
import Derived.Test.YtnbdmjbpgaeacaaGreatDoorC14
import Derived.Test.YtnbdmjbpgaeacaaGreatDoorC36
namespace Go.Proofs.YtnbdmjbpgaeacaaGreatDoor
open Go Go.ChangeShapes Go.WideShapes Go.ChangeAt Go.WideMaps Go.WideElems Go.RowKit Go.Proofs.AM
set_option maxRecDepth 100000

theorem spreadFits_call (xs : List D) (hx : ArgsFit Tryz.prog Tryz.f13.params.toList xs) : PR3.v 13 xs (.bool true) := by
  rw [Tryz.params13] at hx
  replace hx : ArgsFit Tryz.prog [33, 59, 9] xs := hx
  obtain ⟨x0, _, rfl, h0, hx⟩ := args_cons hx
  obtain ⟨x1, _, rfl, h1, hx⟩ := args_cons hx
  obtain ⟨x2, _, rfl, h2, hx⟩ := args_cons hx
  obtain rfl := args_nil hx
  obtain ⟨s, rfl, hs⟩ := fits_snap h0
  obtain ⟨p, rfl, hp⟩ := fits_pod h1
  obtain ⟨c, rfl, hc⟩ := fits_str h2
  exact v13 s hs p hp c
theorem spreadFits_lifted (os : Os) (started : os.Started) (H : Type) (enc : TypeId × Value → H) :
    ReturnsInHanded {} Tryz.checked os 13 .any (fun w args => (Rows.spreadFitsSpec.pre enc Tryz.prog Tryz.f13 [] false w args ∧ laidMetH Tryz.prog laid5 w) ∧ sizedMet enc Tryz.prog Tryz.f13 (OpenSpec.ofChange Rows.spreadFitsSpec) false w args)
      (Rows.spreadFitsSpec.post enc Tryz.prog Tryz.f13 false true false false) := by
  refine returnsInHanded_of_change_and (C := Tryz.checked) (X := fun w _ => laidMetH Tryz.prog laid5 w) (fun _ _ _ hh h => h.of_heap hh) own started (by kernel_rfl) Tryz.func13
    (ChangeSpec.witness_shaped (enc := enc) (C := Tryz.checked) (os := os) (X := fun w _ => laidMetH Tryz.prog laid5 w) false (World.doorLaid Tryz.prog 62 os) #[.agg #[.int .i64 0, .int .i64 0, .int .i64 0, .int .i64 0, .int .i64 0, .int .i64 0, .slice none 0 0, .slice none 0 0, .slice none 0 0, .slice none 0 0, .slice none 0 0, .slice none 0 0, .slice none 0 0, .slice none 0 0], .agg #[.string ⟨#[]⟩, .string ⟨#[]⟩, .int .i64 0, .int .i64 0, .int .i64 0, .slice none 0 0, .slice none 0 0, .slice none 0 0, .slice none 0 0, .slice none 0 0, .int .i64 0, .string ⟨#[]⟩], .string ⟨#[]⟩] 8 rfl (World.shaped_of_RefB (by kernel_rfl) (by kernel_rfl)) (by kernel_rfl) (by kernel_rfl) (by kernel_rfl) (door_met os _)) ?_
  intro W base args ds gs before hval hW hc hsz hL _
  refine law_contract (X := fun w _ => laidMetH Tryz.prog laid5 w) laidOut (by kernel_rfl) (by kernel_rfl) (bt := 4) (by kernel_rfl) Tryz.underlying4 rfl (fun ds hd => ?_) (fun _ _ h => of_laid h) spreadFits_call W base args ds gs before hval hW hc hsz hL
  have hd : ds.length = 3 := hd
  match ds, hd with
  | [d0, d1, d2], _ => exact ⟨rfl, rfl, rfl⟩

theorem spreadFits_c1 : (Rows.spreadFitsRow.wf (OpenSpec.ofChange Rows.spreadFitsSpec) && laidOutB Tryz.prog && mapsRowed Tryz.prog && Tryz.f13.params.all (Tryz.prog.readableRec ·) && namedTie Tryz.prog Rows.spreadFitsRow.named Rows.spreadFitsSpec.vars && (Rows.spreadFitsRow.stops == []) && (Tryz.prog.stops == []) && (Rows.spreadFitsRow.knobs == []) && (Tryz.prog.stopKnobs == [])) = true := by kernel_rfl
theorem spreadFits_c2 : (Rows.spreadFitsRow.inPlace == Tryz.prog.inPlace 13) = true := by kernel_rfl
theorem spreadFits_c3 : (Rows.spreadFitsRow.unfollowed == Tryz.prog.unfollowed 13) = true := by kernel_rfl
theorem spreadFits_c4 : (Rows.spreadFitsRow.recurses == Tryz.prog.recurses 13) = true := by kernel_rfl
theorem spreadFits_c5 : (Rows.spreadFitsRow.named == Tryz.prog.varsNamed 13) = true := by kernel_rfl
theorem spreadFits_c6 : ((Rows.spreadFitsRow.maps == (Tryz.f13.params.toList ++ Rows.spreadFitsSpec.plain.varTypes Tryz.prog).any (Tryz.prog.mapsRec ·)) && (Rows.spreadFitsRow.ifaces == (Tryz.f13.params.toList ++ Rows.spreadFitsSpec.plain.varTypes Tryz.prog).any (Tryz.prog.ifacesRec ·)) && (Rows.spreadFitsRow.mapsOut == Tryz.prog.mapsAmong Tryz.f13.resultTypes.toList) && (Rows.spreadFitsRow.loops == (Tryz.f13.params.toList ++ Rows.spreadFitsSpec.plain.varTypes Tryz.prog).any (Tryz.prog.loopsFrom ·)) && (Rows.spreadFitsRow.wideKeys == (Tryz.f13.params.toList ++ Rows.spreadFitsSpec.plain.varTypes Tryz.prog ++ Tryz.f13.resultTypes.toList).any (Tryz.prog.wideKeysFrom ·))) = true := by kernel_rfl
theorem spreadFits_c7 : (Rows.spreadFitsSpec.vars.all (Tryz.prog.varReadable ·) && Tryz.f13.resultTypes.all (fun t => Tryz.prog.readableRec t && decide (t < Tryz.prog.types.size)) && (Rows.spreadFitsRow.ifacesOut == Tryz.f13.resultTypes.toList.any (Tryz.prog.ifacesRec ·)) && (Rows.spreadFitsRow.loopsOut == Tryz.f13.resultTypes.toList.any (Tryz.prog.loopsFrom ·))) = true := by kernel_rfl
theorem spreadFits_c8 : (Rows.spreadFitsRow.plainKeys == Tryz.prog.plainKeys) = true := by kernel_rfl
theorem spreadFits_c9 : (Rows.spreadFitsRow.shortTexts.isNone && Tryz.prog.stopsHeard && Tryz.prog.mayEnter) = true := by kernel_rfl
theorem spreadFits_c10 : (Rows.spreadFitsRow.lifted == Tryz.prog.liftsFinal) = true := by kernel_rfl
theorem spreadFits_c11 : (Tryz.prog.make == some Rows.spreadFitsRow.make) = true := by kernel_rfl
theorem spreadFits_c12 : ((Rows.spreadFitsRow.kinds == (if Rows.spreadFitsRow.domain.isEmpty then [] else Tryz.f13.params.toList.map fun t => match Tryz.prog.underlying t with | some (.int k) => some k | _ => none)) && (Rows.spreadFitsRow.pinned == Rows.spreadFitsRow.pinnedBy)) = true := by kernel_rfl
theorem spreadFits_c13 : ((Rows.spreadFitsRow.veiled == (Tryz.f13.params.toList ++ Rows.spreadFitsSpec.plain.varTypes Tryz.prog ++ Tryz.f13.resultTypes.toList).any (Tryz.prog.veiledRec ·)) && Rows.spreadFitsRow.veiledFits Tryz.prog Tryz.f13.params.toList (Tryz.f13.params.toList ++ Rows.spreadFitsSpec.plain.varTypes Tryz.prog ++ Tryz.f13.resultTypes.toList)) = true := by kernel_rfl
theorem spreadFits_w : Rows.spreadFitsRow.wfByText (OpenSpec.ofChange Rows.spreadFitsSpec) = true := by kernel_rfl
theorem spreadFits_n : Tryz.prog.funcNamed "sutler/sutlerlaw15.SpreadFits" = some 13 := by kernel_rfl
theorem spreadFits_s : (([33, 59, 9] : List Nat).all fun u => !Tryz.prog.wantsStandIn u) = true := by kernel_rfl
theorem spreadFits_g : false = Rows.spreadFitsRow.goesBy Tryz.prog := by kernel_rfl
theorem spreadFits_row : Rows.SpreadFitsSaid :=
  OpenClaim.holds_of_wide 13 Tryz.f13 rfl rfl rfl rfl rfl rfl rfl ⟨rfl, rfl, rfl, rfl, rfl⟩ rfl rfl rfl rfl rfl (by kernel_rfl) Tryz.func13 (joined_split spreadFits_c1 spreadFits_c2 spreadFits_c3 spreadFits_c4 spreadFits_c5 spreadFits_c6 spreadFits_c7 spreadFits_c8 spreadFits_c9 spreadFits_c10 spreadFits_c11 spreadFits_c12 spreadFits_c13)
    (of_decide_eq_true (by kernel_rfl)) (by unfold Func.isWrapper; first | (rw [if_pos (by decide +kernel)]; kernel_rfl) | (rw [if_neg (by decide +kernel)]; exact ⟨rfl, rfl⟩))
    (fun os started H enc _ => spreadFits_lifted os started H enc)

theorem spreadFits_holds : Rows.SpreadFitsCardSaid :=
  Claim7.holds_tied_plain_at .later [] [.data, .data, .data, .sentinel, .sentinel] true (true, "12857ace036f4670686d1961319b34f0a5366c5768523ec50e0dce2bf56e83df") true
    spreadFits_row (fun _ h => by cases h) spreadFits_w (fun _ h => by cases h) spreadFits_row_tie rfl ⟨rfl, rfl⟩ mainIs_t rfl
    (fun f fn hf hfn => by
      obtain rfl : f = 13 := Option.some.inj (spreadFits_n.symm.trans hf) |>.symm
      obtain rfl : fn = Tryz.f13 := (Option.some.inj (Tryz.func13.symm.trans hfn)).symm
      exact ⟨looks_t, fun j t ht => by
        rw [Tryz.params13] at ht
        have hm : t ∈ ([33, 59, 9] : List Nat) := by simpa using Array.mem_of_getElem? ht
        have hall : (([33, 59, 9] : List Nat).all fun u => !Tryz.prog.wantsStandIn u) = true := spreadFits_s
        exact (show Tryz.prog.wantsStandIn t = false by simpa using List.all_eq_true.1 hall t hm)⟩)
    spreadFits_g
#print axioms spreadFits_holds
end Go.Proofs.YtnbdmjbpgaeacaaGreatDoor
