/- Nodes that may go may be marked: then no more of a pool are going than its budget says, of the pools that they are of (package variables of the library as the text of the library lays them). -/
import Derived.Test.YtnbdmjbpgaeacaaGreatDoorB14
import Derived.Test.YtnbdmjbpgaeacaaGreatDoorB37
namespace Go.Proofs.YtnbdmjbpgaeacaaGreatDoor
open Go Go.ChangeShapes Go.WideShapes Go.ChangeAt Go.WideMaps Go.WideElems Go.RowKit Go.Proofs.AM
set_option maxRecDepth 100000

theorem budgetMarks_call (xs : List D) (hx : ArgsFit Tryz.prog Tryz.f5.params.toList xs) : PR3.v 5 xs (.bool true) := by
  rw [Tryz.params5] at hx
  replace hx : ArgsFit Tryz.prog [33, 31] xs := hx
  obtain ⟨x0, _, rfl, h0, hx⟩ := args_cons hx
  obtain ⟨x1, _, rfl, h1, hx⟩ := args_cons hx
  obtain rfl := args_nil hx
  obtain ⟨s, rfl, hs⟩ := fits_snap h0
  obtain ⟨l, rfl, hl⟩ := fits_strs h1
  exact r5 s hs l hl
theorem budgetMarks_lifted (os : Os) (started : os.Started) (H : Type) (enc : TypeId × Value → H) :
    ReturnsInHanded {} Tryz.checked os 5 .any (fun w args => (Rows.budgetMarksSpec.pre enc Tryz.prog Tryz.f5 [] false w args ∧ laidMetH Tryz.prog laid5 w) ∧ sizedMet enc Tryz.prog Tryz.f5 (OpenSpec.ofChange Rows.budgetMarksSpec) false w args)
      (Rows.budgetMarksSpec.post enc Tryz.prog Tryz.f5 false true false false) := by
  refine returnsInHanded_of_change_and (C := Tryz.checked) (X := fun w _ => laidMetH Tryz.prog laid5 w) (fun _ _ _ hh h => h.of_heap hh) own started (by kernel_rfl) Tryz.func5
    (ChangeSpec.witness_shaped (enc := enc) (C := Tryz.checked) (os := os) (X := fun w _ => laidMetH Tryz.prog laid5 w) false (World.doorLaid Tryz.prog 62 os) #[.agg #[.int .i64 0, .int .i64 0, .int .i64 0, .int .i64 0, .int .i64 0, .int .i64 0, .slice none 0 0, .slice none 0 0, .slice none 0 0, .slice none 0 0, .slice none 0 0, .slice none 0 0, .slice none 0 0, .slice none 0 0], .slice none 0 0] 8 rfl (World.shaped_of_RefB (by kernel_rfl) (by kernel_rfl)) (by kernel_rfl) (by kernel_rfl) (by kernel_rfl) (door_met os _)) ?_
  intro W base args ds gs before hval hW hc hsz hL _
  refine law_contract (X := fun w _ => laidMetH Tryz.prog laid5 w) laidOut (by kernel_rfl) (by kernel_rfl) (bt := 4) (by kernel_rfl) Tryz.underlying4 rfl (fun ds hd => ?_) (fun _ _ h => of_laid h) budgetMarks_call W base args ds gs before hval hW hc hsz hL
  have hd : ds.length = 2 := hd
  match ds, hd with
  | [d0, d1], _ => exact ⟨rfl, rfl, rfl⟩

theorem budgetMarks_c1 : (Rows.budgetMarksRow.wf (OpenSpec.ofChange Rows.budgetMarksSpec) && laidOutB Tryz.prog && mapsRowed Tryz.prog && Tryz.f5.params.all (Tryz.prog.readableRec ·) && namedTie Tryz.prog Rows.budgetMarksRow.named Rows.budgetMarksSpec.vars && (Rows.budgetMarksRow.stops == []) && (Tryz.prog.stops == []) && (Rows.budgetMarksRow.knobs == []) && (Tryz.prog.stopKnobs == [])) = true := by kernel_rfl
theorem budgetMarks_c2 : (Rows.budgetMarksRow.inPlace == Tryz.prog.inPlace 5) = true := by kernel_rfl
theorem budgetMarks_c3 : (Rows.budgetMarksRow.unfollowed == Tryz.prog.unfollowed 5) = true := by kernel_rfl
theorem budgetMarks_c4 : (Rows.budgetMarksRow.recurses == Tryz.prog.recurses 5) = true := by kernel_rfl
theorem budgetMarks_c5 : (Rows.budgetMarksRow.named == Tryz.prog.varsNamed 5) = true := by kernel_rfl
theorem budgetMarks_c6 : ((Rows.budgetMarksRow.maps == (Tryz.f5.params.toList ++ Rows.budgetMarksSpec.plain.varTypes Tryz.prog).any (Tryz.prog.mapsRec ·)) && (Rows.budgetMarksRow.ifaces == (Tryz.f5.params.toList ++ Rows.budgetMarksSpec.plain.varTypes Tryz.prog).any (Tryz.prog.ifacesRec ·)) && (Rows.budgetMarksRow.mapsOut == Tryz.prog.mapsAmong Tryz.f5.resultTypes.toList) && (Rows.budgetMarksRow.loops == (Tryz.f5.params.toList ++ Rows.budgetMarksSpec.plain.varTypes Tryz.prog).any (Tryz.prog.loopsFrom ·)) && (Rows.budgetMarksRow.wideKeys == (Tryz.f5.params.toList ++ Rows.budgetMarksSpec.plain.varTypes Tryz.prog ++ Tryz.f5.resultTypes.toList).any (Tryz.prog.wideKeysFrom ·))) = true := by kernel_rfl
theorem budgetMarks_c7 : (Rows.budgetMarksSpec.vars.all (Tryz.prog.varReadable ·) && Tryz.f5.resultTypes.all (fun t => Tryz.prog.readableRec t && decide (t < Tryz.prog.types.size)) && (Rows.budgetMarksRow.ifacesOut == Tryz.f5.resultTypes.toList.any (Tryz.prog.ifacesRec ·)) && (Rows.budgetMarksRow.loopsOut == Tryz.f5.resultTypes.toList.any (Tryz.prog.loopsFrom ·))) = true := by kernel_rfl
theorem budgetMarks_c8 : (Rows.budgetMarksRow.plainKeys == Tryz.prog.plainKeys) = true := by kernel_rfl
theorem budgetMarks_c9 : (Rows.budgetMarksRow.shortTexts.isNone && Tryz.prog.stopsHeard && Tryz.prog.mayEnter) = true := by kernel_rfl
theorem budgetMarks_c10 : (Rows.budgetMarksRow.lifted == Tryz.prog.liftsFinal) = true := by kernel_rfl
theorem budgetMarks_c11 : (Tryz.prog.make == some Rows.budgetMarksRow.make) = true := by kernel_rfl
theorem budgetMarks_c12 : ((Rows.budgetMarksRow.kinds == (if Rows.budgetMarksRow.domain.isEmpty then [] else Tryz.f5.params.toList.map fun t => match Tryz.prog.underlying t with | some (.int k) => some k | _ => none)) && (Rows.budgetMarksRow.pinned == Rows.budgetMarksRow.pinnedBy)) = true := by kernel_rfl
theorem budgetMarks_c13 : ((Rows.budgetMarksRow.veiled == (Tryz.f5.params.toList ++ Rows.budgetMarksSpec.plain.varTypes Tryz.prog ++ Tryz.f5.resultTypes.toList).any (Tryz.prog.veiledRec ·)) && Rows.budgetMarksRow.veiledFits Tryz.prog Tryz.f5.params.toList (Tryz.f5.params.toList ++ Rows.budgetMarksSpec.plain.varTypes Tryz.prog ++ Tryz.f5.resultTypes.toList)) = true := by kernel_rfl
theorem budgetMarks_w : Rows.budgetMarksRow.wfByText (OpenSpec.ofChange Rows.budgetMarksSpec) = true := by kernel_rfl
theorem budgetMarks_n : Tryz.prog.funcNamed "sutler/sutlerlaw21.BudgetMarks" = some 5 := by kernel_rfl
theorem budgetMarks_s : (([33, 31] : List Nat).all fun u => !Tryz.prog.wantsStandIn u) = true := by kernel_rfl
theorem budgetMarks_g : false = Rows.budgetMarksRow.goesBy Tryz.prog := by kernel_rfl
theorem budgetMarks_row : Rows.BudgetMarksSaid :=
  OpenClaim.holds_of_wide 5 Tryz.f5 rfl rfl rfl rfl rfl rfl rfl ⟨rfl, rfl, rfl, rfl, rfl⟩ rfl rfl rfl rfl rfl (by kernel_rfl) Tryz.func5 (joined_split budgetMarks_c1 budgetMarks_c2 budgetMarks_c3 budgetMarks_c4 budgetMarks_c5 budgetMarks_c6 budgetMarks_c7 budgetMarks_c8 budgetMarks_c9 budgetMarks_c10 budgetMarks_c11 budgetMarks_c12 budgetMarks_c13)
    (of_decide_eq_true (by kernel_rfl)) (by unfold Func.isWrapper; first | (rw [if_pos (by decide +kernel)]; kernel_rfl) | (rw [if_neg (by decide +kernel)]; exact ⟨rfl, rfl⟩))
    (fun os started H enc _ => budgetMarks_lifted os started H enc)

theorem budgetMarks_holds : Rows.BudgetMarksCardSaid :=
  Claim7.holds_tied_plain_at .later [] [.data, .data, .data, .sentinel, .sentinel] true (true, "12857ace036f4670686d1961319b34f0a5366c5768523ec50e0dce2bf56e83df") true
    budgetMarks_row (fun _ h => by cases h) budgetMarks_w (fun _ h => by cases h) budgetMarks_row_tie rfl ⟨rfl, rfl⟩ mainIs_t rfl
    (fun f fn hf hfn => by
      obtain rfl : f = 5 := Option.some.inj (budgetMarks_n.symm.trans hf) |>.symm
      obtain rfl : fn = Tryz.f5 := (Option.some.inj (Tryz.func5.symm.trans hfn)).symm
      exact ⟨looks_t, fun j t ht => by
        rw [Tryz.params5] at ht
        have hm : t ∈ ([33, 31] : List Nat) := by simpa using Array.mem_of_getElem? ht
        have hall : (([33, 31] : List Nat).all fun u => !Tryz.prog.wantsStandIn u) = true := budgetMarks_s
        exact (show Tryz.prog.wantsStandIn t = false by simpa using List.all_eq_true.1 hall t hm)⟩)
    budgetMarks_g
#print axioms budgetMarks_holds
end Go.Proofs.YtnbdmjbpgaeacaaGreatDoor
