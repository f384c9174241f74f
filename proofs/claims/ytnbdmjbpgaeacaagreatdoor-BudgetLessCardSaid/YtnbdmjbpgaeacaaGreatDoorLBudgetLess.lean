/- No nodes may always go, and of nodes that may go all but one may (package variables of the library as the text of the library lays them). -/
import Derived.Test.YtnbdmjbpgaeacaaGreatDoorB14
import Derived.Test.YtnbdmjbpgaeacaaGreatDoorB37
namespace Go.Proofs.YtnbdmjbpgaeacaaGreatDoor
open Go Go.ChangeShapes Go.WideShapes Go.ChangeAt Go.WideMaps Go.WideElems Go.RowKit Go.Proofs.AM
set_option maxRecDepth 100000

theorem budgetLess_call (xs : List D) (hx : ArgsFit Tryz.prog Tryz.f4.params.toList xs) : PR3.v 4 xs (.bool true) := by
  rw [Tryz.params4] at hx
  replace hx : ArgsFit Tryz.prog [33, 31] xs := hx
  obtain ⟨x0, _, rfl, h0, hx⟩ := args_cons hx
  obtain ⟨x1, _, rfl, h1, hx⟩ := args_cons hx
  obtain rfl := args_nil hx
  obtain ⟨s, rfl, hs⟩ := fits_snap h0
  obtain ⟨l, rfl, hl⟩ := fits_strs h1
  exact r4 s hs l hl
theorem budgetLess_lifted (os : Os) (started : os.Started) (H : Type) (enc : TypeId × Value → H) :
    ReturnsInHanded {} Tryz.checked os 4 .any (fun w args => (Rows.budgetLessSpec.pre enc Tryz.prog Tryz.f4 [] false w args ∧ laidMetH Tryz.prog laid5 w) ∧ sizedMet enc Tryz.prog Tryz.f4 (OpenSpec.ofChange Rows.budgetLessSpec) false w args)
      (Rows.budgetLessSpec.post enc Tryz.prog Tryz.f4 false true false false) := by
  refine returnsInHanded_of_change_and (C := Tryz.checked) (X := fun w _ => laidMetH Tryz.prog laid5 w) (fun _ _ _ hh h => h.of_heap hh) own started (by kernel_rfl) Tryz.func4
    (ChangeSpec.witness_shaped (enc := enc) (C := Tryz.checked) (os := os) (X := fun w _ => laidMetH Tryz.prog laid5 w) false (World.doorLaid Tryz.prog 62 os) #[.agg #[.int .i64 0, .int .i64 0, .int .i64 0, .int .i64 0, .int .i64 0, .int .i64 0, .slice none 0 0, .slice none 0 0, .slice none 0 0, .slice none 0 0, .slice none 0 0, .slice none 0 0, .slice none 0 0, .slice none 0 0], .slice none 0 0] 8 rfl (World.shaped_of_RefB (by kernel_rfl) (by kernel_rfl)) (by kernel_rfl) (by kernel_rfl) (by kernel_rfl) (door_met os _)) ?_
  intro W base args ds gs before hval hW hc hsz hL _
  refine law_contract (X := fun w _ => laidMetH Tryz.prog laid5 w) laidOut (by kernel_rfl) (by kernel_rfl) (bt := 4) (by kernel_rfl) Tryz.underlying4 rfl (fun ds hd => ?_) (fun _ _ h => of_laid h) budgetLess_call W base args ds gs before hval hW hc hsz hL
  have hd : ds.length = 2 := hd
  match ds, hd with
  | [d0, d1], _ => exact ⟨rfl, rfl, rfl⟩

theorem budgetLess_c1 : (Rows.budgetLessRow.wf (OpenSpec.ofChange Rows.budgetLessSpec) && laidOutB Tryz.prog && mapsRowed Tryz.prog && Tryz.f4.params.all (Tryz.prog.readableRec ·) && namedTie Tryz.prog Rows.budgetLessRow.named Rows.budgetLessSpec.vars && (Rows.budgetLessRow.stops == []) && (Tryz.prog.stops == []) && (Rows.budgetLessRow.knobs == []) && (Tryz.prog.stopKnobs == [])) = true := by kernel_rfl
theorem budgetLess_c2 : (Rows.budgetLessRow.inPlace == Tryz.prog.inPlace 4) = true := by kernel_rfl
theorem budgetLess_c3 : (Rows.budgetLessRow.unfollowed == Tryz.prog.unfollowed 4) = true := by kernel_rfl
theorem budgetLess_c4 : (Rows.budgetLessRow.recurses == Tryz.prog.recurses 4) = true := by kernel_rfl
theorem budgetLess_c5 : (Rows.budgetLessRow.named == Tryz.prog.varsNamed 4) = true := by kernel_rfl
theorem budgetLess_c6 : ((Rows.budgetLessRow.maps == (Tryz.f4.params.toList ++ Rows.budgetLessSpec.plain.varTypes Tryz.prog).any (Tryz.prog.mapsRec ·)) && (Rows.budgetLessRow.ifaces == (Tryz.f4.params.toList ++ Rows.budgetLessSpec.plain.varTypes Tryz.prog).any (Tryz.prog.ifacesRec ·)) && (Rows.budgetLessRow.mapsOut == Tryz.prog.mapsAmong Tryz.f4.resultTypes.toList) && (Rows.budgetLessRow.loops == (Tryz.f4.params.toList ++ Rows.budgetLessSpec.plain.varTypes Tryz.prog).any (Tryz.prog.loopsFrom ·)) && (Rows.budgetLessRow.wideKeys == (Tryz.f4.params.toList ++ Rows.budgetLessSpec.plain.varTypes Tryz.prog ++ Tryz.f4.resultTypes.toList).any (Tryz.prog.wideKeysFrom ·))) = true := by kernel_rfl
theorem budgetLess_c7 : (Rows.budgetLessSpec.vars.all (Tryz.prog.varReadable ·) && Tryz.f4.resultTypes.all (fun t => Tryz.prog.readableRec t && decide (t < Tryz.prog.types.size)) && (Rows.budgetLessRow.ifacesOut == Tryz.f4.resultTypes.toList.any (Tryz.prog.ifacesRec ·)) && (Rows.budgetLessRow.loopsOut == Tryz.f4.resultTypes.toList.any (Tryz.prog.loopsFrom ·))) = true := by kernel_rfl
theorem budgetLess_c8 : (Rows.budgetLessRow.plainKeys == Tryz.prog.plainKeys) = true := by kernel_rfl
theorem budgetLess_c9 : (Rows.budgetLessRow.shortTexts.isNone && Tryz.prog.stopsHeard && Tryz.prog.mayEnter) = true := by kernel_rfl
theorem budgetLess_c10 : (Rows.budgetLessRow.lifted == Tryz.prog.liftsFinal) = true := by kernel_rfl
theorem budgetLess_c11 : (Tryz.prog.make == some Rows.budgetLessRow.make) = true := by kernel_rfl
theorem budgetLess_c12 : ((Rows.budgetLessRow.kinds == (if Rows.budgetLessRow.domain.isEmpty then [] else Tryz.f4.params.toList.map fun t => match Tryz.prog.underlying t with | some (.int k) => some k | _ => none)) && (Rows.budgetLessRow.pinned == Rows.budgetLessRow.pinnedBy)) = true := by kernel_rfl
theorem budgetLess_c13 : ((Rows.budgetLessRow.veiled == (Tryz.f4.params.toList ++ Rows.budgetLessSpec.plain.varTypes Tryz.prog ++ Tryz.f4.resultTypes.toList).any (Tryz.prog.veiledRec ·)) && Rows.budgetLessRow.veiledFits Tryz.prog Tryz.f4.params.toList (Tryz.f4.params.toList ++ Rows.budgetLessSpec.plain.varTypes Tryz.prog ++ Tryz.f4.resultTypes.toList)) = true := by kernel_rfl
theorem budgetLess_w : Rows.budgetLessRow.wfByText (OpenSpec.ofChange Rows.budgetLessSpec) = true := by kernel_rfl
theorem budgetLess_n : Tryz.prog.funcNamed "sutler/sutlerlaw21.BudgetLess" = some 4 := by kernel_rfl
theorem budgetLess_s : (([33, 31] : List Nat).all fun u => !Tryz.prog.wantsStandIn u) = true := by kernel_rfl
theorem budgetLess_g : false = Rows.budgetLessRow.goesBy Tryz.prog := by kernel_rfl
theorem budgetLess_row : Rows.BudgetLessSaid :=
  OpenClaim.holds_of_wide 4 Tryz.f4 rfl rfl rfl rfl rfl rfl rfl ⟨rfl, rfl, rfl, rfl, rfl⟩ rfl rfl rfl rfl rfl (by kernel_rfl) Tryz.func4 (joined_split budgetLess_c1 budgetLess_c2 budgetLess_c3 budgetLess_c4 budgetLess_c5 budgetLess_c6 budgetLess_c7 budgetLess_c8 budgetLess_c9 budgetLess_c10 budgetLess_c11 budgetLess_c12 budgetLess_c13)
    (of_decide_eq_true (by kernel_rfl)) (by unfold Func.isWrapper; first | (rw [if_pos (by decide +kernel)]; kernel_rfl) | (rw [if_neg (by decide +kernel)]; exact ⟨rfl, rfl⟩))
    (fun os started H enc _ => budgetLess_lifted os started H enc)

theorem budgetLess_holds : Rows.BudgetLessCardSaid :=
  Claim7.holds_tied_plain_at .later [] [.data, .data, .data, .sentinel, .sentinel] true (true, "12857ace036f4670686d1961319b34f0a5366c5768523ec50e0dce2bf56e83df") true
    budgetLess_row (fun _ h => by cases h) budgetLess_w (fun _ h => by cases h) budgetLess_row_tie rfl ⟨rfl, rfl⟩ mainIs_t rfl
    (fun f fn hf hfn => by
      obtain rfl : f = 4 := Option.some.inj (budgetLess_n.symm.trans hf) |>.symm
      obtain rfl : fn = Tryz.f4 := (Option.some.inj (Tryz.func4.symm.trans hfn)).symm
      exact ⟨looks_t, fun j t ht => by
        rw [Tryz.params4] at ht
        have hm : t ∈ ([33, 31] : List Nat) := by simpa using Array.mem_of_getElem? ht
        have hall : (([33, 31] : List Nat).all fun u => !Tryz.prog.wantsStandIn u) = true := budgetLess_s
        exact (show Tryz.prog.wantsStandIn t = false by simpa using List.all_eq_true.1 hall t hm)⟩)
    budgetLess_g
#print axioms budgetLess_holds
end Go.Proofs.YtnbdmjbpgaeacaaGreatDoor
