/- How many claims of all pools are going is how many claims are (package variables of the library as the text of the library lays them). -/
import Derived.Test.YtnbdmjbpgaeacaaGreatDoorB14
import Derived.Test.YtnbdmjbpgaeacaaGreatDoorB37
namespace Go.Proofs.YtnbdmjbpgaeacaaGreatDoor
open Go Go.ChangeShapes Go.WideShapes Go.ChangeAt Go.WideMaps Go.WideElems Go.RowKit Go.Proofs.AM
set_option maxRecDepth 100000

theorem budgetCounts_call (xs : List D) (hx : ArgsFit Tryz.prog Tryz.f6.params.toList xs) : PR3.v 6 xs (.bool true) := by
  rw [Tryz.params6] at hx
  replace hx : ArgsFit Tryz.prog [33] xs := hx
  obtain ⟨x0, _, rfl, h0, hx⟩ := args_cons hx
  obtain rfl := args_nil hx
  obtain ⟨s, rfl, hs⟩ := fits_snap h0
  exact r6 s hs
theorem budgetCounts_lifted (os : Os) (started : os.Started) (H : Type) (enc : TypeId × Value → H) :
    ReturnsInHanded {} Tryz.checked os 6 .any (fun w args => (Rows.budgetCountsSpec.pre enc Tryz.prog Tryz.f6 [] false w args ∧ laidMetH Tryz.prog laid5 w) ∧ sizedMet enc Tryz.prog Tryz.f6 (OpenSpec.ofChange Rows.budgetCountsSpec) false w args)
      (Rows.budgetCountsSpec.post enc Tryz.prog Tryz.f6 false true false false) := by
  refine returnsInHanded_of_change_and (C := Tryz.checked) (X := fun w _ => laidMetH Tryz.prog laid5 w) (fun _ _ _ hh h => h.of_heap hh) own started (by kernel_rfl) Tryz.func6
    (ChangeSpec.witness_shaped (enc := enc) (C := Tryz.checked) (os := os) (X := fun w _ => laidMetH Tryz.prog laid5 w) false (World.doorLaid Tryz.prog 62 os) #[.agg #[.int .i64 0, .int .i64 0, .int .i64 0, .int .i64 0, .int .i64 0, .int .i64 0, .slice none 0 0, .slice none 0 0, .slice none 0 0, .slice none 0 0, .slice none 0 0, .slice none 0 0, .slice none 0 0, .slice none 0 0]] 8 rfl (World.shaped_of_RefB (by kernel_rfl) (by kernel_rfl)) (by kernel_rfl) (by kernel_rfl) (by kernel_rfl) (door_met os _)) ?_
  intro W base args ds gs before hval hW hc hsz hL _
  refine law_contract (X := fun w _ => laidMetH Tryz.prog laid5 w) laidOut (by kernel_rfl) (by kernel_rfl) (bt := 4) (by kernel_rfl) Tryz.underlying4 rfl (fun ds hd => ?_) (fun _ _ h => of_laid h) budgetCounts_call W base args ds gs before hval hW hc hsz hL
  have hd : ds.length = 1 := hd
  match ds, hd with
  | [d0], _ => exact ⟨rfl, rfl, rfl⟩

theorem budgetCounts_c1 : (Rows.budgetCountsRow.wf (OpenSpec.ofChange Rows.budgetCountsSpec) && laidOutB Tryz.prog && mapsRowed Tryz.prog && Tryz.f6.params.all (Tryz.prog.readableRec ·) && namedTie Tryz.prog Rows.budgetCountsRow.named Rows.budgetCountsSpec.vars && (Rows.budgetCountsRow.stops == []) && (Tryz.prog.stops == []) && (Rows.budgetCountsRow.knobs == []) && (Tryz.prog.stopKnobs == [])) = true := by kernel_rfl
theorem budgetCounts_c2 : (Rows.budgetCountsRow.inPlace == Tryz.prog.inPlace 6) = true := by kernel_rfl
theorem budgetCounts_c3 : (Rows.budgetCountsRow.unfollowed == Tryz.prog.unfollowed 6) = true := by kernel_rfl
theorem budgetCounts_c4 : (Rows.budgetCountsRow.recurses == Tryz.prog.recurses 6) = true := by kernel_rfl
theorem budgetCounts_c5 : (Rows.budgetCountsRow.named == Tryz.prog.varsNamed 6) = true := by kernel_rfl
theorem budgetCounts_c6 : ((Rows.budgetCountsRow.maps == (Tryz.f6.params.toList ++ Rows.budgetCountsSpec.plain.varTypes Tryz.prog).any (Tryz.prog.mapsRec ·)) && (Rows.budgetCountsRow.ifaces == (Tryz.f6.params.toList ++ Rows.budgetCountsSpec.plain.varTypes Tryz.prog).any (Tryz.prog.ifacesRec ·)) && (Rows.budgetCountsRow.mapsOut == Tryz.prog.mapsAmong Tryz.f6.resultTypes.toList) && (Rows.budgetCountsRow.loops == (Tryz.f6.params.toList ++ Rows.budgetCountsSpec.plain.varTypes Tryz.prog).any (Tryz.prog.loopsFrom ·)) && (Rows.budgetCountsRow.wideKeys == (Tryz.f6.params.toList ++ Rows.budgetCountsSpec.plain.varTypes Tryz.prog ++ Tryz.f6.resultTypes.toList).any (Tryz.prog.wideKeysFrom ·))) = true := by kernel_rfl
theorem budgetCounts_c7 : (Rows.budgetCountsSpec.vars.all (Tryz.prog.varReadable ·) && Tryz.f6.resultTypes.all (fun t => Tryz.prog.readableRec t && decide (t < Tryz.prog.types.size)) && (Rows.budgetCountsRow.ifacesOut == Tryz.f6.resultTypes.toList.any (Tryz.prog.ifacesRec ·)) && (Rows.budgetCountsRow.loopsOut == Tryz.f6.resultTypes.toList.any (Tryz.prog.loopsFrom ·))) = true := by kernel_rfl
theorem budgetCounts_c8 : (Rows.budgetCountsRow.plainKeys == Tryz.prog.plainKeys) = true := by kernel_rfl
theorem budgetCounts_c9 : (Rows.budgetCountsRow.shortTexts.isNone && Tryz.prog.stopsHeard && Tryz.prog.mayEnter) = true := by kernel_rfl
theorem budgetCounts_c10 : (Rows.budgetCountsRow.lifted == Tryz.prog.liftsFinal) = true := by kernel_rfl
theorem budgetCounts_c11 : (Tryz.prog.make == some Rows.budgetCountsRow.make) = true := by kernel_rfl
theorem budgetCounts_c12 : ((Rows.budgetCountsRow.kinds == (if Rows.budgetCountsRow.domain.isEmpty then [] else Tryz.f6.params.toList.map fun t => match Tryz.prog.underlying t with | some (.int k) => some k | _ => none)) && (Rows.budgetCountsRow.pinned == Rows.budgetCountsRow.pinnedBy)) = true := by kernel_rfl
theorem budgetCounts_c13 : ((Rows.budgetCountsRow.veiled == (Tryz.f6.params.toList ++ Rows.budgetCountsSpec.plain.varTypes Tryz.prog ++ Tryz.f6.resultTypes.toList).any (Tryz.prog.veiledRec ·)) && Rows.budgetCountsRow.veiledFits Tryz.prog Tryz.f6.params.toList (Tryz.f6.params.toList ++ Rows.budgetCountsSpec.plain.varTypes Tryz.prog ++ Tryz.f6.resultTypes.toList)) = true := by kernel_rfl
theorem budgetCounts_w : Rows.budgetCountsRow.wfByText (OpenSpec.ofChange Rows.budgetCountsSpec) = true := by kernel_rfl
theorem budgetCounts_n : Tryz.prog.funcNamed "sutler/sutlerlaw21.BudgetCounts" = some 6 := by kernel_rfl
theorem budgetCounts_s : (([33] : List Nat).all fun u => !Tryz.prog.wantsStandIn u) = true := by kernel_rfl
theorem budgetCounts_g : false = Rows.budgetCountsRow.goesBy Tryz.prog := by kernel_rfl
theorem budgetCounts_row : Rows.BudgetCountsSaid :=
  OpenClaim.holds_of_wide 6 Tryz.f6 rfl rfl rfl rfl rfl rfl rfl ⟨rfl, rfl, rfl, rfl, rfl⟩ rfl rfl rfl rfl rfl (by kernel_rfl) Tryz.func6 (joined_split budgetCounts_c1 budgetCounts_c2 budgetCounts_c3 budgetCounts_c4 budgetCounts_c5 budgetCounts_c6 budgetCounts_c7 budgetCounts_c8 budgetCounts_c9 budgetCounts_c10 budgetCounts_c11 budgetCounts_c12 budgetCounts_c13)
    (of_decide_eq_true (by kernel_rfl)) (by unfold Func.isWrapper; first | (rw [if_pos (by decide +kernel)]; kernel_rfl) | (rw [if_neg (by decide +kernel)]; exact ⟨rfl, rfl⟩))
    (fun os started H enc _ => budgetCounts_lifted os started H enc)

theorem budgetCounts_holds : Rows.BudgetCountsCardSaid :=
  Claim7.holds_tied_plain_at .later [] [.data, .data, .data, .sentinel, .sentinel] true (true, "12857ace036f4670686d1961319b34f0a5366c5768523ec50e0dce2bf56e83df") true
    budgetCounts_row (fun _ h => by cases h) budgetCounts_w (fun _ h => by cases h) budgetCounts_row_tie rfl ⟨rfl, rfl⟩ mainIs_t rfl
    (fun f fn hf hfn => by
      obtain rfl : f = 6 := Option.some.inj (budgetCounts_n.symm.trans hf) |>.symm
      obtain rfl : fn = Tryz.f6 := (Option.some.inj (Tryz.func6.symm.trans hfn)).symm
      exact ⟨looks_t, fun j t ht => by
        rw [Tryz.params6] at ht
        have hm : t ∈ ([33] : List Nat) := by simpa using Array.mem_of_getElem? ht
        have hall : (([33] : List Nat).all fun u => !Tryz.prog.wantsStandIn u) = true := budgetCounts_s
        exact (show Tryz.prog.wantsStandIn t = false by simpa using List.all_eq_true.1 hall t hm)⟩)
    budgetCounts_g
#print axioms budgetCounts_holds
end Go.Proofs.YtnbdmjbpgaeacaaGreatDoor
