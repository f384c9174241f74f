/- How many claims of any pool are going, and whether any nodes may go, too, is told just as the document says (package variables of the library as the text of the library lays them). -/
import Derived.Test.YtnbdmjbpgaeacaaGreatDoorB14
import Derived.Test.YtnbdmjbpgaeacaaGreatDoorB37
namespace Go.Proofs.YtnbdmjbpgaeacaaGreatDoor
open Go Go.ChangeShapes Go.WideShapes Go.ChangeAt Go.WideMaps Go.WideElems Go.RowKit Go.Proofs.AM
set_option maxRecDepth 100000

theorem budgetTells_call (xs : List D) (hx : ArgsFit Tryz.prog Tryz.f3.params.toList xs) : PR3.v 3 xs (.bool true) := by
  rw [Tryz.params3] at hx
  replace hx : ArgsFit Tryz.prog [33, 9, 31] xs := hx
  obtain ⟨x0, _, rfl, h0, hx⟩ := args_cons hx
  obtain ⟨x1, _, rfl, h1, hx⟩ := args_cons hx
  obtain ⟨x2, _, rfl, h2, hx⟩ := args_cons hx
  obtain rfl := args_nil hx
  obtain ⟨s, rfl, hs⟩ := fits_snap h0
  obtain ⟨n, rfl, hn⟩ := fits_str h1
  obtain ⟨l, rfl, hl⟩ := fits_strs h2
  exact r3 s hs n l hl
theorem budgetTells_lifted (os : Os) (started : os.Started) (H : Type) (enc : TypeId × Value → H) :
    ReturnsInHanded {} Tryz.checked os 3 .any (fun w args => (Rows.budgetTellsSpec.pre enc Tryz.prog Tryz.f3 [] false w args ∧ laidMetH Tryz.prog laid5 w) ∧ sizedMet enc Tryz.prog Tryz.f3 (OpenSpec.ofChange Rows.budgetTellsSpec) false w args)
      (Rows.budgetTellsSpec.post enc Tryz.prog Tryz.f3 false true false false) := by
  refine returnsInHanded_of_change_and (C := Tryz.checked) (X := fun w _ => laidMetH Tryz.prog laid5 w) (fun _ _ _ hh h => h.of_heap hh) own started (by kernel_rfl) Tryz.func3
    (ChangeSpec.witness_shaped (enc := enc) (C := Tryz.checked) (os := os) (X := fun w _ => laidMetH Tryz.prog laid5 w) false (World.doorLaid Tryz.prog 62 os) #[.agg #[.int .i64 0, .int .i64 0, .int .i64 0, .int .i64 0, .int .i64 0, .int .i64 0, .slice none 0 0, .slice none 0 0, .slice none 0 0, .slice none 0 0, .slice none 0 0, .slice none 0 0, .slice none 0 0, .slice none 0 0], .string ⟨#[]⟩, .slice none 0 0] 8 rfl (World.shaped_of_RefB (by kernel_rfl) (by kernel_rfl)) (by kernel_rfl) (by kernel_rfl) (by kernel_rfl) (door_met os _)) ?_
  intro W base args ds gs before hval hW hc hsz hL _
  refine law_contract (X := fun w _ => laidMetH Tryz.prog laid5 w) laidOut (by kernel_rfl) (by kernel_rfl) (bt := 4) (by kernel_rfl) Tryz.underlying4 rfl (fun ds hd => ?_) (fun _ _ h => of_laid h) budgetTells_call W base args ds gs before hval hW hc hsz hL
  have hd : ds.length = 3 := hd
  match ds, hd with
  | [d0, d1, d2], _ => exact ⟨rfl, rfl, rfl⟩

theorem budgetTells_c1 : (Rows.budgetTellsRow.wf (OpenSpec.ofChange Rows.budgetTellsSpec) && laidOutB Tryz.prog && mapsRowed Tryz.prog && Tryz.f3.params.all (Tryz.prog.readableRec ·) && namedTie Tryz.prog Rows.budgetTellsRow.named Rows.budgetTellsSpec.vars && (Rows.budgetTellsRow.stops == []) && (Tryz.prog.stops == []) && (Rows.budgetTellsRow.knobs == []) && (Tryz.prog.stopKnobs == [])) = true := by kernel_rfl
theorem budgetTells_c2 : (Rows.budgetTellsRow.inPlace == Tryz.prog.inPlace 3) = true := by kernel_rfl
theorem budgetTells_c3 : (Rows.budgetTellsRow.unfollowed == Tryz.prog.unfollowed 3) = true := by kernel_rfl
theorem budgetTells_c4 : (Rows.budgetTellsRow.recurses == Tryz.prog.recurses 3) = true := by kernel_rfl
theorem budgetTells_c5 : (Rows.budgetTellsRow.named == Tryz.prog.varsNamed 3) = true := by kernel_rfl
theorem budgetTells_c6 : ((Rows.budgetTellsRow.maps == (Tryz.f3.params.toList ++ Rows.budgetTellsSpec.plain.varTypes Tryz.prog).any (Tryz.prog.mapsRec ·)) && (Rows.budgetTellsRow.ifaces == (Tryz.f3.params.toList ++ Rows.budgetTellsSpec.plain.varTypes Tryz.prog).any (Tryz.prog.ifacesRec ·)) && (Rows.budgetTellsRow.mapsOut == Tryz.prog.mapsAmong Tryz.f3.resultTypes.toList) && (Rows.budgetTellsRow.loops == (Tryz.f3.params.toList ++ Rows.budgetTellsSpec.plain.varTypes Tryz.prog).any (Tryz.prog.loopsFrom ·)) && (Rows.budgetTellsRow.wideKeys == (Tryz.f3.params.toList ++ Rows.budgetTellsSpec.plain.varTypes Tryz.prog ++ Tryz.f3.resultTypes.toList).any (Tryz.prog.wideKeysFrom ·))) = true := by kernel_rfl
theorem budgetTells_c7 : (Rows.budgetTellsSpec.vars.all (Tryz.prog.varReadable ·) && Tryz.f3.resultTypes.all (fun t => Tryz.prog.readableRec t && decide (t < Tryz.prog.types.size)) && (Rows.budgetTellsRow.ifacesOut == Tryz.f3.resultTypes.toList.any (Tryz.prog.ifacesRec ·)) && (Rows.budgetTellsRow.loopsOut == Tryz.f3.resultTypes.toList.any (Tryz.prog.loopsFrom ·))) = true := by kernel_rfl
theorem budgetTells_c8 : (Rows.budgetTellsRow.plainKeys == Tryz.prog.plainKeys) = true := by kernel_rfl
theorem budgetTells_c9 : (Rows.budgetTellsRow.shortTexts.isNone && Tryz.prog.stopsHeard && Tryz.prog.mayEnter) = true := by kernel_rfl
theorem budgetTells_c10 : (Rows.budgetTellsRow.lifted == Tryz.prog.liftsFinal) = true := by kernel_rfl
theorem budgetTells_c11 : (Tryz.prog.make == some Rows.budgetTellsRow.make) = true := by kernel_rfl
theorem budgetTells_c12 : ((Rows.budgetTellsRow.kinds == (if Rows.budgetTellsRow.domain.isEmpty then [] else Tryz.f3.params.toList.map fun t => match Tryz.prog.underlying t with | some (.int k) => some k | _ => none)) && (Rows.budgetTellsRow.pinned == Rows.budgetTellsRow.pinnedBy)) = true := by kernel_rfl
theorem budgetTells_c13 : ((Rows.budgetTellsRow.veiled == (Tryz.f3.params.toList ++ Rows.budgetTellsSpec.plain.varTypes Tryz.prog ++ Tryz.f3.resultTypes.toList).any (Tryz.prog.veiledRec ·)) && Rows.budgetTellsRow.veiledFits Tryz.prog Tryz.f3.params.toList (Tryz.f3.params.toList ++ Rows.budgetTellsSpec.plain.varTypes Tryz.prog ++ Tryz.f3.resultTypes.toList)) = true := by kernel_rfl
theorem budgetTells_w : Rows.budgetTellsRow.wfByText (OpenSpec.ofChange Rows.budgetTellsSpec) = true := by kernel_rfl
theorem budgetTells_n : Tryz.prog.funcNamed "sutler/sutlerlaw21.BudgetTells" = some 3 := by kernel_rfl
theorem budgetTells_s : (([33, 9, 31] : List Nat).all fun u => !Tryz.prog.wantsStandIn u) = true := by kernel_rfl
theorem budgetTells_g : false = Rows.budgetTellsRow.goesBy Tryz.prog := by kernel_rfl
theorem budgetTells_row : Rows.BudgetTellsSaid :=
  OpenClaim.holds_of_wide 3 Tryz.f3 rfl rfl rfl rfl rfl rfl rfl ⟨rfl, rfl, rfl, rfl, rfl⟩ rfl rfl rfl rfl rfl (by kernel_rfl) Tryz.func3 (joined_split budgetTells_c1 budgetTells_c2 budgetTells_c3 budgetTells_c4 budgetTells_c5 budgetTells_c6 budgetTells_c7 budgetTells_c8 budgetTells_c9 budgetTells_c10 budgetTells_c11 budgetTells_c12 budgetTells_c13)
    (of_decide_eq_true (by kernel_rfl)) (by unfold Func.isWrapper; first | (rw [if_pos (by decide +kernel)]; kernel_rfl) | (rw [if_neg (by decide +kernel)]; exact ⟨rfl, rfl⟩))
    (fun os started H enc _ => budgetTells_lifted os started H enc)

theorem budgetTells_holds : Rows.BudgetTellsCardSaid :=
  Claim7.holds_tied_plain_at .later [] [.data, .data, .data, .sentinel, .sentinel] true (true, "12857ace036f4670686d1961319b34f0a5366c5768523ec50e0dce2bf56e83df") true
    budgetTells_row (fun _ h => by cases h) budgetTells_w (fun _ h => by cases h) budgetTells_row_tie rfl ⟨rfl, rfl⟩ mainIs_t rfl
    (fun f fn hf hfn => by
      obtain rfl : f = 3 := Option.some.inj (budgetTells_n.symm.trans hf) |>.symm
      obtain rfl : fn = Tryz.f3 := (Option.some.inj (Tryz.func3.symm.trans hfn)).symm
      exact ⟨looks_t, fun j t ht => by
        rw [Tryz.params3] at ht
        have hm : t ∈ ([33, 9, 31] : List Nat) := by simpa using Array.mem_of_getElem? ht
        have hall : (([33, 9, 31] : List Nat).all fun u => !Tryz.prog.wantsStandIn u) = true := budgetTells_s
        exact (show Tryz.prog.wantsStandIn t = false by simpa using List.all_eq_true.1 hall t hm)⟩)
    budgetTells_g
#print axioms budgetTells_holds
end Go.Proofs.YtnbdmjbpgaeacaaGreatDoor
