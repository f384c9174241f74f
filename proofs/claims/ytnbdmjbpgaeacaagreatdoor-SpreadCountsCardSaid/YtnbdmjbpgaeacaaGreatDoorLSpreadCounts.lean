/- By zones and by hosts the same pods are counted, on nodes alone (package variables of the library as the text of the library lays them). -/
import Derived.Test.YtnbdmjbpgaeacaaGreatDoorC14
import Derived.Test.YtnbdmjbpgaeacaaGreatDoorC36
namespace Go.Proofs.YtnbdmjbpgaeacaaGreatDoor
open Go Go.ChangeShapes Go.WideShapes Go.ChangeAt Go.WideMaps Go.WideElems Go.RowKit Go.Proofs.AM
set_option maxRecDepth 100000

theorem spreadCounts_call (xs : List D) (hx : ArgsFit Tryz.prog Tryz.f16.params.toList xs) : PR3.v 16 xs (.bool true) := by
  rw [Tryz.params16] at hx
  replace hx : ArgsFit Tryz.prog [33, 9] xs := hx
  obtain ⟨x0, _, rfl, h0, hx⟩ := args_cons hx
  obtain ⟨x1, _, rfl, h1, hx⟩ := args_cons hx
  obtain rfl := args_nil hx
  obtain ⟨s, rfl, hs⟩ := fits_snap h0
  obtain ⟨a, rfl, ka⟩ := fits_str h1
  exact v16 s hs a
theorem spreadCounts_lifted (os : Os) (started : os.Started) (H : Type) (enc : TypeId × Value → H) :
    ReturnsInHanded {} Tryz.checked os 16 .any (fun w args => (Rows.spreadCountsSpec.pre enc Tryz.prog Tryz.f16 [] false w args ∧ laidMetH Tryz.prog laid5 w) ∧ sizedMet enc Tryz.prog Tryz.f16 (OpenSpec.ofChange Rows.spreadCountsSpec) false w args)
      (Rows.spreadCountsSpec.post enc Tryz.prog Tryz.f16 false true false false) := by
  refine returnsInHanded_of_change_and (C := Tryz.checked) (X := fun w _ => laidMetH Tryz.prog laid5 w) (fun _ _ _ hh h => h.of_heap hh) own started (by kernel_rfl) Tryz.func16
    (ChangeSpec.witness_shaped (enc := enc) (C := Tryz.checked) (os := os) (X := fun w _ => laidMetH Tryz.prog laid5 w) false (World.doorLaid Tryz.prog 62 os) #[.agg #[.int .i64 0, .int .i64 0, .int .i64 0, .int .i64 0, .int .i64 0, .int .i64 0, .slice none 0 0, .slice none 0 0, .slice none 0 0, .slice none 0 0, .slice none 0 0, .slice none 0 0, .slice none 0 0, .slice none 0 0], .string ⟨#[]⟩] 8 rfl (World.shaped_of_RefB (by kernel_rfl) (by kernel_rfl)) (by kernel_rfl) (by kernel_rfl) (by kernel_rfl) (door_met os _)) ?_
  intro W base args ds gs before hval hW hc hsz hL _
  refine law_contract (X := fun w _ => laidMetH Tryz.prog laid5 w) laidOut (by kernel_rfl) (by kernel_rfl) (bt := 4) (by kernel_rfl) Tryz.underlying4 rfl (fun ds hd => ?_) (fun _ _ h => of_laid h) spreadCounts_call W base args ds gs before hval hW hc hsz hL
  have hd : ds.length = 2 := hd
  match ds, hd with
  | [d0, d1], _ => exact ⟨rfl, rfl, rfl⟩

theorem spreadCounts_c1 : (Rows.spreadCountsRow.wf (OpenSpec.ofChange Rows.spreadCountsSpec) && laidOutB Tryz.prog && mapsRowed Tryz.prog && Tryz.f16.params.all (Tryz.prog.readableRec ·) && namedTie Tryz.prog Rows.spreadCountsRow.named Rows.spreadCountsSpec.vars && (Rows.spreadCountsRow.stops == []) && (Tryz.prog.stops == []) && (Rows.spreadCountsRow.knobs == []) && (Tryz.prog.stopKnobs == [])) = true := by kernel_rfl
theorem spreadCounts_c2 : (Rows.spreadCountsRow.inPlace == Tryz.prog.inPlace 16) = true := by kernel_rfl
theorem spreadCounts_c3 : (Rows.spreadCountsRow.unfollowed == Tryz.prog.unfollowed 16) = true := by kernel_rfl
theorem spreadCounts_c4 : (Rows.spreadCountsRow.recurses == Tryz.prog.recurses 16) = true := by kernel_rfl
theorem spreadCounts_c5 : (Rows.spreadCountsRow.named == Tryz.prog.varsNamed 16) = true := by kernel_rfl
theorem spreadCounts_c6 : ((Rows.spreadCountsRow.maps == (Tryz.f16.params.toList ++ Rows.spreadCountsSpec.plain.varTypes Tryz.prog).any (Tryz.prog.mapsRec ·)) && (Rows.spreadCountsRow.ifaces == (Tryz.f16.params.toList ++ Rows.spreadCountsSpec.plain.varTypes Tryz.prog).any (Tryz.prog.ifacesRec ·)) && (Rows.spreadCountsRow.mapsOut == Tryz.prog.mapsAmong Tryz.f16.resultTypes.toList) && (Rows.spreadCountsRow.loops == (Tryz.f16.params.toList ++ Rows.spreadCountsSpec.plain.varTypes Tryz.prog).any (Tryz.prog.loopsFrom ·)) && (Rows.spreadCountsRow.wideKeys == (Tryz.f16.params.toList ++ Rows.spreadCountsSpec.plain.varTypes Tryz.prog ++ Tryz.f16.resultTypes.toList).any (Tryz.prog.wideKeysFrom ·))) = true := by kernel_rfl
theorem spreadCounts_c7 : (Rows.spreadCountsSpec.vars.all (Tryz.prog.varReadable ·) && Tryz.f16.resultTypes.all (fun t => Tryz.prog.readableRec t && decide (t < Tryz.prog.types.size)) && (Rows.spreadCountsRow.ifacesOut == Tryz.f16.resultTypes.toList.any (Tryz.prog.ifacesRec ·)) && (Rows.spreadCountsRow.loopsOut == Tryz.f16.resultTypes.toList.any (Tryz.prog.loopsFrom ·))) = true := by kernel_rfl
theorem spreadCounts_c8 : (Rows.spreadCountsRow.plainKeys == Tryz.prog.plainKeys) = true := by kernel_rfl
theorem spreadCounts_c9 : (Rows.spreadCountsRow.shortTexts.isNone && Tryz.prog.stopsHeard && Tryz.prog.mayEnter) = true := by kernel_rfl
theorem spreadCounts_c10 : (Rows.spreadCountsRow.lifted == Tryz.prog.liftsFinal) = true := by kernel_rfl
theorem spreadCounts_c11 : (Tryz.prog.make == some Rows.spreadCountsRow.make) = true := by kernel_rfl
theorem spreadCounts_c12 : ((Rows.spreadCountsRow.kinds == (if Rows.spreadCountsRow.domain.isEmpty then [] else Tryz.f16.params.toList.map fun t => match Tryz.prog.underlying t with | some (.int k) => some k | _ => none)) && (Rows.spreadCountsRow.pinned == Rows.spreadCountsRow.pinnedBy)) = true := by kernel_rfl
theorem spreadCounts_c13 : ((Rows.spreadCountsRow.veiled == (Tryz.f16.params.toList ++ Rows.spreadCountsSpec.plain.varTypes Tryz.prog ++ Tryz.f16.resultTypes.toList).any (Tryz.prog.veiledRec ·)) && Rows.spreadCountsRow.veiledFits Tryz.prog Tryz.f16.params.toList (Tryz.f16.params.toList ++ Rows.spreadCountsSpec.plain.varTypes Tryz.prog ++ Tryz.f16.resultTypes.toList)) = true := by kernel_rfl
theorem spreadCounts_w : Rows.spreadCountsRow.wfByText (OpenSpec.ofChange Rows.spreadCountsSpec) = true := by kernel_rfl
theorem spreadCounts_n : Tryz.prog.funcNamed "sutler/sutlerlaw15.SpreadCounts" = some 16 := by kernel_rfl
theorem spreadCounts_s : (([33, 9] : List Nat).all fun u => !Tryz.prog.wantsStandIn u) = true := by kernel_rfl
theorem spreadCounts_g : false = Rows.spreadCountsRow.goesBy Tryz.prog := by kernel_rfl
theorem spreadCounts_row : Rows.SpreadCountsSaid :=
  OpenClaim.holds_of_wide 16 Tryz.f16 rfl rfl rfl rfl rfl rfl rfl ⟨rfl, rfl, rfl, rfl, rfl⟩ rfl rfl rfl rfl rfl (by kernel_rfl) Tryz.func16 (joined_split spreadCounts_c1 spreadCounts_c2 spreadCounts_c3 spreadCounts_c4 spreadCounts_c5 spreadCounts_c6 spreadCounts_c7 spreadCounts_c8 spreadCounts_c9 spreadCounts_c10 spreadCounts_c11 spreadCounts_c12 spreadCounts_c13)
    (of_decide_eq_true (by kernel_rfl)) (by unfold Func.isWrapper; first | (rw [if_pos (by decide +kernel)]; kernel_rfl) | (rw [if_neg (by decide +kernel)]; exact ⟨rfl, rfl⟩))
    (fun os started H enc _ => spreadCounts_lifted os started H enc)

theorem spreadCounts_holds : Rows.SpreadCountsCardSaid :=
  Claim7.holds_tied_plain_at .later [] [.data, .data, .data, .sentinel, .sentinel] true (true, "12857ace036f4670686d1961319b34f0a5366c5768523ec50e0dce2bf56e83df") true
    spreadCounts_row (fun _ h => by cases h) spreadCounts_w (fun _ h => by cases h) spreadCounts_row_tie rfl ⟨rfl, rfl⟩ mainIs_t rfl
    (fun f fn hf hfn => by
      obtain rfl : f = 16 := Option.some.inj (spreadCounts_n.symm.trans hf) |>.symm
      obtain rfl : fn = Tryz.f16 := (Option.some.inj (Tryz.func16.symm.trans hfn)).symm
      exact ⟨looks_t, fun j t ht => by
        rw [Tryz.params16] at ht
        have hm : t ∈ ([33, 9] : List Nat) := by simpa using Array.mem_of_getElem? ht
        have hall : (([33, 9] : List Nat).all fun u => !Tryz.prog.wantsStandIn u) = true := spreadCounts_s
        exact (show Tryz.prog.wantsStandIn t = false by simpa using List.all_eq_true.1 hall t hm)⟩)
    spreadCounts_g
#print axioms spreadCounts_holds
end Go.Proofs.YtnbdmjbpgaeacaaGreatDoor
