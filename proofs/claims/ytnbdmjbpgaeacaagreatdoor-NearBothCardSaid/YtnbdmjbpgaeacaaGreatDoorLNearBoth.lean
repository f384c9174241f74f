/- Of two pods that are alone the one is apart from the other one where that one is apart from it, whichever is bound first (package variables of the library as the text of the library lays them). -/
import Derived.Test.YtnbdmjbpgaeacaaGreatDoorM14
import Derived.Test.YtnbdmjbpgaeacaaGreatDoorM33
namespace Go.Proofs.YtnbdmjbpgaeacaaGreatDoor
open Go Go.ChangeShapes Go.WideShapes Go.ChangeAt Go.WideMaps Go.WideElems Go.RowKit Go.Proofs.AM
set_option maxRecDepth 100000

theorem nearBoth_call (xs : List D) (hx : ArgsFit Tryz.prog Tryz.f9.params.toList xs) : PR3.v 9 xs (.bool true) := by
  rw [Tryz.params9] at hx
  replace hx : ArgsFit Tryz.prog [33, 59, 59, 9, 9] xs := hx
  obtain ⟨x0, _, rfl, h0, hx⟩ := args_cons hx
  obtain ⟨x1, _, rfl, h1, hx⟩ := args_cons hx
  obtain ⟨x2, _, rfl, h2, hx⟩ := args_cons hx
  obtain ⟨x3, _, rfl, h3, hx⟩ := args_cons hx
  obtain ⟨x4, _, rfl, h4, hx⟩ := args_cons hx
  obtain rfl := args_nil hx
  obtain ⟨s, rfl, hs⟩ := fits_snap h0
  obtain ⟨a, rfl, ha⟩ := fits_pod h1
  obtain ⟨b, rfl, hb⟩ := fits_pod h2
  obtain ⟨x, rfl, k1⟩ := fits_str h3
  obtain ⟨y, rfl, k2⟩ := fits_str h4
  exact q9 s hs a ha b hb x k1 y k2
theorem nearBoth_lifted (os : Os) (started : os.Started) (H : Type) (enc : TypeId × Value → H) :
    ReturnsInHanded {} Tryz.checked os 9 .any (fun w args => (Rows.nearBothSpec.pre enc Tryz.prog Tryz.f9 [] false w args ∧ laidMetH Tryz.prog laid5 w) ∧ sizedMet enc Tryz.prog Tryz.f9 (OpenSpec.ofChange Rows.nearBothSpec) false w args)
      (Rows.nearBothSpec.post enc Tryz.prog Tryz.f9 false true false false) := by
  refine returnsInHanded_of_change_and (C := Tryz.checked) (X := fun w _ => laidMetH Tryz.prog laid5 w) (fun _ _ _ hh h => h.of_heap hh) own started (by kernel_rfl) Tryz.func9
    (ChangeSpec.witness_shaped (enc := enc) (C := Tryz.checked) (os := os) (X := fun w _ => laidMetH Tryz.prog laid5 w) false (World.doorLaid Tryz.prog 62 os) #[.agg #[.int .i64 0, .int .i64 0, .int .i64 0, .int .i64 0, .int .i64 0, .int .i64 0, .slice none 0 0, .slice none 0 0, .slice none 0 0, .slice none 0 0, .slice none 0 0, .slice none 0 0, .slice none 0 0, .slice none 0 0], .agg #[.string ⟨#[]⟩, .string ⟨#[]⟩, .int .i64 0, .int .i64 0, .int .i64 0, .slice none 0 0, .slice none 0 0, .slice none 0 0, .slice none 0 0, .slice none 0 0, .int .i64 0, .string ⟨#[]⟩], .agg #[.string ⟨#[]⟩, .string ⟨#[]⟩, .int .i64 0, .int .i64 0, .int .i64 0, .slice none 0 0, .slice none 0 0, .slice none 0 0, .slice none 0 0, .slice none 0 0, .int .i64 0, .string ⟨#[]⟩], .string ⟨#[]⟩, .string ⟨#[]⟩] 8 rfl (World.shaped_of_RefB (by kernel_rfl) (by kernel_rfl)) (by kernel_rfl) (by kernel_rfl) (by kernel_rfl) (door_met os _)) ?_
  intro W base args ds gs before hval hW hc hsz hL _
  refine law_contract (X := fun w _ => laidMetH Tryz.prog laid5 w) laidOut (by kernel_rfl) (by kernel_rfl) (bt := 4) (by kernel_rfl) Tryz.underlying4 rfl (fun ds hd => ?_) (fun _ _ h => of_laid h) nearBoth_call W base args ds gs before hval hW hc hsz hL
  have hd : ds.length = 5 := hd
  match ds, hd with
  | [d0, d1, d2, d3, d4], _ => exact ⟨rfl, rfl, rfl⟩

theorem nearBoth_c1 : (Rows.nearBothRow.wf (OpenSpec.ofChange Rows.nearBothSpec) && laidOutB Tryz.prog && mapsRowed Tryz.prog && Tryz.f9.params.all (Tryz.prog.readableRec ·) && namedTie Tryz.prog Rows.nearBothRow.named Rows.nearBothSpec.vars && (Rows.nearBothRow.stops == []) && (Tryz.prog.stops == []) && (Rows.nearBothRow.knobs == []) && (Tryz.prog.stopKnobs == [])) = true := by kernel_rfl
theorem nearBoth_c2 : (Rows.nearBothRow.inPlace == Tryz.prog.inPlace 9) = true := by kernel_rfl
theorem nearBoth_c3 : (Rows.nearBothRow.unfollowed == Tryz.prog.unfollowed 9) = true := by kernel_rfl
theorem nearBoth_c4 : (Rows.nearBothRow.recurses == Tryz.prog.recurses 9) = true := by kernel_rfl
theorem nearBoth_c5 : (Rows.nearBothRow.named == Tryz.prog.varsNamed 9) = true := by kernel_rfl
theorem nearBoth_c6 : ((Rows.nearBothRow.maps == (Tryz.f9.params.toList ++ Rows.nearBothSpec.plain.varTypes Tryz.prog).any (Tryz.prog.mapsRec ·)) && (Rows.nearBothRow.ifaces == (Tryz.f9.params.toList ++ Rows.nearBothSpec.plain.varTypes Tryz.prog).any (Tryz.prog.ifacesRec ·)) && (Rows.nearBothRow.mapsOut == Tryz.prog.mapsAmong Tryz.f9.resultTypes.toList) && (Rows.nearBothRow.loops == (Tryz.f9.params.toList ++ Rows.nearBothSpec.plain.varTypes Tryz.prog).any (Tryz.prog.loopsFrom ·)) && (Rows.nearBothRow.wideKeys == (Tryz.f9.params.toList ++ Rows.nearBothSpec.plain.varTypes Tryz.prog ++ Tryz.f9.resultTypes.toList).any (Tryz.prog.wideKeysFrom ·))) = true := by kernel_rfl
theorem nearBoth_c7 : (Rows.nearBothSpec.vars.all (Tryz.prog.varReadable ·) && Tryz.f9.resultTypes.all (fun t => Tryz.prog.readableRec t && decide (t < Tryz.prog.types.size)) && (Rows.nearBothRow.ifacesOut == Tryz.f9.resultTypes.toList.any (Tryz.prog.ifacesRec ·)) && (Rows.nearBothRow.loopsOut == Tryz.f9.resultTypes.toList.any (Tryz.prog.loopsFrom ·))) = true := by kernel_rfl
theorem nearBoth_c8 : (Rows.nearBothRow.plainKeys == Tryz.prog.plainKeys) = true := by kernel_rfl
theorem nearBoth_c9 : (Rows.nearBothRow.shortTexts.isNone && Tryz.prog.stopsHeard && Tryz.prog.mayEnter) = true := by kernel_rfl
theorem nearBoth_c10 : (Rows.nearBothRow.lifted == Tryz.prog.liftsFinal) = true := by kernel_rfl
theorem nearBoth_c11 : (Tryz.prog.make == some Rows.nearBothRow.make) = true := by kernel_rfl
theorem nearBoth_c12 : ((Rows.nearBothRow.kinds == (if Rows.nearBothRow.domain.isEmpty then [] else Tryz.f9.params.toList.map fun t => match Tryz.prog.underlying t with | some (.int k) => some k | _ => none)) && (Rows.nearBothRow.pinned == Rows.nearBothRow.pinnedBy)) = true := by kernel_rfl
theorem nearBoth_c13 : ((Rows.nearBothRow.veiled == (Tryz.f9.params.toList ++ Rows.nearBothSpec.plain.varTypes Tryz.prog ++ Tryz.f9.resultTypes.toList).any (Tryz.prog.veiledRec ·)) && Rows.nearBothRow.veiledFits Tryz.prog Tryz.f9.params.toList (Tryz.f9.params.toList ++ Rows.nearBothSpec.plain.varTypes Tryz.prog ++ Tryz.f9.resultTypes.toList)) = true := by kernel_rfl
theorem nearBoth_w : Rows.nearBothRow.wfByText (OpenSpec.ofChange Rows.nearBothSpec) = true := by kernel_rfl
theorem nearBoth_n : Tryz.prog.funcNamed "sutler/sutlerlaw16.NearBoth" = some 9 := by kernel_rfl
theorem nearBoth_s : (([33, 59, 59, 9, 9] : List Nat).all fun u => !Tryz.prog.wantsStandIn u) = true := by kernel_rfl
theorem nearBoth_g : false = Rows.nearBothRow.goesBy Tryz.prog := by kernel_rfl
theorem nearBoth_row : Rows.NearBothSaid :=
  OpenClaim.holds_of_wide 9 Tryz.f9 rfl rfl rfl rfl rfl rfl rfl ⟨rfl, rfl, rfl, rfl, rfl⟩ rfl rfl rfl rfl rfl (by kernel_rfl) Tryz.func9 (joined_split nearBoth_c1 nearBoth_c2 nearBoth_c3 nearBoth_c4 nearBoth_c5 nearBoth_c6 nearBoth_c7 nearBoth_c8 nearBoth_c9 nearBoth_c10 nearBoth_c11 nearBoth_c12 nearBoth_c13)
    (of_decide_eq_true (by kernel_rfl)) (by unfold Func.isWrapper; first | (rw [if_pos (by decide +kernel)]; kernel_rfl) | (rw [if_neg (by decide +kernel)]; exact ⟨rfl, rfl⟩))
    (fun os started H enc _ => nearBoth_lifted os started H enc)

theorem nearBoth_holds : Rows.NearBothCardSaid :=
  Claim7.holds_tied_plain_at .later [] [.data, .data, .data, .sentinel, .sentinel] true (true, "12857ace036f4670686d1961319b34f0a5366c5768523ec50e0dce2bf56e83df") true
    nearBoth_row (fun _ h => by cases h) nearBoth_w (fun _ h => by cases h) nearBoth_row_tie rfl ⟨rfl, rfl⟩ mainIs_t rfl
    (fun f fn hf hfn => by
      obtain rfl : f = 9 := Option.some.inj (nearBoth_n.symm.trans hf) |>.symm
      obtain rfl : fn = Tryz.f9 := (Option.some.inj (Tryz.func9.symm.trans hfn)).symm
      exact ⟨looks_t, fun j t ht => by
        rw [Tryz.params9] at ht
        have hm : t ∈ ([33, 59, 59, 9, 9] : List Nat) := by simpa using Array.mem_of_getElem? ht
        have hall : (([33, 59, 59, 9, 9] : List Nat).all fun u => !Tryz.prog.wantsStandIn u) = true := nearBoth_s
        exact (show Tryz.prog.wantsStandIn t = false by simpa using List.all_eq_true.1 hall t hm)⟩)
    nearBoth_g
#print axioms nearBoth_holds
end Go.Proofs.YtnbdmjbpgaeacaaGreatDoor
