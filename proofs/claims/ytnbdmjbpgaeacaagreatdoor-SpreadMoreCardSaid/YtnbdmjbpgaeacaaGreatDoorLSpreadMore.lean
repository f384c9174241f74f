/- Where a pod keeps its spreads it keeps them with one more of skew, and without spreads it keeps them everywhere (package variables of the library as the text of the library lays them). -/
import Derived.Test.YtnbdmjbpgaeacaaGreatDoorC14
import Derived.Test.YtnbdmjbpgaeacaaGreatDoorC36
namespace Go.Proofs.YtnbdmjbpgaeacaaGreatDoor
open Go Go.ChangeShapes Go.WideShapes Go.ChangeAt Go.WideMaps Go.WideElems Go.RowKit Go.Proofs.AM
set_option maxRecDepth 100000

theorem spreadMore_call (xs : List D) (hx : ArgsFit Tryz.prog Tryz.f14.params.toList xs) : PR3.v 14 xs (.bool true) := by
  rw [Tryz.params14] at hx
  replace hx : ArgsFit Tryz.prog [33, 59, 9] xs := hx
  obtain ⟨x0, _, rfl, h0, hx⟩ := args_cons hx
  obtain ⟨x1, _, rfl, h1, hx⟩ := args_cons hx
  obtain ⟨x2, _, rfl, h2, hx⟩ := args_cons hx
  obtain rfl := args_nil hx
  obtain ⟨s, rfl, hs⟩ := fits_snap h0
  obtain ⟨p, rfl, hp⟩ := fits_pod h1
  obtain ⟨c, rfl, hc⟩ := fits_str h2
  exact v14 s hs p hp c
theorem spreadMore_lifted (os : Os) (started : os.Started) (H : Type) (enc : TypeId × Value → H) :
    ReturnsInHanded {} Tryz.checked os 14 .any (fun w args => (Rows.spreadMoreSpec.pre enc Tryz.prog Tryz.f14 [] false w args ∧ laidMetH Tryz.prog laid5 w) ∧ sizedMet enc Tryz.prog Tryz.f14 (OpenSpec.ofChange Rows.spreadMoreSpec) false w args)
      (Rows.spreadMoreSpec.post enc Tryz.prog Tryz.f14 false true false false) := by
  refine returnsInHanded_of_change_and (C := Tryz.checked) (X := fun w _ => laidMetH Tryz.prog laid5 w) (fun _ _ _ hh h => h.of_heap hh) own started (by kernel_rfl) Tryz.func14
    (ChangeSpec.witness_shaped (enc := enc) (C := Tryz.checked) (os := os) (X := fun w _ => laidMetH Tryz.prog laid5 w) false (World.doorLaid Tryz.prog 62 os) #[.agg #[.int .i64 0, .int .i64 0, .int .i64 0, .int .i64 0, .int .i64 0, .int .i64 0, .slice none 0 0, .slice none 0 0, .slice none 0 0, .slice none 0 0, .slice none 0 0, .slice none 0 0, .slice none 0 0, .slice none 0 0], .agg #[.string ⟨#[]⟩, .string ⟨#[]⟩, .int .i64 0, .int .i64 0, .int .i64 0, .slice none 0 0, .slice none 0 0, .slice none 0 0, .slice none 0 0, .slice none 0 0, .int .i64 0, .string ⟨#[]⟩], .string ⟨#[]⟩] 8 rfl (World.shaped_of_RefB (by kernel_rfl) (by kernel_rfl)) (by kernel_rfl) (by kernel_rfl) (by kernel_rfl) (door_met os _)) ?_
  intro W base args ds gs before hval hW hc hsz hL _
  refine law_contract (X := fun w _ => laidMetH Tryz.prog laid5 w) laidOut (by kernel_rfl) (by kernel_rfl) (bt := 4) (by kernel_rfl) Tryz.underlying4 rfl (fun ds hd => ?_) (fun _ _ h => of_laid h) spreadMore_call W base args ds gs before hval hW hc hsz hL
  have hd : ds.length = 3 := hd
  match ds, hd with
  | [d0, d1, d2], _ => exact ⟨rfl, rfl, rfl⟩

theorem spreadMore_c1 : (Rows.spreadMoreRow.wf (OpenSpec.ofChange Rows.spreadMoreSpec) && laidOutB Tryz.prog && mapsRowed Tryz.prog && Tryz.f14.params.all (Tryz.prog.readableRec ·) && namedTie Tryz.prog Rows.spreadMoreRow.named Rows.spreadMoreSpec.vars && (Rows.spreadMoreRow.stops == []) && (Tryz.prog.stops == []) && (Rows.spreadMoreRow.knobs == []) && (Tryz.prog.stopKnobs == [])) = true := by kernel_rfl
theorem spreadMore_c2 : (Rows.spreadMoreRow.inPlace == Tryz.prog.inPlace 14) = true := by kernel_rfl
theorem spreadMore_c3 : (Rows.spreadMoreRow.unfollowed == Tryz.prog.unfollowed 14) = true := by kernel_rfl
theorem spreadMore_c4 : (Rows.spreadMoreRow.recurses == Tryz.prog.recurses 14) = true := by kernel_rfl
theorem spreadMore_c5 : (Rows.spreadMoreRow.named == Tryz.prog.varsNamed 14) = true := by kernel_rfl
theorem spreadMore_c6 : ((Rows.spreadMoreRow.maps == (Tryz.f14.params.toList ++ Rows.spreadMoreSpec.plain.varTypes Tryz.prog).any (Tryz.prog.mapsRec ·)) && (Rows.spreadMoreRow.ifaces == (Tryz.f14.params.toList ++ Rows.spreadMoreSpec.plain.varTypes Tryz.prog).any (Tryz.prog.ifacesRec ·)) && (Rows.spreadMoreRow.mapsOut == Tryz.prog.mapsAmong Tryz.f14.resultTypes.toList) && (Rows.spreadMoreRow.loops == (Tryz.f14.params.toList ++ Rows.spreadMoreSpec.plain.varTypes Tryz.prog).any (Tryz.prog.loopsFrom ·)) && (Rows.spreadMoreRow.wideKeys == (Tryz.f14.params.toList ++ Rows.spreadMoreSpec.plain.varTypes Tryz.prog ++ Tryz.f14.resultTypes.toList).any (Tryz.prog.wideKeysFrom ·))) = true := by kernel_rfl
theorem spreadMore_c7 : (Rows.spreadMoreSpec.vars.all (Tryz.prog.varReadable ·) && Tryz.f14.resultTypes.all (fun t => Tryz.prog.readableRec t && decide (t < Tryz.prog.types.size)) && (Rows.spreadMoreRow.ifacesOut == Tryz.f14.resultTypes.toList.any (Tryz.prog.ifacesRec ·)) && (Rows.spreadMoreRow.loopsOut == Tryz.f14.resultTypes.toList.any (Tryz.prog.loopsFrom ·))) = true := by kernel_rfl
theorem spreadMore_c8 : (Rows.spreadMoreRow.plainKeys == Tryz.prog.plainKeys) = true := by kernel_rfl
theorem spreadMore_c9 : (Rows.spreadMoreRow.shortTexts.isNone && Tryz.prog.stopsHeard && Tryz.prog.mayEnter) = true := by kernel_rfl
theorem spreadMore_c10 : (Rows.spreadMoreRow.lifted == Tryz.prog.liftsFinal) = true := by kernel_rfl
theorem spreadMore_c11 : (Tryz.prog.make == some Rows.spreadMoreRow.make) = true := by kernel_rfl
theorem spreadMore_c12 : ((Rows.spreadMoreRow.kinds == (if Rows.spreadMoreRow.domain.isEmpty then [] else Tryz.f14.params.toList.map fun t => match Tryz.prog.underlying t with | some (.int k) => some k | _ => none)) && (Rows.spreadMoreRow.pinned == Rows.spreadMoreRow.pinnedBy)) = true := by kernel_rfl
theorem spreadMore_c13 : ((Rows.spreadMoreRow.veiled == (Tryz.f14.params.toList ++ Rows.spreadMoreSpec.plain.varTypes Tryz.prog ++ Tryz.f14.resultTypes.toList).any (Tryz.prog.veiledRec ·)) && Rows.spreadMoreRow.veiledFits Tryz.prog Tryz.f14.params.toList (Tryz.f14.params.toList ++ Rows.spreadMoreSpec.plain.varTypes Tryz.prog ++ Tryz.f14.resultTypes.toList)) = true := by kernel_rfl
theorem spreadMore_w : Rows.spreadMoreRow.wfByText (OpenSpec.ofChange Rows.spreadMoreSpec) = true := by kernel_rfl
theorem spreadMore_n : Tryz.prog.funcNamed "sutler/sutlerlaw15.SpreadMore" = some 14 := by kernel_rfl
theorem spreadMore_s : (([33, 59, 9] : List Nat).all fun u => !Tryz.prog.wantsStandIn u) = true := by kernel_rfl
theorem spreadMore_g : false = Rows.spreadMoreRow.goesBy Tryz.prog := by kernel_rfl
theorem spreadMore_row : Rows.SpreadMoreSaid :=
  OpenClaim.holds_of_wide 14 Tryz.f14 rfl rfl rfl rfl rfl rfl rfl ⟨rfl, rfl, rfl, rfl, rfl⟩ rfl rfl rfl rfl rfl (by kernel_rfl) Tryz.func14 (joined_split spreadMore_c1 spreadMore_c2 spreadMore_c3 spreadMore_c4 spreadMore_c5 spreadMore_c6 spreadMore_c7 spreadMore_c8 spreadMore_c9 spreadMore_c10 spreadMore_c11 spreadMore_c12 spreadMore_c13)
    (of_decide_eq_true (by kernel_rfl)) (by unfold Func.isWrapper; first | (rw [if_pos (by decide +kernel)]; kernel_rfl) | (rw [if_neg (by decide +kernel)]; exact ⟨rfl, rfl⟩))
    (fun os started H enc _ => spreadMore_lifted os started H enc)

theorem spreadMore_holds : Rows.SpreadMoreCardSaid :=
  Claim7.holds_tied_plain_at .later [] [.data, .data, .data, .sentinel, .sentinel] true (true, "12857ace036f4670686d1961319b34f0a5366c5768523ec50e0dce2bf56e83df") true
    spreadMore_row (fun _ h => by cases h) spreadMore_w (fun _ h => by cases h) spreadMore_row_tie rfl ⟨rfl, rfl⟩ mainIs_t rfl
    (fun f fn hf hfn => by
      obtain rfl : f = 14 := Option.some.inj (spreadMore_n.symm.trans hf) |>.symm
      obtain rfl : fn = Tryz.f14 := (Option.some.inj (Tryz.func14.symm.trans hfn)).symm
      exact ⟨looks_t, fun j t ht => by
        rw [Tryz.params14] at ht
        have hm : t ∈ ([33, 59, 9] : List Nat) := by simpa using Array.mem_of_getElem? ht
        have hall : (([33, 59, 9] : List Nat).all fun u => !Tryz.prog.wantsStandIn u) = true := spreadMore_s
        exact (show Tryz.prog.wantsStandIn t = false by simpa using List.all_eq_true.1 hall t hm)⟩)
    spreadMore_g
#print axioms spreadMore_holds
end Go.Proofs.YtnbdmjbpgaeacaaGreatDoor
