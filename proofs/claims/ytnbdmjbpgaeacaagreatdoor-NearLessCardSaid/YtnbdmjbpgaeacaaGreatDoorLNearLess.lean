/- A term less asks for no more: what was near, or apart, is so without it (package variables of the library as the text of the library lays them). -/
import Derived.Test.YtnbdmjbpgaeacaaGreatDoorM14
import Derived.Test.YtnbdmjbpgaeacaaGreatDoorM33
namespace Go.Proofs.YtnbdmjbpgaeacaaGreatDoor
open Go Go.ChangeShapes Go.WideShapes Go.ChangeAt Go.WideMaps Go.WideElems Go.RowKit Go.Proofs.AM
set_option maxRecDepth 100000

theorem nearLess_call (xs : List D) (hx : ArgsFit Tryz.prog Tryz.f11.params.toList xs) : PR3.v 11 xs (.bool true) := by
  rw [Tryz.params11] at hx
  replace hx : ArgsFit Tryz.prog [33, 59, 9, 3] xs := hx
  obtain ⟨x0, _, rfl, h0, hx⟩ := args_cons hx
  obtain ⟨x1, _, rfl, h1, hx⟩ := args_cons hx
  obtain ⟨x2, _, rfl, h2, hx⟩ := args_cons hx
  obtain ⟨x3, _, rfl, h3, hx⟩ := args_cons hx
  obtain rfl := args_nil hx
  obtain ⟨s, rfl, hs⟩ := fits_snap h0
  obtain ⟨p, rfl, hp⟩ := fits_pod h1
  obtain ⟨c, rfl, hc⟩ := fits_str h2
  obtain ⟨w, rfl, hw⟩ := fits_int h3
  exact q11 s hs p hp c w hw
theorem nearLess_lifted (os : Os) (started : os.Started) (H : Type) (enc : TypeId × Value → H) :
    ReturnsInHanded {} Tryz.checked os 11 .any (fun w args => (Rows.nearLessSpec.pre enc Tryz.prog Tryz.f11 [] false w args ∧ laidMetH Tryz.prog laid5 w) ∧ sizedMet enc Tryz.prog Tryz.f11 (OpenSpec.ofChange Rows.nearLessSpec) false w args)
      (Rows.nearLessSpec.post enc Tryz.prog Tryz.f11 false true false false) := by
  refine returnsInHanded_of_change_and (C := Tryz.checked) (X := fun w _ => laidMetH Tryz.prog laid5 w) (fun _ _ _ hh h => h.of_heap hh) own started (by kernel_rfl) Tryz.func11
    (ChangeSpec.witness_shaped (enc := enc) (C := Tryz.checked) (os := os) (X := fun w _ => laidMetH Tryz.prog laid5 w) false (World.doorLaid Tryz.prog 62 os) #[.agg #[.int .i64 0, .int .i64 0, .int .i64 0, .int .i64 0, .int .i64 0, .int .i64 0, .slice none 0 0, .slice none 0 0, .slice none 0 0, .slice none 0 0, .slice none 0 0, .slice none 0 0, .slice none 0 0, .slice none 0 0], .agg #[.string ⟨#[]⟩, .string ⟨#[]⟩, .int .i64 0, .int .i64 0, .int .i64 0, .slice none 0 0, .slice none 0 0, .slice none 0 0, .slice none 0 0, .slice none 0 0, .int .i64 0, .string ⟨#[]⟩], .string ⟨#[]⟩, .int .i64 0] 8 rfl (World.shaped_of_RefB (by kernel_rfl) (by kernel_rfl)) (by kernel_rfl) (by kernel_rfl) (by kernel_rfl) (door_met os _)) ?_
  intro W base args ds gs before hval hW hc hsz hL _
  refine law_contract (X := fun w _ => laidMetH Tryz.prog laid5 w) laidOut (by kernel_rfl) (by kernel_rfl) (bt := 4) (by kernel_rfl) Tryz.underlying4 rfl (fun ds hd => ?_) (fun _ _ h => of_laid h) nearLess_call W base args ds gs before hval hW hc hsz hL
  have hd : ds.length = 4 := hd
  match ds, hd with
  | [d0, d1, d2, d3], _ => exact ⟨rfl, rfl, rfl⟩

theorem nearLess_c1 : (Rows.nearLessRow.wf (OpenSpec.ofChange Rows.nearLessSpec) && laidOutB Tryz.prog && mapsRowed Tryz.prog && Tryz.f11.params.all (Tryz.prog.readableRec ·) && namedTie Tryz.prog Rows.nearLessRow.named Rows.nearLessSpec.vars && (Rows.nearLessRow.stops == []) && (Tryz.prog.stops == []) && (Rows.nearLessRow.knobs == []) && (Tryz.prog.stopKnobs == [])) = true := by kernel_rfl
theorem nearLess_c2 : (Rows.nearLessRow.inPlace == Tryz.prog.inPlace 11) = true := by kernel_rfl
theorem nearLess_c3 : (Rows.nearLessRow.unfollowed == Tryz.prog.unfollowed 11) = true := by kernel_rfl
theorem nearLess_c4 : (Rows.nearLessRow.recurses == Tryz.prog.recurses 11) = true := by kernel_rfl
theorem nearLess_c5 : (Rows.nearLessRow.named == Tryz.prog.varsNamed 11) = true := by kernel_rfl
theorem nearLess_c6 : ((Rows.nearLessRow.maps == (Tryz.f11.params.toList ++ Rows.nearLessSpec.plain.varTypes Tryz.prog).any (Tryz.prog.mapsRec ·)) && (Rows.nearLessRow.ifaces == (Tryz.f11.params.toList ++ Rows.nearLessSpec.plain.varTypes Tryz.prog).any (Tryz.prog.ifacesRec ·)) && (Rows.nearLessRow.mapsOut == Tryz.prog.mapsAmong Tryz.f11.resultTypes.toList) && (Rows.nearLessRow.loops == (Tryz.f11.params.toList ++ Rows.nearLessSpec.plain.varTypes Tryz.prog).any (Tryz.prog.loopsFrom ·)) && (Rows.nearLessRow.wideKeys == (Tryz.f11.params.toList ++ Rows.nearLessSpec.plain.varTypes Tryz.prog ++ Tryz.f11.resultTypes.toList).any (Tryz.prog.wideKeysFrom ·))) = true := by kernel_rfl
theorem nearLess_c7 : (Rows.nearLessSpec.vars.all (Tryz.prog.varReadable ·) && Tryz.f11.resultTypes.all (fun t => Tryz.prog.readableRec t && decide (t < Tryz.prog.types.size)) && (Rows.nearLessRow.ifacesOut == Tryz.f11.resultTypes.toList.any (Tryz.prog.ifacesRec ·)) && (Rows.nearLessRow.loopsOut == Tryz.f11.resultTypes.toList.any (Tryz.prog.loopsFrom ·))) = true := by kernel_rfl
theorem nearLess_c8 : (Rows.nearLessRow.plainKeys == Tryz.prog.plainKeys) = true := by kernel_rfl
theorem nearLess_c9 : (Rows.nearLessRow.shortTexts.isNone && Tryz.prog.stopsHeard && Tryz.prog.mayEnter) = true := by kernel_rfl
theorem nearLess_c10 : (Rows.nearLessRow.lifted == Tryz.prog.liftsFinal) = true := by kernel_rfl
theorem nearLess_c11 : (Tryz.prog.make == some Rows.nearLessRow.make) = true := by kernel_rfl
theorem nearLess_c12 : ((Rows.nearLessRow.kinds == (if Rows.nearLessRow.domain.isEmpty then [] else Tryz.f11.params.toList.map fun t => match Tryz.prog.underlying t with | some (.int k) => some k | _ => none)) && (Rows.nearLessRow.pinned == Rows.nearLessRow.pinnedBy)) = true := by kernel_rfl
theorem nearLess_c13 : ((Rows.nearLessRow.veiled == (Tryz.f11.params.toList ++ Rows.nearLessSpec.plain.varTypes Tryz.prog ++ Tryz.f11.resultTypes.toList).any (Tryz.prog.veiledRec ·)) && Rows.nearLessRow.veiledFits Tryz.prog Tryz.f11.params.toList (Tryz.f11.params.toList ++ Rows.nearLessSpec.plain.varTypes Tryz.prog ++ Tryz.f11.resultTypes.toList)) = true := by kernel_rfl
theorem nearLess_w : Rows.nearLessRow.wfByText (OpenSpec.ofChange Rows.nearLessSpec) = true := by kernel_rfl
theorem nearLess_n : Tryz.prog.funcNamed "sutler/sutlerlaw16.NearLess" = some 11 := by kernel_rfl
theorem nearLess_s : (([33, 59, 9, 3] : List Nat).all fun u => !Tryz.prog.wantsStandIn u) = true := by kernel_rfl
theorem nearLess_g : false = Rows.nearLessRow.goesBy Tryz.prog := by kernel_rfl
theorem nearLess_row : Rows.NearLessSaid :=
  OpenClaim.holds_of_wide 11 Tryz.f11 rfl rfl rfl rfl rfl rfl rfl ⟨rfl, rfl, rfl, rfl, rfl⟩ rfl rfl rfl rfl rfl (by kernel_rfl) Tryz.func11 (joined_split nearLess_c1 nearLess_c2 nearLess_c3 nearLess_c4 nearLess_c5 nearLess_c6 nearLess_c7 nearLess_c8 nearLess_c9 nearLess_c10 nearLess_c11 nearLess_c12 nearLess_c13)
    (of_decide_eq_true (by kernel_rfl)) (by unfold Func.isWrapper; first | (rw [if_pos (by decide +kernel)]; kernel_rfl) | (rw [if_neg (by decide +kernel)]; exact ⟨rfl, rfl⟩))
    (fun os started H enc _ => nearLess_lifted os started H enc)

theorem nearLess_holds : Rows.NearLessCardSaid :=
  Claim7.holds_tied_plain_at .later [] [.data, .data, .data, .sentinel, .sentinel] true (true, "12857ace036f4670686d1961319b34f0a5366c5768523ec50e0dce2bf56e83df") true
    nearLess_row (fun _ h => by cases h) nearLess_w (fun _ h => by cases h) nearLess_row_tie rfl ⟨rfl, rfl⟩ mainIs_t rfl
    (fun f fn hf hfn => by
      obtain rfl : f = 11 := Option.some.inj (nearLess_n.symm.trans hf) |>.symm
      obtain rfl : fn = Tryz.f11 := (Option.some.inj (Tryz.func11.symm.trans hfn)).symm
      exact ⟨looks_t, fun j t ht => by
        rw [Tryz.params11] at ht
        have hm : t ∈ ([33, 59, 9, 3] : List Nat) := by simpa using Array.mem_of_getElem? ht
        have hall : (([33, 59, 9, 3] : List Nat).all fun u => !Tryz.prog.wantsStandIn u) = true := nearLess_s
        exact (show Tryz.prog.wantsStandIn t = false by simpa using List.all_eq_true.1 hall t hm)⟩)
    nearLess_g
#print axioms nearLess_holds
end Go.Proofs.YtnbdmjbpgaeacaaGreatDoor
