/- Without other pods each pod is apart, and near just if it asks for its own app alone (package variables of the library as the text of the library lays them). -/
import Derived.Test.YtnbdmjbpgaeacaaGreatDoorM14
import Derived.Test.YtnbdmjbpgaeacaaGreatDoorM33
namespace Go.Proofs.YtnbdmjbpgaeacaaGreatDoor
open Go Go.ChangeShapes Go.WideShapes Go.ChangeAt Go.WideMaps Go.WideElems Go.RowKit Go.Proofs.AM
set_option maxRecDepth 100000

theorem nearAlone_call (xs : List D) (hx : ArgsFit Tryz.prog Tryz.f10.params.toList xs) : PR3.v 10 xs (.bool true) := by
  rw [Tryz.params10] at hx
  replace hx : ArgsFit Tryz.prog [33, 59, 9] xs := hx
  obtain ⟨x0, _, rfl, h0, hx⟩ := args_cons hx
  obtain ⟨x1, _, rfl, h1, hx⟩ := args_cons hx
  obtain ⟨x2, _, rfl, h2, hx⟩ := args_cons hx
  obtain rfl := args_nil hx
  obtain ⟨s, rfl, hs⟩ := fits_snap h0
  obtain ⟨p, rfl, hp⟩ := fits_pod h1
  obtain ⟨c, rfl, hc⟩ := fits_str h2
  exact q10 s hs p hp c
theorem nearAlone_lifted (os : Os) (started : os.Started) (H : Type) (enc : TypeId × Value → H) :
    ReturnsInHanded {} Tryz.checked os 10 .any (fun w args => (Rows.nearAloneSpec.pre enc Tryz.prog Tryz.f10 [] false w args ∧ laidMetH Tryz.prog laid5 w) ∧ sizedMet enc Tryz.prog Tryz.f10 (OpenSpec.ofChange Rows.nearAloneSpec) false w args)
      (Rows.nearAloneSpec.post enc Tryz.prog Tryz.f10 false true false false) := by
  refine returnsInHanded_of_change_and (C := Tryz.checked) (X := fun w _ => laidMetH Tryz.prog laid5 w) (fun _ _ _ hh h => h.of_heap hh) own started (by kernel_rfl) Tryz.func10
    (ChangeSpec.witness_shaped (enc := enc) (C := Tryz.checked) (os := os) (X := fun w _ => laidMetH Tryz.prog laid5 w) false (World.doorLaid Tryz.prog 62 os) #[.agg #[.int .i64 0, .int .i64 0, .int .i64 0, .int .i64 0, .int .i64 0, .int .i64 0, .slice none 0 0, .slice none 0 0, .slice none 0 0, .slice none 0 0, .slice none 0 0, .slice none 0 0, .slice none 0 0, .slice none 0 0], .agg #[.string ⟨#[]⟩, .string ⟨#[]⟩, .int .i64 0, .int .i64 0, .int .i64 0, .slice none 0 0, .slice none 0 0, .slice none 0 0, .slice none 0 0, .slice none 0 0, .int .i64 0, .string ⟨#[]⟩], .string ⟨#[]⟩] 8 rfl (World.shaped_of_RefB (by kernel_rfl) (by kernel_rfl)) (by kernel_rfl) (by kernel_rfl) (by kernel_rfl) (door_met os _)) ?_
  intro W base args ds gs before hval hW hc hsz hL _
  refine law_contract (X := fun w _ => laidMetH Tryz.prog laid5 w) laidOut (by kernel_rfl) (by kernel_rfl) (bt := 4) (by kernel_rfl) Tryz.underlying4 rfl (fun ds hd => ?_) (fun _ _ h => of_laid h) nearAlone_call W base args ds gs before hval hW hc hsz hL
  have hd : ds.length = 3 := hd
  match ds, hd with
  | [d0, d1, d2], _ => exact ⟨rfl, rfl, rfl⟩

theorem nearAlone_c1 : (Rows.nearAloneRow.wf (OpenSpec.ofChange Rows.nearAloneSpec) && laidOutB Tryz.prog && mapsRowed Tryz.prog && Tryz.f10.params.all (Tryz.prog.readableRec ·) && namedTie Tryz.prog Rows.nearAloneRow.named Rows.nearAloneSpec.vars && (Rows.nearAloneRow.stops == []) && (Tryz.prog.stops == []) && (Rows.nearAloneRow.knobs == []) && (Tryz.prog.stopKnobs == [])) = true := by kernel_rfl
theorem nearAlone_c2 : (Rows.nearAloneRow.inPlace == Tryz.prog.inPlace 10) = true := by kernel_rfl
theorem nearAlone_c3 : (Rows.nearAloneRow.unfollowed == Tryz.prog.unfollowed 10) = true := by kernel_rfl
theorem nearAlone_c4 : (Rows.nearAloneRow.recurses == Tryz.prog.recurses 10) = true := by kernel_rfl
theorem nearAlone_c5 : (Rows.nearAloneRow.named == Tryz.prog.varsNamed 10) = true := by kernel_rfl
theorem nearAlone_c6 : ((Rows.nearAloneRow.maps == (Tryz.f10.params.toList ++ Rows.nearAloneSpec.plain.varTypes Tryz.prog).any (Tryz.prog.mapsRec ·)) && (Rows.nearAloneRow.ifaces == (Tryz.f10.params.toList ++ Rows.nearAloneSpec.plain.varTypes Tryz.prog).any (Tryz.prog.ifacesRec ·)) && (Rows.nearAloneRow.mapsOut == Tryz.prog.mapsAmong Tryz.f10.resultTypes.toList) && (Rows.nearAloneRow.loops == (Tryz.f10.params.toList ++ Rows.nearAloneSpec.plain.varTypes Tryz.prog).any (Tryz.prog.loopsFrom ·)) && (Rows.nearAloneRow.wideKeys == (Tryz.f10.params.toList ++ Rows.nearAloneSpec.plain.varTypes Tryz.prog ++ Tryz.f10.resultTypes.toList).any (Tryz.prog.wideKeysFrom ·))) = true := by kernel_rfl
theorem nearAlone_c7 : (Rows.nearAloneSpec.vars.all (Tryz.prog.varReadable ·) && Tryz.f10.resultTypes.all (fun t => Tryz.prog.readableRec t && decide (t < Tryz.prog.types.size)) && (Rows.nearAloneRow.ifacesOut == Tryz.f10.resultTypes.toList.any (Tryz.prog.ifacesRec ·)) && (Rows.nearAloneRow.loopsOut == Tryz.f10.resultTypes.toList.any (Tryz.prog.loopsFrom ·))) = true := by kernel_rfl
theorem nearAlone_c8 : (Rows.nearAloneRow.plainKeys == Tryz.prog.plainKeys) = true := by kernel_rfl
theorem nearAlone_c9 : (Rows.nearAloneRow.shortTexts.isNone && Tryz.prog.stopsHeard && Tryz.prog.mayEnter) = true := by kernel_rfl
theorem nearAlone_c10 : (Rows.nearAloneRow.lifted == Tryz.prog.liftsFinal) = true := by kernel_rfl
theorem nearAlone_c11 : (Tryz.prog.make == some Rows.nearAloneRow.make) = true := by kernel_rfl
theorem nearAlone_c12 : ((Rows.nearAloneRow.kinds == (if Rows.nearAloneRow.domain.isEmpty then [] else Tryz.f10.params.toList.map fun t => match Tryz.prog.underlying t with | some (.int k) => some k | _ => none)) && (Rows.nearAloneRow.pinned == Rows.nearAloneRow.pinnedBy)) = true := by kernel_rfl
theorem nearAlone_c13 : ((Rows.nearAloneRow.veiled == (Tryz.f10.params.toList ++ Rows.nearAloneSpec.plain.varTypes Tryz.prog ++ Tryz.f10.resultTypes.toList).any (Tryz.prog.veiledRec ·)) && Rows.nearAloneRow.veiledFits Tryz.prog Tryz.f10.params.toList (Tryz.f10.params.toList ++ Rows.nearAloneSpec.plain.varTypes Tryz.prog ++ Tryz.f10.resultTypes.toList)) = true := by kernel_rfl
theorem nearAlone_w : Rows.nearAloneRow.wfByText (OpenSpec.ofChange Rows.nearAloneSpec) = true := by kernel_rfl
theorem nearAlone_n : Tryz.prog.funcNamed "sutler/sutlerlaw16.NearAlone" = some 10 := by kernel_rfl
theorem nearAlone_s : (([33, 59, 9] : List Nat).all fun u => !Tryz.prog.wantsStandIn u) = true := by kernel_rfl
theorem nearAlone_g : false = Rows.nearAloneRow.goesBy Tryz.prog := by kernel_rfl
theorem nearAlone_row : Rows.NearAloneSaid :=
  OpenClaim.holds_of_wide 10 Tryz.f10 rfl rfl rfl rfl rfl rfl rfl ⟨rfl, rfl, rfl, rfl, rfl⟩ rfl rfl rfl rfl rfl (by kernel_rfl) Tryz.func10 (joined_split nearAlone_c1 nearAlone_c2 nearAlone_c3 nearAlone_c4 nearAlone_c5 nearAlone_c6 nearAlone_c7 nearAlone_c8 nearAlone_c9 nearAlone_c10 nearAlone_c11 nearAlone_c12 nearAlone_c13)
    (of_decide_eq_true (by kernel_rfl)) (by unfold Func.isWrapper; first | (rw [if_pos (by decide +kernel)]; kernel_rfl) | (rw [if_neg (by decide +kernel)]; exact ⟨rfl, rfl⟩))
    (fun os started H enc _ => nearAlone_lifted os started H enc)

theorem nearAlone_holds : Rows.NearAloneCardSaid :=
  Claim7.holds_tied_plain_at .later [] [.data, .data, .data, .sentinel, .sentinel] true (true, "12857ace036f4670686d1961319b34f0a5366c5768523ec50e0dce2bf56e83df") true
    nearAlone_row (fun _ h => by cases h) nearAlone_w (fun _ h => by cases h) nearAlone_row_tie rfl ⟨rfl, rfl⟩ mainIs_t rfl
    (fun f fn hf hfn => by
      obtain rfl : f = 10 := Option.some.inj (nearAlone_n.symm.trans hf) |>.symm
      obtain rfl : fn = Tryz.f10 := (Option.some.inj (Tryz.func10.symm.trans hfn)).symm
      exact ⟨looks_t, fun j t ht => by
        rw [Tryz.params10] at ht
        have hm : t ∈ ([33, 59, 9] : List Nat) := by simpa using Array.mem_of_getElem? ht
        have hall : (([33, 59, 9] : List Nat).all fun u => !Tryz.prog.wantsStandIn u) = true := nearAlone_s
        exact (show Tryz.prog.wantsStandIn t = false by simpa using List.all_eq_true.1 hall t hm)⟩)
    nearAlone_g
#print axioms nearAlone_holds
end Go.Proofs.YtnbdmjbpgaeacaaGreatDoor
