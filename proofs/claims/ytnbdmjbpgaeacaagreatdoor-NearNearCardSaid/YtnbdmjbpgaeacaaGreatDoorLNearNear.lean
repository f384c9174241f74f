/- Whether a pod is near what it asks for is told just as the document says (package variables of the library as the text of the library lays them). -/
import Derived.Test.YtnbdmjbpgaeacaaGreatDoorM14
import Derived.Test.YtnbdmjbpgaeacaaGreatDoorM33
namespace Go.Proofs.YtnbdmjbpgaeacaaGreatDoor
open Go Go.ChangeShapes Go.WideShapes Go.ChangeAt Go.WideMaps Go.WideElems Go.RowKit Go.Proofs.AM
set_option maxRecDepth 100000

theorem nearNear_call (xs : List D) (hx : ArgsFit Tryz.prog Tryz.f7.params.toList xs) : PR3.v 7 xs (.bool true) := by
  rw [Tryz.params7] at hx
  replace hx : ArgsFit Tryz.prog [33, 59, 9] xs := hx
  obtain ⟨x0, _, rfl, h0, hx⟩ := args_cons hx
  obtain ⟨x1, _, rfl, h1, hx⟩ := args_cons hx
  obtain ⟨x2, _, rfl, h2, hx⟩ := args_cons hx
  obtain rfl := args_nil hx
  obtain ⟨s, rfl, hs⟩ := fits_snap h0
  obtain ⟨p, rfl, hp⟩ := fits_pod h1
  obtain ⟨c, rfl, hc⟩ := fits_str h2
  exact q7 s hs p hp c
theorem nearNear_lifted (os : Os) (started : os.Started) (H : Type) (enc : TypeId × Value → H) :
    ReturnsInHanded {} Tryz.checked os 7 .any (fun w args => (Rows.nearNearSpec.pre enc Tryz.prog Tryz.f7 [] false w args ∧ laidMetH Tryz.prog laid5 w) ∧ sizedMet enc Tryz.prog Tryz.f7 (OpenSpec.ofChange Rows.nearNearSpec) false w args)
      (Rows.nearNearSpec.post enc Tryz.prog Tryz.f7 false true false false) := by
  refine returnsInHanded_of_change_and (C := Tryz.checked) (X := fun w _ => laidMetH Tryz.prog laid5 w) (fun _ _ _ hh h => h.of_heap hh) own started (by kernel_rfl) Tryz.func7
    (ChangeSpec.witness_shaped (enc := enc) (C := Tryz.checked) (os := os) (X := fun w _ => laidMetH Tryz.prog laid5 w) false (World.doorLaid Tryz.prog 62 os) #[.agg #[.int .i64 0, .int .i64 0, .int .i64 0, .int .i64 0, .int .i64 0, .int .i64 0, .slice none 0 0, .slice none 0 0, .slice none 0 0, .slice none 0 0, .slice none 0 0, .slice none 0 0, .slice none 0 0, .slice none 0 0], .agg #[.string ⟨#[]⟩, .string ⟨#[]⟩, .int .i64 0, .int .i64 0, .int .i64 0, .slice none 0 0, .slice none 0 0, .slice none 0 0, .slice none 0 0, .slice none 0 0, .int .i64 0, .string ⟨#[]⟩], .string ⟨#[]⟩] 8 rfl (World.shaped_of_RefB (by kernel_rfl) (by kernel_rfl)) (by kernel_rfl) (by kernel_rfl) (by kernel_rfl) (door_met os _)) ?_
  intro W base args ds gs before hval hW hc hsz hL _
  refine law_contract (X := fun w _ => laidMetH Tryz.prog laid5 w) laidOut (by kernel_rfl) (by kernel_rfl) (bt := 4) (by kernel_rfl) Tryz.underlying4 rfl (fun ds hd => ?_) (fun _ _ h => of_laid h) nearNear_call W base args ds gs before hval hW hc hsz hL
  have hd : ds.length = 3 := hd
  match ds, hd with
  | [d0, d1, d2], _ => exact ⟨rfl, rfl, rfl⟩

theorem nearNear_c1 : (Rows.nearNearRow.wf (OpenSpec.ofChange Rows.nearNearSpec) && laidOutB Tryz.prog && mapsRowed Tryz.prog && Tryz.f7.params.all (Tryz.prog.readableRec ·) && namedTie Tryz.prog Rows.nearNearRow.named Rows.nearNearSpec.vars && (Rows.nearNearRow.stops == []) && (Tryz.prog.stops == []) && (Rows.nearNearRow.knobs == []) && (Tryz.prog.stopKnobs == [])) = true := by kernel_rfl
theorem nearNear_c2 : (Rows.nearNearRow.inPlace == Tryz.prog.inPlace 7) = true := by kernel_rfl
theorem nearNear_c3 : (Rows.nearNearRow.unfollowed == Tryz.prog.unfollowed 7) = true := by kernel_rfl
theorem nearNear_c4 : (Rows.nearNearRow.recurses == Tryz.prog.recurses 7) = true := by kernel_rfl
theorem nearNear_c5 : (Rows.nearNearRow.named == Tryz.prog.varsNamed 7) = true := by kernel_rfl
theorem nearNear_c6 : ((Rows.nearNearRow.maps == (Tryz.f7.params.toList ++ Rows.nearNearSpec.plain.varTypes Tryz.prog).any (Tryz.prog.mapsRec ·)) && (Rows.nearNearRow.ifaces == (Tryz.f7.params.toList ++ Rows.nearNearSpec.plain.varTypes Tryz.prog).any (Tryz.prog.ifacesRec ·)) && (Rows.nearNearRow.mapsOut == Tryz.prog.mapsAmong Tryz.f7.resultTypes.toList) && (Rows.nearNearRow.loops == (Tryz.f7.params.toList ++ Rows.nearNearSpec.plain.varTypes Tryz.prog).any (Tryz.prog.loopsFrom ·)) && (Rows.nearNearRow.wideKeys == (Tryz.f7.params.toList ++ Rows.nearNearSpec.plain.varTypes Tryz.prog ++ Tryz.f7.resultTypes.toList).any (Tryz.prog.wideKeysFrom ·))) = true := by kernel_rfl
theorem nearNear_c7 : (Rows.nearNearSpec.vars.all (Tryz.prog.varReadable ·) && Tryz.f7.resultTypes.all (fun t => Tryz.prog.readableRec t && decide (t < Tryz.prog.types.size)) && (Rows.nearNearRow.ifacesOut == Tryz.f7.resultTypes.toList.any (Tryz.prog.ifacesRec ·)) && (Rows.nearNearRow.loopsOut == Tryz.f7.resultTypes.toList.any (Tryz.prog.loopsFrom ·))) = true := by kernel_rfl
theorem nearNear_c8 : (Rows.nearNearRow.plainKeys == Tryz.prog.plainKeys) = true := by kernel_rfl
theorem nearNear_c9 : (Rows.nearNearRow.shortTexts.isNone && Tryz.prog.stopsHeard && Tryz.prog.mayEnter) = true := by kernel_rfl
theorem nearNear_c10 : (Rows.nearNearRow.lifted == Tryz.prog.liftsFinal) = true := by kernel_rfl
theorem nearNear_c11 : (Tryz.prog.make == some Rows.nearNearRow.make) = true := by kernel_rfl
theorem nearNear_c12 : ((Rows.nearNearRow.kinds == (if Rows.nearNearRow.domain.isEmpty then [] else Tryz.f7.params.toList.map fun t => match Tryz.prog.underlying t with | some (.int k) => some k | _ => none)) && (Rows.nearNearRow.pinned == Rows.nearNearRow.pinnedBy)) = true := by kernel_rfl
theorem nearNear_c13 : ((Rows.nearNearRow.veiled == (Tryz.f7.params.toList ++ Rows.nearNearSpec.plain.varTypes Tryz.prog ++ Tryz.f7.resultTypes.toList).any (Tryz.prog.veiledRec ·)) && Rows.nearNearRow.veiledFits Tryz.prog Tryz.f7.params.toList (Tryz.f7.params.toList ++ Rows.nearNearSpec.plain.varTypes Tryz.prog ++ Tryz.f7.resultTypes.toList)) = true := by kernel_rfl
theorem nearNear_w : Rows.nearNearRow.wfByText (OpenSpec.ofChange Rows.nearNearSpec) = true := by kernel_rfl
theorem nearNear_n : Tryz.prog.funcNamed "sutler/sutlerlaw16.NearNear" = some 7 := by kernel_rfl
theorem nearNear_s : (([33, 59, 9] : List Nat).all fun u => !Tryz.prog.wantsStandIn u) = true := by kernel_rfl
theorem nearNear_g : false = Rows.nearNearRow.goesBy Tryz.prog := by kernel_rfl
theorem nearNear_row : Rows.NearNearSaid :=
  OpenClaim.holds_of_wide 7 Tryz.f7 rfl rfl rfl rfl rfl rfl rfl ⟨rfl, rfl, rfl, rfl, rfl⟩ rfl rfl rfl rfl rfl (by kernel_rfl) Tryz.func7 (joined_split nearNear_c1 nearNear_c2 nearNear_c3 nearNear_c4 nearNear_c5 nearNear_c6 nearNear_c7 nearNear_c8 nearNear_c9 nearNear_c10 nearNear_c11 nearNear_c12 nearNear_c13)
    (of_decide_eq_true (by kernel_rfl)) (by unfold Func.isWrapper; first | (rw [if_pos (by decide +kernel)]; kernel_rfl) | (rw [if_neg (by decide +kernel)]; exact ⟨rfl, rfl⟩))
    (fun os started H enc _ => nearNear_lifted os started H enc)

theorem nearNear_holds : Rows.NearNearCardSaid :=
  Claim7.holds_tied_plain_at .later [] [.data, .data, .data, .sentinel, .sentinel] true (true, "12857ace036f4670686d1961319b34f0a5366c5768523ec50e0dce2bf56e83df") true
    nearNear_row (fun _ h => by cases h) nearNear_w (fun _ h => by cases h) nearNear_row_tie rfl ⟨rfl, rfl⟩ mainIs_t rfl
    (fun f fn hf hfn => by
      obtain rfl : f = 7 := Option.some.inj (nearNear_n.symm.trans hf) |>.symm
      obtain rfl : fn = Tryz.f7 := (Option.some.inj (Tryz.func7.symm.trans hfn)).symm
      exact ⟨looks_t, fun j t ht => by
        rw [Tryz.params7] at ht
        have hm : t ∈ ([33, 59, 9] : List Nat) := by simpa using Array.mem_of_getElem? ht
        have hall : (([33, 59, 9] : List Nat).all fun u => !Tryz.prog.wantsStandIn u) = true := nearNear_s
        exact (show Tryz.prog.wantsStandIn t = false by simpa using List.all_eq_true.1 hall t hm)⟩)
    nearNear_g
#print axioms nearNear_holds
end Go.Proofs.YtnbdmjbpgaeacaaGreatDoor
