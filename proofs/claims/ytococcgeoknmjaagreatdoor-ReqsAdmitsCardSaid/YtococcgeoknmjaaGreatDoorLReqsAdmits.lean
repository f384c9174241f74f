/- Whether labels meet requirements is told just as the document says (package variables of the library as the text of the library lays them). -/
import Derived.Test.YtococcgeoknmjaaGreatDoorM10
import Derived.Test.YtococcgeoknmjaaGreatDoorM17
namespace Go.Proofs.YtococcgeoknmjaaGreatDoor
open Go Go.ChangeShapes Go.WideShapes Go.ChangeAt Go.WideMaps Go.WideElems Go.RowKit Go.Proofs.AM
set_option maxRecDepth 100000

theorem reqsAdmits_call (xs : List D) (hx : ArgsFit Tryz.prog Tryz.f12.params.toList xs) : PR3.v 12 xs (.bool true) := by
  rw [Tryz.params12] at hx
  replace hx : ArgsFit Tryz.prog [24, 30] xs := hx
  obtain ⟨x0, _, rfl, h0, hx⟩ := args_cons hx
  obtain ⟨x1, _, rfl, h1, hx⟩ := args_cons hx
  obtain rfl := args_nil hx
  obtain ⟨a, rfl, ha⟩ := fits_reqs h0
  obtain ⟨b, rfl, hb⟩ := fits_labs h1
  exact n12 a b ha hb
theorem reqsAdmits_lifted (os : Os) (started : os.Started) (H : Type) (enc : TypeId × Value → H) :
    ReturnsInHanded {} Tryz.checked os 12 .any (fun w args => (Rows.reqsAdmitsSpec.pre enc Tryz.prog Tryz.f12 [] false w args ∧ laidMetH Tryz.prog laid5 w) ∧ sizedMet enc Tryz.prog Tryz.f12 (OpenSpec.ofChange Rows.reqsAdmitsSpec) false w args)
      (Rows.reqsAdmitsSpec.post enc Tryz.prog Tryz.f12 false true false false) := by
  refine returnsInHanded_of_change_and (C := Tryz.checked) (X := fun w _ => laidMetH Tryz.prog laid5 w) (fun _ _ _ hh h => h.of_heap hh) own started (by kernel_rfl) Tryz.func12
    (ChangeSpec.witness_shaped (enc := enc) (C := Tryz.checked) (os := os) (X := fun w _ => laidMetH Tryz.prog laid5 w) false (World.doorLaid Tryz.prog 62 os) #[.slice none 0 0, .slice none 0 0] 8 rfl (World.shaped_of_RefB (by kernel_rfl) (by kernel_rfl)) (by kernel_rfl) (by kernel_rfl) (by kernel_rfl) (door_met os _)) ?_
  intro W base args ds gs before hval hW hc hsz hL _
  refine law_contract (X := fun w _ => laidMetH Tryz.prog laid5 w) laidOut (by kernel_rfl) (by kernel_rfl) (bt := 4) (by kernel_rfl) Tryz.underlying4 rfl (fun ds hd => ?_) (fun _ _ h => of_laid h) reqsAdmits_call W base args ds gs before hval hW hc hsz hL
  have hd : ds.length = 2 := hd
  match ds, hd with
  | [d0, d1], _ => exact ⟨rfl, rfl, rfl⟩

theorem reqsAdmits_c1 : (Rows.reqsAdmitsRow.wf (OpenSpec.ofChange Rows.reqsAdmitsSpec) && laidOutB Tryz.prog && mapsRowed Tryz.prog && Tryz.f12.params.all (Tryz.prog.readableRec ·) && namedTie Tryz.prog Rows.reqsAdmitsRow.named Rows.reqsAdmitsSpec.vars && (Rows.reqsAdmitsRow.stops == []) && (Tryz.prog.stops == []) && (Rows.reqsAdmitsRow.knobs == []) && (Tryz.prog.stopKnobs == [])) = true := by kernel_rfl
theorem reqsAdmits_c2 : (Rows.reqsAdmitsRow.inPlace == Tryz.prog.inPlace 12) = true := by kernel_rfl
theorem reqsAdmits_c3 : (Rows.reqsAdmitsRow.unfollowed == Tryz.prog.unfollowed 12) = true := by kernel_rfl
theorem reqsAdmits_c4 : (Rows.reqsAdmitsRow.recurses == Tryz.prog.recurses 12) = true := by kernel_rfl
theorem reqsAdmits_c5 : (Rows.reqsAdmitsRow.named == Tryz.prog.varsNamed 12) = true := by kernel_rfl
theorem reqsAdmits_c6 : ((Rows.reqsAdmitsRow.maps == (Tryz.f12.params.toList ++ Rows.reqsAdmitsSpec.plain.varTypes Tryz.prog).any (Tryz.prog.mapsRec ·)) && (Rows.reqsAdmitsRow.ifaces == (Tryz.f12.params.toList ++ Rows.reqsAdmitsSpec.plain.varTypes Tryz.prog).any (Tryz.prog.ifacesRec ·)) && (Rows.reqsAdmitsRow.mapsOut == Tryz.prog.mapsAmong Tryz.f12.resultTypes.toList) && (Rows.reqsAdmitsRow.loops == (Tryz.f12.params.toList ++ Rows.reqsAdmitsSpec.plain.varTypes Tryz.prog).any (Tryz.prog.loopsFrom ·)) && (Rows.reqsAdmitsRow.wideKeys == (Tryz.f12.params.toList ++ Rows.reqsAdmitsSpec.plain.varTypes Tryz.prog ++ Tryz.f12.resultTypes.toList).any (Tryz.prog.wideKeysFrom ·))) = true := by kernel_rfl
theorem reqsAdmits_c7 : (Rows.reqsAdmitsSpec.vars.all (Tryz.prog.varReadable ·) && Tryz.f12.resultTypes.all (fun t => Tryz.prog.readableRec t && decide (t < Tryz.prog.types.size)) && (Rows.reqsAdmitsRow.ifacesOut == Tryz.f12.resultTypes.toList.any (Tryz.prog.ifacesRec ·)) && (Rows.reqsAdmitsRow.loopsOut == Tryz.f12.resultTypes.toList.any (Tryz.prog.loopsFrom ·))) = true := by kernel_rfl
theorem reqsAdmits_c8 : (Rows.reqsAdmitsRow.plainKeys == Tryz.prog.plainKeys) = true := by kernel_rfl
theorem reqsAdmits_c9 : (Rows.reqsAdmitsRow.shortTexts.isNone && Tryz.prog.stopsHeard && Tryz.prog.mayEnter) = true := by kernel_rfl
theorem reqsAdmits_c10 : (Rows.reqsAdmitsRow.lifted == Tryz.prog.liftsFinal) = true := by kernel_rfl
theorem reqsAdmits_c11 : (Tryz.prog.make == some Rows.reqsAdmitsRow.make) = true := by kernel_rfl
theorem reqsAdmits_c12 : ((Rows.reqsAdmitsRow.kinds == (if Rows.reqsAdmitsRow.domain.isEmpty then [] else Tryz.f12.params.toList.map fun t => match Tryz.prog.underlying t with | some (.int k) => some k | _ => none)) && (Rows.reqsAdmitsRow.pinned == Rows.reqsAdmitsRow.pinnedBy)) = true := by kernel_rfl
theorem reqsAdmits_c13 : ((Rows.reqsAdmitsRow.veiled == (Tryz.f12.params.toList ++ Rows.reqsAdmitsSpec.plain.varTypes Tryz.prog ++ Tryz.f12.resultTypes.toList).any (Tryz.prog.veiledRec ·)) && Rows.reqsAdmitsRow.veiledFits Tryz.prog Tryz.f12.params.toList (Tryz.f12.params.toList ++ Rows.reqsAdmitsSpec.plain.varTypes Tryz.prog ++ Tryz.f12.resultTypes.toList)) = true := by kernel_rfl
theorem reqsAdmits_row : Rows.ReqsAdmitsSaid :=
  OpenClaim.holds_of_wide 12 Tryz.f12 rfl rfl rfl rfl rfl rfl rfl ⟨rfl, rfl, rfl, rfl, rfl⟩ rfl rfl rfl rfl rfl (by kernel_rfl) Tryz.func12 (joined_split reqsAdmits_c1 reqsAdmits_c2 reqsAdmits_c3 reqsAdmits_c4 reqsAdmits_c5 reqsAdmits_c6 reqsAdmits_c7 reqsAdmits_c8 reqsAdmits_c9 reqsAdmits_c10 reqsAdmits_c11 reqsAdmits_c12 reqsAdmits_c13)
    (of_decide_eq_true (by kernel_rfl)) (by unfold Func.isWrapper; first | (rw [if_pos (by decide +kernel)]; kernel_rfl) | (rw [if_neg (by decide +kernel)]; exact ⟨rfl, rfl⟩))
    (fun os started H enc _ => reqsAdmits_lifted os started H enc)

theorem reqsAdmits_holds : Rows.ReqsAdmitsCardSaid :=
  Claim7.holds_tied_plain_at .later [] [.data, .data, .data, .sentinel, .sentinel] true (true, "dcfc04c605f64eed57c85bef62aa2d78270be6caa863562f953d313a4a280b39") true
    reqsAdmits_row (fun _ h => by cases h) (by kernel_rfl) (fun _ h => by cases h) reqsAdmits_row_tie rfl ⟨rfl, rfl⟩ (by kernel_rfl) rfl
    (fun f fn hf hfn => by
      obtain rfl : f = 12 := Option.some.inj ((show Tryz.prog.funcNamed "sutler/sutlerlaw04.ReqsAdmits" = some 12 by kernel_rfl).symm.trans hf) |>.symm
      obtain rfl : fn = Tryz.f12 := (Option.some.inj (Tryz.func12.symm.trans hfn)).symm
      exact ⟨by kernel_rfl, fun j t ht => by
        rw [Tryz.params12] at ht
        have hm : t ∈ ([24, 30] : List Nat) := by simpa using Array.mem_of_getElem? ht
        have hall : (([24, 30] : List Nat).all fun u => !Tryz.prog.wantsStandIn u) = true := by kernel_rfl
        exact (show Tryz.prog.wantsStandIn t = false by simpa using List.all_eq_true.1 hall t hm)⟩)
    (by kernel_rfl)
#print axioms reqsAdmits_holds
end Go.Proofs.YtococcgeoknmjaaGreatDoor
