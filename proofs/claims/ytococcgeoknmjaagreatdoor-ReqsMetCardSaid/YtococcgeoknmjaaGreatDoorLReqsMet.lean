/- Where labels meet requirements, some labels can, and each value is in the set of its key (package variables of the library as the text of the library lays them). -/
import Derived.Test.YtococcgeoknmjaaGreatDoorM10
import Derived.Test.YtococcgeoknmjaaGreatDoorM17
namespace Go.Proofs.YtococcgeoknmjaaGreatDoor
open Go Go.ChangeShapes Go.WideShapes Go.ChangeAt Go.WideMaps Go.WideElems Go.RowKit Go.Proofs.AM
set_option maxRecDepth 100000

theorem reqsMet_call (xs : List D) (hx : ArgsFit Tryz.prog Tryz.f14.params.toList xs) : PR3.v 14 xs (.bool true) := by
  rw [Tryz.params14] at hx
  replace hx : ArgsFit Tryz.prog [24, 30] xs := hx
  obtain ⟨x0, _, rfl, h0, hx⟩ := args_cons hx
  obtain ⟨x1, _, rfl, h1, hx⟩ := args_cons hx
  obtain rfl := args_nil hx
  obtain ⟨a, rfl, ha⟩ := fits_reqs h0
  obtain ⟨b, rfl, hb⟩ := fits_labs h1
  exact n14 a b ha hb
theorem reqsMet_lifted (os : Os) (started : os.Started) (H : Type) (enc : TypeId × Value → H) :
    ReturnsInHanded {} Tryz.checked os 14 .any (fun w args => (Rows.reqsMetSpec.pre enc Tryz.prog Tryz.f14 [] false w args ∧ laidMetH Tryz.prog laid5 w) ∧ sizedMet enc Tryz.prog Tryz.f14 (OpenSpec.ofChange Rows.reqsMetSpec) false w args)
      (Rows.reqsMetSpec.post enc Tryz.prog Tryz.f14 false true false false) := by
  refine returnsInHanded_of_change_and (C := Tryz.checked) (X := fun w _ => laidMetH Tryz.prog laid5 w) (fun _ _ _ hh h => h.of_heap hh) own started (by kernel_rfl) Tryz.func14
    (ChangeSpec.witness_shaped (enc := enc) (C := Tryz.checked) (os := os) (X := fun w _ => laidMetH Tryz.prog laid5 w) false (World.doorLaid Tryz.prog 62 os) #[.slice none 0 0, .slice none 0 0] 8 rfl (World.shaped_of_RefB (by kernel_rfl) (by kernel_rfl)) (by kernel_rfl) (by kernel_rfl) (by kernel_rfl) (door_met os _)) ?_
  intro W base args ds gs before hval hW hc hsz hL _
  refine law_contract (X := fun w _ => laidMetH Tryz.prog laid5 w) laidOut (by kernel_rfl) (by kernel_rfl) (bt := 4) (by kernel_rfl) Tryz.underlying4 rfl (fun ds hd => ?_) (fun _ _ h => of_laid h) reqsMet_call W base args ds gs before hval hW hc hsz hL
  have hd : ds.length = 2 := hd
  match ds, hd with
  | [d0, d1], _ => exact ⟨rfl, rfl, rfl⟩

theorem reqsMet_c1 : (Rows.reqsMetRow.wf (OpenSpec.ofChange Rows.reqsMetSpec) && laidOutB Tryz.prog && mapsRowed Tryz.prog && Tryz.f14.params.all (Tryz.prog.readableRec ·) && namedTie Tryz.prog Rows.reqsMetRow.named Rows.reqsMetSpec.vars && (Rows.reqsMetRow.stops == []) && (Tryz.prog.stops == []) && (Rows.reqsMetRow.knobs == []) && (Tryz.prog.stopKnobs == [])) = true := by kernel_rfl
theorem reqsMet_c2 : (Rows.reqsMetRow.inPlace == Tryz.prog.inPlace 14) = true := by kernel_rfl
theorem reqsMet_c3 : (Rows.reqsMetRow.unfollowed == Tryz.prog.unfollowed 14) = true := by kernel_rfl
theorem reqsMet_c4 : (Rows.reqsMetRow.recurses == Tryz.prog.recurses 14) = true := by kernel_rfl
theorem reqsMet_c5 : (Rows.reqsMetRow.named == Tryz.prog.varsNamed 14) = true := by kernel_rfl
theorem reqsMet_c6 : ((Rows.reqsMetRow.maps == (Tryz.f14.params.toList ++ Rows.reqsMetSpec.plain.varTypes Tryz.prog).any (Tryz.prog.mapsRec ·)) && (Rows.reqsMetRow.ifaces == (Tryz.f14.params.toList ++ Rows.reqsMetSpec.plain.varTypes Tryz.prog).any (Tryz.prog.ifacesRec ·)) && (Rows.reqsMetRow.mapsOut == Tryz.prog.mapsAmong Tryz.f14.resultTypes.toList) && (Rows.reqsMetRow.loops == (Tryz.f14.params.toList ++ Rows.reqsMetSpec.plain.varTypes Tryz.prog).any (Tryz.prog.loopsFrom ·)) && (Rows.reqsMetRow.wideKeys == (Tryz.f14.params.toList ++ Rows.reqsMetSpec.plain.varTypes Tryz.prog ++ Tryz.f14.resultTypes.toList).any (Tryz.prog.wideKeysFrom ·))) = true := by kernel_rfl
theorem reqsMet_c7 : (Rows.reqsMetSpec.vars.all (Tryz.prog.varReadable ·) && Tryz.f14.resultTypes.all (fun t => Tryz.prog.readableRec t && decide (t < Tryz.prog.types.size)) && (Rows.reqsMetRow.ifacesOut == Tryz.f14.resultTypes.toList.any (Tryz.prog.ifacesRec ·)) && (Rows.reqsMetRow.loopsOut == Tryz.f14.resultTypes.toList.any (Tryz.prog.loopsFrom ·))) = true := by kernel_rfl
theorem reqsMet_c8 : (Rows.reqsMetRow.plainKeys == Tryz.prog.plainKeys) = true := by kernel_rfl
theorem reqsMet_c9 : (Rows.reqsMetRow.shortTexts.isNone && Tryz.prog.stopsHeard && Tryz.prog.mayEnter) = true := by kernel_rfl
theorem reqsMet_c10 : (Rows.reqsMetRow.lifted == Tryz.prog.liftsFinal) = true := by kernel_rfl
theorem reqsMet_c11 : (Tryz.prog.make == some Rows.reqsMetRow.make) = true := by kernel_rfl
theorem reqsMet_c12 : ((Rows.reqsMetRow.kinds == (if Rows.reqsMetRow.domain.isEmpty then [] else Tryz.f14.params.toList.map fun t => match Tryz.prog.underlying t with | some (.int k) => some k | _ => none)) && (Rows.reqsMetRow.pinned == Rows.reqsMetRow.pinnedBy)) = true := by kernel_rfl
theorem reqsMet_c13 : ((Rows.reqsMetRow.veiled == (Tryz.f14.params.toList ++ Rows.reqsMetSpec.plain.varTypes Tryz.prog ++ Tryz.f14.resultTypes.toList).any (Tryz.prog.veiledRec ·)) && Rows.reqsMetRow.veiledFits Tryz.prog Tryz.f14.params.toList (Tryz.f14.params.toList ++ Rows.reqsMetSpec.plain.varTypes Tryz.prog ++ Tryz.f14.resultTypes.toList)) = true := by kernel_rfl
theorem reqsMet_row : Rows.ReqsMetSaid :=
  OpenClaim.holds_of_wide 14 Tryz.f14 rfl rfl rfl rfl rfl rfl rfl ⟨rfl, rfl, rfl, rfl, rfl⟩ rfl rfl rfl rfl rfl (by kernel_rfl) Tryz.func14 (joined_split reqsMet_c1 reqsMet_c2 reqsMet_c3 reqsMet_c4 reqsMet_c5 reqsMet_c6 reqsMet_c7 reqsMet_c8 reqsMet_c9 reqsMet_c10 reqsMet_c11 reqsMet_c12 reqsMet_c13)
    (of_decide_eq_true (by kernel_rfl)) (by unfold Func.isWrapper; first | (rw [if_pos (by decide +kernel)]; kernel_rfl) | (rw [if_neg (by decide +kernel)]; exact ⟨rfl, rfl⟩))
    (fun os started H enc _ => reqsMet_lifted os started H enc)

theorem reqsMet_holds : Rows.ReqsMetCardSaid :=
  Claim7.holds_tied_plain_at .later [] [.data, .data, .data, .sentinel, .sentinel] true (true, "dcfc04c605f64eed57c85bef62aa2d78270be6caa863562f953d313a4a280b39") true
    reqsMet_row (fun _ h => by cases h) (by kernel_rfl) (fun _ h => by cases h) reqsMet_row_tie rfl ⟨rfl, rfl⟩ (by kernel_rfl) rfl
    (fun f fn hf hfn => by
      obtain rfl : f = 14 := Option.some.inj ((show Tryz.prog.funcNamed "sutler/sutlerlaw04.ReqsMet" = some 14 by kernel_rfl).symm.trans hf) |>.symm
      obtain rfl : fn = Tryz.f14 := (Option.some.inj (Tryz.func14.symm.trans hfn)).symm
      exact ⟨by kernel_rfl, fun j t ht => by
        rw [Tryz.params14] at ht
        have hm : t ∈ ([24, 30] : List Nat) := by simpa using Array.mem_of_getElem? ht
        have hall : (([24, 30] : List Nat).all fun u => !Tryz.prog.wantsStandIn u) = true := by kernel_rfl
        exact (show Tryz.prog.wantsStandIn t = false by simpa using List.all_eq_true.1 hall t hm)⟩)
    (by kernel_rfl)
#print axioms reqsMet_holds
end Go.Proofs.YtococcgeoknmjaaGreatDoor
