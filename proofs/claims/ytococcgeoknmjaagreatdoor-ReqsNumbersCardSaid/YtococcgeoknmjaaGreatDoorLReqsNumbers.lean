/- The number of requirements that there may be is the one of the document (package variables of the library as the text of the library lays them). -/
import Derived.Test.YtococcgeoknmjaaGreatDoorM11
import Derived.Test.YtococcgeoknmjaaGreatDoorM18
namespace Go.Proofs.YtococcgeoknmjaaGreatDoor
open Go Go.ChangeShapes Go.WideShapes Go.ChangeAt Go.WideMaps Go.WideElems Go.RowKit Go.Proofs.AM
set_option maxRecDepth 100000

theorem reqsNumbers_call (xs : List D) (hx : ArgsFit Tryz.prog Tryz.f10.params.toList xs) : PR3.v 10 xs (.bool true) := by
  rw [Tryz.params10] at hx
  replace hx : ArgsFit Tryz.prog [] xs := hx
  obtain rfl := args_nil hx
  exact n10
theorem reqsNumbers_lifted (os : Os) (started : os.Started) (H : Type) (enc : TypeId × Value → H) :
    ReturnsInHanded {} Tryz.checked os 10 .any (fun w args => (Rows.reqsNumbersSpec.pre enc Tryz.prog Tryz.f10 [] false w args ∧ laidMetH Tryz.prog laid5 w) ∧ sizedMet enc Tryz.prog Tryz.f10 (OpenSpec.ofChange Rows.reqsNumbersSpec) false w args)
      (Rows.reqsNumbersSpec.post enc Tryz.prog Tryz.f10 false true false false) := by
  refine returnsInHanded_of_change_and (C := Tryz.checked) (X := fun w _ => laidMetH Tryz.prog laid5 w) (fun _ _ _ hh h => h.of_heap hh) own started (by kernel_rfl) Tryz.func10
    (ChangeSpec.witness_shaped (enc := enc) (C := Tryz.checked) (os := os) (X := fun w _ => laidMetH Tryz.prog laid5 w) false (World.doorLaid Tryz.prog 62 os) #[] 8 rfl (World.shaped_of_RefB (by kernel_rfl) (by kernel_rfl)) (by kernel_rfl) (by kernel_rfl) (by kernel_rfl) (door_met os _)) ?_
  intro W base args ds gs before hval hW hc hsz hL _
  refine law_contract (X := fun w _ => laidMetH Tryz.prog laid5 w) laidOut (by kernel_rfl) (by kernel_rfl) (bt := 4) (by kernel_rfl) Tryz.underlying4 rfl (fun ds hd => ?_) (fun _ _ h => of_laid h) reqsNumbers_call W base args ds gs before hval hW hc hsz hL
  have hd : ds.length = 0 := hd
  match ds, hd with
  | [], _ => exact ⟨rfl, rfl, rfl⟩

theorem reqsNumbers_c1 : (Rows.reqsNumbersRow.wf (OpenSpec.ofChange Rows.reqsNumbersSpec) && laidOutB Tryz.prog && mapsRowed Tryz.prog && Tryz.f10.params.all (Tryz.prog.readableRec ·) && namedTie Tryz.prog Rows.reqsNumbersRow.named Rows.reqsNumbersSpec.vars && (Rows.reqsNumbersRow.stops == []) && (Tryz.prog.stops == []) && (Rows.reqsNumbersRow.knobs == []) && (Tryz.prog.stopKnobs == [])) = true := by kernel_rfl
theorem reqsNumbers_c2 : (Rows.reqsNumbersRow.inPlace == Tryz.prog.inPlace 10) = true := by kernel_rfl
theorem reqsNumbers_c3 : (Rows.reqsNumbersRow.unfollowed == Tryz.prog.unfollowed 10) = true := by kernel_rfl
theorem reqsNumbers_c4 : (Rows.reqsNumbersRow.recurses == Tryz.prog.recurses 10) = true := by kernel_rfl
theorem reqsNumbers_c5 : (Rows.reqsNumbersRow.named == Tryz.prog.varsNamed 10) = true := by kernel_rfl
theorem reqsNumbers_c6 : ((Rows.reqsNumbersRow.maps == (Tryz.f10.params.toList ++ Rows.reqsNumbersSpec.plain.varTypes Tryz.prog).any (Tryz.prog.mapsRec ·)) && (Rows.reqsNumbersRow.ifaces == (Tryz.f10.params.toList ++ Rows.reqsNumbersSpec.plain.varTypes Tryz.prog).any (Tryz.prog.ifacesRec ·)) && (Rows.reqsNumbersRow.mapsOut == Tryz.prog.mapsAmong Tryz.f10.resultTypes.toList) && (Rows.reqsNumbersRow.loops == (Tryz.f10.params.toList ++ Rows.reqsNumbersSpec.plain.varTypes Tryz.prog).any (Tryz.prog.loopsFrom ·)) && (Rows.reqsNumbersRow.wideKeys == (Tryz.f10.params.toList ++ Rows.reqsNumbersSpec.plain.varTypes Tryz.prog ++ Tryz.f10.resultTypes.toList).any (Tryz.prog.wideKeysFrom ·))) = true := by kernel_rfl
theorem reqsNumbers_c7 : (Rows.reqsNumbersSpec.vars.all (Tryz.prog.varReadable ·) && Tryz.f10.resultTypes.all (fun t => Tryz.prog.readableRec t && decide (t < Tryz.prog.types.size)) && (Rows.reqsNumbersRow.ifacesOut == Tryz.f10.resultTypes.toList.any (Tryz.prog.ifacesRec ·)) && (Rows.reqsNumbersRow.loopsOut == Tryz.f10.resultTypes.toList.any (Tryz.prog.loopsFrom ·))) = true := by kernel_rfl
theorem reqsNumbers_c8 : (Rows.reqsNumbersRow.plainKeys == Tryz.prog.plainKeys) = true := by kernel_rfl
theorem reqsNumbers_c9 : (Rows.reqsNumbersRow.shortTexts.isNone && Tryz.prog.stopsHeard && Tryz.prog.mayEnter) = true := by kernel_rfl
theorem reqsNumbers_c10 : (Rows.reqsNumbersRow.lifted == Tryz.prog.liftsFinal) = true := by kernel_rfl
theorem reqsNumbers_c11 : (Tryz.prog.make == some Rows.reqsNumbersRow.make) = true := by kernel_rfl
theorem reqsNumbers_c12 : ((Rows.reqsNumbersRow.kinds == (if Rows.reqsNumbersRow.domain.isEmpty then [] else Tryz.f10.params.toList.map fun t => match Tryz.prog.underlying t with | some (.int k) => some k | _ => none)) && (Rows.reqsNumbersRow.pinned == Rows.reqsNumbersRow.pinnedBy)) = true := by kernel_rfl
theorem reqsNumbers_c13 : ((Rows.reqsNumbersRow.veiled == (Tryz.f10.params.toList ++ Rows.reqsNumbersSpec.plain.varTypes Tryz.prog ++ Tryz.f10.resultTypes.toList).any (Tryz.prog.veiledRec ·)) && Rows.reqsNumbersRow.veiledFits Tryz.prog Tryz.f10.params.toList (Tryz.f10.params.toList ++ Rows.reqsNumbersSpec.plain.varTypes Tryz.prog ++ Tryz.f10.resultTypes.toList)) = true := by kernel_rfl
theorem reqsNumbers_row : Rows.ReqsNumbersSaid :=
  OpenClaim.holds_of_wide 10 Tryz.f10 rfl rfl rfl rfl rfl rfl rfl ⟨rfl, rfl, rfl, rfl, rfl⟩ rfl rfl rfl rfl rfl (by kernel_rfl) Tryz.func10 (joined_split reqsNumbers_c1 reqsNumbers_c2 reqsNumbers_c3 reqsNumbers_c4 reqsNumbers_c5 reqsNumbers_c6 reqsNumbers_c7 reqsNumbers_c8 reqsNumbers_c9 reqsNumbers_c10 reqsNumbers_c11 reqsNumbers_c12 reqsNumbers_c13)
    (of_decide_eq_true (by kernel_rfl)) (by unfold Func.isWrapper; first | (rw [if_pos (by decide +kernel)]; kernel_rfl) | (rw [if_neg (by decide +kernel)]; exact ⟨rfl, rfl⟩))
    (fun os started H enc _ => reqsNumbers_lifted os started H enc)

theorem reqsNumbers_holds : Rows.ReqsNumbersCardSaid :=
  Claim7.holds_tied_plain_at .later [] [.data, .data, .data, .sentinel, .sentinel] true (true, "dcfc04c605f64eed57c85bef62aa2d78270be6caa863562f953d313a4a280b39") true
    reqsNumbers_row (fun _ h => by cases h) (by kernel_rfl) (fun _ h => by cases h) reqsNumbers_row_tie rfl ⟨rfl, rfl⟩ (by kernel_rfl) rfl
    (fun f fn hf hfn => by
      obtain rfl : f = 10 := Option.some.inj ((show Tryz.prog.funcNamed "sutler/sutlerlaw04.ReqsNumbers" = some 10 by kernel_rfl).symm.trans hf) |>.symm
      obtain rfl : fn = Tryz.f10 := (Option.some.inj (Tryz.func10.symm.trans hfn)).symm
      exact ⟨by kernel_rfl, fun j t ht => by
        rw [Tryz.params10] at ht
        have hm : t ∈ ([] : List Nat) := by simpa using Array.mem_of_getElem? ht
        have hall : (([] : List Nat).all fun u => !Tryz.prog.wantsStandIn u) = true := by kernel_rfl
        exact (show Tryz.prog.wantsStandIn t = false by simpa using List.all_eq_true.1 hall t hm)⟩)
    (by kernel_rfl)
#print axioms reqsNumbers_holds
end Go.Proofs.YtococcgeoknmjaaGreatDoor
