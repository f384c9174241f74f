/- Requirements answer alike in whatever order, and together as one after the other (package variables of the library as the text of the library lays them). -/
import Derived.Test.YtococcgeoknmjabGreatDoorM10
import Derived.Test.YtococcgeoknmjabGreatDoorM14
namespace Go.Proofs.YtococcgeoknmjabGreatDoor
open Go Go.ChangeShapes Go.WideShapes Go.ChangeAt Go.WideMaps Go.WideElems Go.RowKit Go.Proofs.AM
set_option maxRecDepth 100000

theorem reqsOrder_call (xs : List D) (hx : ArgsFit Tryz.prog Tryz.f3.params.toList xs) : PR3.v 3 xs (.bool true) := by
  rw [Tryz.params3] at hx
  replace hx : ArgsFit Tryz.prog [22, 22, 23] xs := hx
  obtain ⟨x0, _, rfl, h0, hx⟩ := args_cons hx
  obtain ⟨x1, _, rfl, h1, hx⟩ := args_cons hx
  obtain ⟨x2, _, rfl, h2, hx⟩ := args_cons hx
  obtain rfl := args_nil hx
  obtain ⟨a, rfl, ha⟩ := fits_reqs h0
  obtain ⟨b, rfl, hb⟩ := fits_reqs h1
  obtain ⟨c, rfl, hc⟩ := fits_labs h2
  exact n3 a b c ha hb hc
theorem reqsOrder_lifted (os : Os) (started : os.Started) (H : Type) (enc : TypeId × Value → H) :
    ReturnsInHanded {} Tryz.checked os 3 .any (fun w args => (Rows.reqsOrderSpec.pre enc Tryz.prog Tryz.f3 [] false w args ∧ laidMetH Tryz.prog laid5 w) ∧ sizedMet enc Tryz.prog Tryz.f3 (OpenSpec.ofChange Rows.reqsOrderSpec) false w args)
      (Rows.reqsOrderSpec.post enc Tryz.prog Tryz.f3 false true false false) := by
  refine returnsInHanded_of_change_and (C := Tryz.checked) (X := fun w _ => laidMetH Tryz.prog laid5 w) (fun _ _ _ hh h => h.of_heap hh) own started (by kernel_rfl) Tryz.func3
    (ChangeSpec.witness_shaped (enc := enc) (C := Tryz.checked) (os := os) (X := fun w _ => laidMetH Tryz.prog laid5 w) false (World.doorLaid Tryz.prog 62 os) #[.slice none 0 0, .slice none 0 0, .slice none 0 0] 8 rfl (World.shaped_of_RefB (by kernel_rfl) (by kernel_rfl)) (by kernel_rfl) (by kernel_rfl) (by kernel_rfl) (door_met os _)) ?_
  intro W base args ds gs before hval hW hc hsz hL _
  refine law_contract (X := fun w _ => laidMetH Tryz.prog laid5 w) laidOut (by kernel_rfl) (by kernel_rfl) (bt := 4) (by kernel_rfl) Tryz.underlying4 rfl (fun ds hd => ?_) (fun _ _ h => of_laid h) reqsOrder_call W base args ds gs before hval hW hc hsz hL
  have hd : ds.length = 3 := hd
  match ds, hd with
  | [d0, d1, d2], _ => exact ⟨rfl, rfl, rfl⟩

theorem reqsOrder_c1 : (Rows.reqsOrderRow.wf (OpenSpec.ofChange Rows.reqsOrderSpec) && laidOutB Tryz.prog && mapsRowed Tryz.prog && Tryz.f3.params.all (Tryz.prog.readableRec ·) && namedTie Tryz.prog Rows.reqsOrderRow.named Rows.reqsOrderSpec.vars && (Rows.reqsOrderRow.stops == []) && (Tryz.prog.stops == []) && (Rows.reqsOrderRow.knobs == []) && (Tryz.prog.stopKnobs == [])) = true := by kernel_rfl
theorem reqsOrder_c2 : (Rows.reqsOrderRow.inPlace == Tryz.prog.inPlace 3) = true := by kernel_rfl
theorem reqsOrder_c3 : (Rows.reqsOrderRow.unfollowed == Tryz.prog.unfollowed 3) = true := by kernel_rfl
theorem reqsOrder_c4 : (Rows.reqsOrderRow.recurses == Tryz.prog.recurses 3) = true := by kernel_rfl
theorem reqsOrder_c5 : (Rows.reqsOrderRow.named == Tryz.prog.varsNamed 3) = true := by kernel_rfl
theorem reqsOrder_c6 : ((Rows.reqsOrderRow.maps == (Tryz.f3.params.toList ++ Rows.reqsOrderSpec.plain.varTypes Tryz.prog).any (Tryz.prog.mapsRec ·)) && (Rows.reqsOrderRow.ifaces == (Tryz.f3.params.toList ++ Rows.reqsOrderSpec.plain.varTypes Tryz.prog).any (Tryz.prog.ifacesRec ·)) && (Rows.reqsOrderRow.mapsOut == Tryz.prog.mapsAmong Tryz.f3.resultTypes.toList) && (Rows.reqsOrderRow.loops == (Tryz.f3.params.toList ++ Rows.reqsOrderSpec.plain.varTypes Tryz.prog).any (Tryz.prog.loopsFrom ·)) && (Rows.reqsOrderRow.wideKeys == (Tryz.f3.params.toList ++ Rows.reqsOrderSpec.plain.varTypes Tryz.prog ++ Tryz.f3.resultTypes.toList).any (Tryz.prog.wideKeysFrom ·))) = true := by kernel_rfl
theorem reqsOrder_c7 : (Rows.reqsOrderSpec.vars.all (Tryz.prog.varReadable ·) && Tryz.f3.resultTypes.all (fun t => Tryz.prog.readableRec t && decide (t < Tryz.prog.types.size)) && (Rows.reqsOrderRow.ifacesOut == Tryz.f3.resultTypes.toList.any (Tryz.prog.ifacesRec ·)) && (Rows.reqsOrderRow.loopsOut == Tryz.f3.resultTypes.toList.any (Tryz.prog.loopsFrom ·))) = true := by kernel_rfl
theorem reqsOrder_c8 : (Rows.reqsOrderRow.plainKeys == Tryz.prog.plainKeys) = true := by kernel_rfl
theorem reqsOrder_c9 : (Rows.reqsOrderRow.shortTexts.isNone && Tryz.prog.stopsHeard && Tryz.prog.mayEnter) = true := by kernel_rfl
theorem reqsOrder_c10 : (Rows.reqsOrderRow.lifted == Tryz.prog.liftsFinal) = true := by kernel_rfl
theorem reqsOrder_c11 : (Tryz.prog.make == some Rows.reqsOrderRow.make) = true := by kernel_rfl
theorem reqsOrder_c12 : ((Rows.reqsOrderRow.kinds == (if Rows.reqsOrderRow.domain.isEmpty then [] else Tryz.f3.params.toList.map fun t => match Tryz.prog.underlying t with | some (.int k) => some k | _ => none)) && (Rows.reqsOrderRow.pinned == Rows.reqsOrderRow.pinnedBy)) = true := by kernel_rfl
theorem reqsOrder_c13 : ((Rows.reqsOrderRow.veiled == (Tryz.f3.params.toList ++ Rows.reqsOrderSpec.plain.varTypes Tryz.prog ++ Tryz.f3.resultTypes.toList).any (Tryz.prog.veiledRec ·)) && Rows.reqsOrderRow.veiledFits Tryz.prog Tryz.f3.params.toList (Tryz.f3.params.toList ++ Rows.reqsOrderSpec.plain.varTypes Tryz.prog ++ Tryz.f3.resultTypes.toList)) = true := by kernel_rfl
theorem reqsOrder_row : Rows.ReqsOrderSaid :=
  OpenClaim.holds_of_wide 3 Tryz.f3 rfl rfl rfl rfl rfl rfl rfl ⟨rfl, rfl, rfl, rfl, rfl⟩ rfl rfl rfl rfl rfl (by kernel_rfl) Tryz.func3 (joined_split reqsOrder_c1 reqsOrder_c2 reqsOrder_c3 reqsOrder_c4 reqsOrder_c5 reqsOrder_c6 reqsOrder_c7 reqsOrder_c8 reqsOrder_c9 reqsOrder_c10 reqsOrder_c11 reqsOrder_c12 reqsOrder_c13)
    (of_decide_eq_true (by kernel_rfl)) (by unfold Func.isWrapper; first | (rw [if_pos (by decide +kernel)]; kernel_rfl) | (rw [if_neg (by decide +kernel)]; exact ⟨rfl, rfl⟩))
    (fun os started H enc _ => reqsOrder_lifted os started H enc)

theorem reqsOrder_holds : Rows.ReqsOrderCardSaid :=
  Claim7.holds_tied_plain_at .later [] [.data, .data, .data, .sentinel, .sentinel] true (true, "4e2544544ffec90c6908e78be430d31fe8c33a0ebe903f91688f8c366c18a3f2") true
    reqsOrder_row (fun _ h => by cases h) (by kernel_rfl) (fun _ h => by cases h) reqsOrder_row_tie rfl ⟨rfl, rfl⟩ (by kernel_rfl) rfl
    (fun f fn hf hfn => by
      obtain rfl : f = 3 := Option.some.inj ((show Tryz.prog.funcNamed "sutler/sutlerlaw04.ReqsOrder" = some 3 by kernel_rfl).symm.trans hf) |>.symm
      obtain rfl : fn = Tryz.f3 := (Option.some.inj (Tryz.func3.symm.trans hfn)).symm
      exact ⟨by kernel_rfl, fun j t ht => by
        rw [Tryz.params3] at ht
        have hm : t ∈ ([22, 22, 23] : List Nat) := by simpa using Array.mem_of_getElem? ht
        have hall : (([22, 22, 23] : List Nat).all fun u => !Tryz.prog.wantsStandIn u) = true := by kernel_rfl
        exact (show Tryz.prog.wantsStandIn t = false by simpa using List.all_eq_true.1 hall t hm)⟩)
    (by kernel_rfl)
#print axioms reqsOrder_holds
end Go.Proofs.YtococcgeoknmjabGreatDoor
