/- Whether any labels could meet requirements is told just as the document says (package variables of the library as the text of the library lays them). -/
import Derived.Test.YtococcgeoknmjaaGreatDoorM11
import Derived.Test.YtococcgeoknmjaaGreatDoorM18
namespace Go.Proofs.YtococcgeoknmjaaGreatDoor
open Go Go.ChangeShapes Go.WideShapes Go.ChangeAt Go.WideMaps Go.WideElems Go.RowKit Go.Proofs.AM
set_option maxRecDepth 100000

theorem reqsCan_call (xs : List D) (hx : ArgsFit Tryz.prog Tryz.f13.params.toList xs) : PR3.v 13 xs (.bool true) := by
  rw [Tryz.params13] at hx
  replace hx : ArgsFit Tryz.prog [24, 24] xs := hx
  obtain ⟨x0, _, rfl, h0, hx⟩ := args_cons hx
  obtain ⟨x1, _, rfl, h1, hx⟩ := args_cons hx
  obtain rfl := args_nil hx
  obtain ⟨a, rfl, ha⟩ := fits_reqs h0
  obtain ⟨b, rfl, hb⟩ := fits_reqs h1
  exact n13 a b ha hb
theorem reqsCan_lifted (os : Os) (started : os.Started) (H : Type) (enc : TypeId × Value → H) :
    ReturnsInHanded {} Tryz.checked os 13 .any (fun w args => (Rows.reqsCanSpec.pre enc Tryz.prog Tryz.f13 [] false w args ∧ laidMetH Tryz.prog laid5 w) ∧ sizedMet enc Tryz.prog Tryz.f13 (OpenSpec.ofChange Rows.reqsCanSpec) false w args)
      (Rows.reqsCanSpec.post enc Tryz.prog Tryz.f13 false true false false) := by
  refine returnsInHanded_of_change_and (C := Tryz.checked) (X := fun w _ => laidMetH Tryz.prog laid5 w) (fun _ _ _ hh h => h.of_heap hh) own started (by kernel_rfl) Tryz.func13
    (ChangeSpec.witness_shaped (enc := enc) (C := Tryz.checked) (os := os) (X := fun w _ => laidMetH Tryz.prog laid5 w) false (World.doorLaid Tryz.prog 62 os) #[.slice none 0 0, .slice none 0 0] 8 rfl (World.shaped_of_RefB (by kernel_rfl) (by kernel_rfl)) (by kernel_rfl) (by kernel_rfl) (by kernel_rfl) (door_met os _)) ?_
  intro W base args ds gs before hval hW hc hsz hL _
  refine law_contract (X := fun w _ => laidMetH Tryz.prog laid5 w) laidOut (by kernel_rfl) (by kernel_rfl) (bt := 4) (by kernel_rfl) Tryz.underlying4 rfl (fun ds hd => ?_) (fun _ _ h => of_laid h) reqsCan_call W base args ds gs before hval hW hc hsz hL
  have hd : ds.length = 2 := hd
  match ds, hd with
  | [d0, d1], _ => exact ⟨rfl, rfl, rfl⟩

theorem reqsCan_c1 : (Rows.reqsCanRow.wf (OpenSpec.ofChange Rows.reqsCanSpec) && laidOutB Tryz.prog && mapsRowed Tryz.prog && Tryz.f13.params.all (Tryz.prog.readableRec ·) && namedTie Tryz.prog Rows.reqsCanRow.named Rows.reqsCanSpec.vars && (Rows.reqsCanRow.stops == []) && (Tryz.prog.stops == []) && (Rows.reqsCanRow.knobs == []) && (Tryz.prog.stopKnobs == [])) = true := by kernel_rfl
theorem reqsCan_c2 : (Rows.reqsCanRow.inPlace == Tryz.prog.inPlace 13) = true := by kernel_rfl
theorem reqsCan_c3 : (Rows.reqsCanRow.unfollowed == Tryz.prog.unfollowed 13) = true := by kernel_rfl
theorem reqsCan_c4 : (Rows.reqsCanRow.recurses == Tryz.prog.recurses 13) = true := by kernel_rfl
theorem reqsCan_c5 : (Rows.reqsCanRow.named == Tryz.prog.varsNamed 13) = true := by kernel_rfl
theorem reqsCan_c6 : ((Rows.reqsCanRow.maps == (Tryz.f13.params.toList ++ Rows.reqsCanSpec.plain.varTypes Tryz.prog).any (Tryz.prog.mapsRec ·)) && (Rows.reqsCanRow.ifaces == (Tryz.f13.params.toList ++ Rows.reqsCanSpec.plain.varTypes Tryz.prog).any (Tryz.prog.ifacesRec ·)) && (Rows.reqsCanRow.mapsOut == Tryz.prog.mapsAmong Tryz.f13.resultTypes.toList) && (Rows.reqsCanRow.loops == (Tryz.f13.params.toList ++ Rows.reqsCanSpec.plain.varTypes Tryz.prog).any (Tryz.prog.loopsFrom ·)) && (Rows.reqsCanRow.wideKeys == (Tryz.f13.params.toList ++ Rows.reqsCanSpec.plain.varTypes Tryz.prog ++ Tryz.f13.resultTypes.toList).any (Tryz.prog.wideKeysFrom ·))) = true := by kernel_rfl
theorem reqsCan_c7 : (Rows.reqsCanSpec.vars.all (Tryz.prog.varReadable ·) && Tryz.f13.resultTypes.all (fun t => Tryz.prog.readableRec t && decide (t < Tryz.prog.types.size)) && (Rows.reqsCanRow.ifacesOut == Tryz.f13.resultTypes.toList.any (Tryz.prog.ifacesRec ·)) && (Rows.reqsCanRow.loopsOut == Tryz.f13.resultTypes.toList.any (Tryz.prog.loopsFrom ·))) = true := by kernel_rfl
theorem reqsCan_c8 : (Rows.reqsCanRow.plainKeys == Tryz.prog.plainKeys) = true := by kernel_rfl
theorem reqsCan_c9 : (Rows.reqsCanRow.shortTexts.isNone && Tryz.prog.stopsHeard && Tryz.prog.mayEnter) = true := by kernel_rfl
theorem reqsCan_c10 : (Rows.reqsCanRow.lifted == Tryz.prog.liftsFinal) = true := by kernel_rfl
theorem reqsCan_c11 : (Tryz.prog.make == some Rows.reqsCanRow.make) = true := by kernel_rfl
theorem reqsCan_c12 : ((Rows.reqsCanRow.kinds == (if Rows.reqsCanRow.domain.isEmpty then [] else Tryz.f13.params.toList.map fun t => match Tryz.prog.underlying t with | some (.int k) => some k | _ => none)) && (Rows.reqsCanRow.pinned == Rows.reqsCanRow.pinnedBy)) = true := by kernel_rfl
theorem reqsCan_c13 : ((Rows.reqsCanRow.veiled == (Tryz.f13.params.toList ++ Rows.reqsCanSpec.plain.varTypes Tryz.prog ++ Tryz.f13.resultTypes.toList).any (Tryz.prog.veiledRec ·)) && Rows.reqsCanRow.veiledFits Tryz.prog Tryz.f13.params.toList (Tryz.f13.params.toList ++ Rows.reqsCanSpec.plain.varTypes Tryz.prog ++ Tryz.f13.resultTypes.toList)) = true := by kernel_rfl
theorem reqsCan_row : Rows.ReqsCanSaid :=
  OpenClaim.holds_of_wide 13 Tryz.f13 rfl rfl rfl rfl rfl rfl rfl ⟨rfl, rfl, rfl, rfl, rfl⟩ rfl rfl rfl rfl rfl (by kernel_rfl) Tryz.func13 (joined_split reqsCan_c1 reqsCan_c2 reqsCan_c3 reqsCan_c4 reqsCan_c5 reqsCan_c6 reqsCan_c7 reqsCan_c8 reqsCan_c9 reqsCan_c10 reqsCan_c11 reqsCan_c12 reqsCan_c13)
    (of_decide_eq_true (by kernel_rfl)) (by unfold Func.isWrapper; first | (rw [if_pos (by decide +kernel)]; kernel_rfl) | (rw [if_neg (by decide +kernel)]; exact ⟨rfl, rfl⟩))
    (fun os started H enc _ => reqsCan_lifted os started H enc)

theorem reqsCan_holds : Rows.ReqsCanCardSaid :=
  Claim7.holds_tied_plain_at .later [] [.data, .data, .data, .sentinel, .sentinel] true (true, "dcfc04c605f64eed57c85bef62aa2d78270be6caa863562f953d313a4a280b39") true
    reqsCan_row (fun _ h => by cases h) (by kernel_rfl) (fun _ h => by cases h) reqsCan_row_tie rfl ⟨rfl, rfl⟩ (by kernel_rfl) rfl
    (fun f fn hf hfn => by
      obtain rfl : f = 13 := Option.some.inj ((show Tryz.prog.funcNamed "sutler/sutlerlaw04.ReqsCan" = some 13 by kernel_rfl).symm.trans hf) |>.symm
      obtain rfl : fn = Tryz.f13 := (Option.some.inj (Tryz.func13.symm.trans hfn)).symm
      exact ⟨by kernel_rfl, fun j t ht => by
        rw [Tryz.params13] at ht
        have hm : t ∈ ([24, 24] : List Nat) := by simpa using Array.mem_of_getElem? ht
        have hall : (([24, 24] : List Nat).all fun u => !Tryz.prog.wantsStandIn u) = true := by kernel_rfl
        exact (show Tryz.prog.wantsStandIn t = false by simpa using List.all_eq_true.1 hall t hm)⟩)
    (by kernel_rfl)
#print axioms reqsCan_holds
end Go.Proofs.YtococcgeoknmjaaGreatDoor
