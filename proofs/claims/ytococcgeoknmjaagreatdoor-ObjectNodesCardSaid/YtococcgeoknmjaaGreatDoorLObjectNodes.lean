/- A command that may be has one to four nodes, which rise, and may be of one of these alone (package variables of the library as the text of the library lays them). -/
import Derived.Test.YtococcgeoknmjaaGreatDoorM10
import Derived.Test.YtococcgeoknmjaaGreatDoorM17
namespace Go.Proofs.YtococcgeoknmjaaGreatDoor
open Go Go.ChangeShapes Go.WideShapes Go.ChangeAt Go.WideMaps Go.WideElems Go.RowKit Go.Proofs.AM
set_option maxRecDepth 100000

theorem objectNodes_call (xs : List D) (hx : ArgsFit Tryz.prog Tryz.f5.params.toList xs) : PR3.v 5 xs (.bool true) := by
  rw [Tryz.params5] at hx
  replace hx : ArgsFit Tryz.prog [40] xs := hx
  obtain ⟨x0, _, rfl, h0, hx⟩ := args_cons hx
  obtain rfl := args_nil hx
  obtain ⟨c, rfl, hf⟩ := fits_cmd h0
  exact m5 c hf
theorem objectNodes_lifted (os : Os) (started : os.Started) (H : Type) (enc : TypeId × Value → H) :
    ReturnsInHanded {} Tryz.checked os 5 .any (fun w args => (Rows.objectNodesSpec.pre enc Tryz.prog Tryz.f5 [] false w args ∧ laidMetH Tryz.prog laid5 w) ∧ sizedMet enc Tryz.prog Tryz.f5 (OpenSpec.ofChange Rows.objectNodesSpec) false w args)
      (Rows.objectNodesSpec.post enc Tryz.prog Tryz.f5 false true false false) := by
  refine returnsInHanded_of_change_and (C := Tryz.checked) (X := fun w _ => laidMetH Tryz.prog laid5 w) (fun _ _ _ hh h => h.of_heap hh) own started (by kernel_rfl) Tryz.func5
    (ChangeSpec.witness_shaped (enc := enc) (C := Tryz.checked) (os := os) (X := fun w _ => laidMetH Tryz.prog laid5 w) false (World.doorLaid Tryz.prog 62 os) #[.agg #[.int .i64 0, .slice none 0 0, .int .i64 0, .int .i64 0, .string ⟨#[]⟩, .string ⟨#[]⟩, .slice none 0 0, .bool false]] 8 rfl (World.shaped_of_RefB (by kernel_rfl) (by kernel_rfl)) (by kernel_rfl) (by kernel_rfl) (by kernel_rfl) (door_met os _)) ?_
  intro W base args ds gs before hval hW hc hsz hL _
  refine law_contract (X := fun w _ => laidMetH Tryz.prog laid5 w) laidOut (by kernel_rfl) (by kernel_rfl) (bt := 4) (by kernel_rfl) Tryz.underlying4 rfl (fun ds hd => ?_) (fun _ _ h => of_laid h) objectNodes_call W base args ds gs before hval hW hc hsz hL
  have hd : ds.length = 1 := hd
  match ds, hd with
  | [d0], _ => exact ⟨rfl, rfl, rfl⟩

theorem objectNodes_c1 : (Rows.objectNodesRow.wf (OpenSpec.ofChange Rows.objectNodesSpec) && laidOutB Tryz.prog && mapsRowed Tryz.prog && Tryz.f5.params.all (Tryz.prog.readableRec ·) && namedTie Tryz.prog Rows.objectNodesRow.named Rows.objectNodesSpec.vars && (Rows.objectNodesRow.stops == []) && (Tryz.prog.stops == []) && (Rows.objectNodesRow.knobs == []) && (Tryz.prog.stopKnobs == [])) = true := by kernel_rfl
theorem objectNodes_c2 : (Rows.objectNodesRow.inPlace == Tryz.prog.inPlace 5) = true := by kernel_rfl
theorem objectNodes_c3 : (Rows.objectNodesRow.unfollowed == Tryz.prog.unfollowed 5) = true := by kernel_rfl
theorem objectNodes_c4 : (Rows.objectNodesRow.recurses == Tryz.prog.recurses 5) = true := by kernel_rfl
theorem objectNodes_c5 : (Rows.objectNodesRow.named == Tryz.prog.varsNamed 5) = true := by kernel_rfl
theorem objectNodes_c6 : ((Rows.objectNodesRow.maps == (Tryz.f5.params.toList ++ Rows.objectNodesSpec.plain.varTypes Tryz.prog).any (Tryz.prog.mapsRec ·)) && (Rows.objectNodesRow.ifaces == (Tryz.f5.params.toList ++ Rows.objectNodesSpec.plain.varTypes Tryz.prog).any (Tryz.prog.ifacesRec ·)) && (Rows.objectNodesRow.mapsOut == Tryz.prog.mapsAmong Tryz.f5.resultTypes.toList) && (Rows.objectNodesRow.loops == (Tryz.f5.params.toList ++ Rows.objectNodesSpec.plain.varTypes Tryz.prog).any (Tryz.prog.loopsFrom ·)) && (Rows.objectNodesRow.wideKeys == (Tryz.f5.params.toList ++ Rows.objectNodesSpec.plain.varTypes Tryz.prog ++ Tryz.f5.resultTypes.toList).any (Tryz.prog.wideKeysFrom ·))) = true := by kernel_rfl
theorem objectNodes_c7 : (Rows.objectNodesSpec.vars.all (Tryz.prog.varReadable ·) && Tryz.f5.resultTypes.all (fun t => Tryz.prog.readableRec t && decide (t < Tryz.prog.types.size)) && (Rows.objectNodesRow.ifacesOut == Tryz.f5.resultTypes.toList.any (Tryz.prog.ifacesRec ·)) && (Rows.objectNodesRow.loopsOut == Tryz.f5.resultTypes.toList.any (Tryz.prog.loopsFrom ·))) = true := by kernel_rfl
theorem objectNodes_c8 : (Rows.objectNodesRow.plainKeys == Tryz.prog.plainKeys) = true := by kernel_rfl
theorem objectNodes_c9 : (Rows.objectNodesRow.shortTexts.isNone && Tryz.prog.stopsHeard && Tryz.prog.mayEnter) = true := by kernel_rfl
theorem objectNodes_c10 : (Rows.objectNodesRow.lifted == Tryz.prog.liftsFinal) = true := by kernel_rfl
theorem objectNodes_c11 : (Tryz.prog.make == some Rows.objectNodesRow.make) = true := by kernel_rfl
theorem objectNodes_c12 : ((Rows.objectNodesRow.kinds == (if Rows.objectNodesRow.domain.isEmpty then [] else Tryz.f5.params.toList.map fun t => match Tryz.prog.underlying t with | some (.int k) => some k | _ => none)) && (Rows.objectNodesRow.pinned == Rows.objectNodesRow.pinnedBy)) = true := by kernel_rfl
theorem objectNodes_c13 : ((Rows.objectNodesRow.veiled == (Tryz.f5.params.toList ++ Rows.objectNodesSpec.plain.varTypes Tryz.prog ++ Tryz.f5.resultTypes.toList).any (Tryz.prog.veiledRec ·)) && Rows.objectNodesRow.veiledFits Tryz.prog Tryz.f5.params.toList (Tryz.f5.params.toList ++ Rows.objectNodesSpec.plain.varTypes Tryz.prog ++ Tryz.f5.resultTypes.toList)) = true := by kernel_rfl
theorem objectNodes_row : Rows.ObjectNodesSaid :=
  OpenClaim.holds_of_wide 5 Tryz.f5 rfl rfl rfl rfl rfl rfl rfl ⟨rfl, rfl, rfl, rfl, rfl⟩ rfl rfl rfl rfl rfl (by kernel_rfl) Tryz.func5 (joined_split objectNodes_c1 objectNodes_c2 objectNodes_c3 objectNodes_c4 objectNodes_c5 objectNodes_c6 objectNodes_c7 objectNodes_c8 objectNodes_c9 objectNodes_c10 objectNodes_c11 objectNodes_c12 objectNodes_c13)
    (of_decide_eq_true (by kernel_rfl)) (by unfold Func.isWrapper; first | (rw [if_pos (by decide +kernel)]; kernel_rfl) | (rw [if_neg (by decide +kernel)]; exact ⟨rfl, rfl⟩))
    (fun os started H enc _ => objectNodes_lifted os started H enc)

theorem objectNodes_holds : Rows.ObjectNodesCardSaid :=
  Claim7.holds_tied_plain_at .later [] [.data, .data, .data, .sentinel, .sentinel] true (true, "dcfc04c605f64eed57c85bef62aa2d78270be6caa863562f953d313a4a280b39") true
    objectNodes_row (fun _ h => by cases h) (by kernel_rfl) (fun _ h => by cases h) objectNodes_row_tie rfl ⟨rfl, rfl⟩ (by kernel_rfl) rfl
    (fun f fn hf hfn => by
      obtain rfl : f = 5 := Option.some.inj ((show Tryz.prog.funcNamed "sutler/sutlerlaw08.ObjectNodes" = some 5 by kernel_rfl).symm.trans hf) |>.symm
      obtain rfl : fn = Tryz.f5 := (Option.some.inj (Tryz.func5.symm.trans hfn)).symm
      exact ⟨by kernel_rfl, fun j t ht => by
        rw [Tryz.params5] at ht
        have hm : t ∈ ([40] : List Nat) := by simpa using Array.mem_of_getElem? ht
        have hall : (([40] : List Nat).all fun u => !Tryz.prog.wantsStandIn u) = true := by kernel_rfl
        exact (show Tryz.prog.wantsStandIn t = false by simpa using List.all_eq_true.1 hall t hm)⟩)
    (by kernel_rfl)
#print axioms objectNodes_holds
end Go.Proofs.YtococcgeoknmjaaGreatDoor
