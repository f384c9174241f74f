/- Onto a node of a domain with the fewest pods of its app a pod with one spread of skew one may go, and onto no other one (package variables of the library as the text of the library lays them). -/
import Derived.Test.YtnbdmjbpgaeacaaGreatDoorC14
import Derived.Test.YtnbdmjbpgaeacaaGreatDoorC36
namespace Go.Proofs.YtnbdmjbpgaeacaaGreatDoor
open Go Go.ChangeShapes Go.WideShapes Go.ChangeAt Go.WideMaps Go.WideElems Go.RowKit Go.Proofs.AM
set_option maxRecDepth 100000

theorem spreadLeast_call (xs : List D) (hx : ArgsFit Tryz.prog Tryz.f15.params.toList xs) : PR3.v 15 xs (.bool true) := by
  rw [Tryz.params15] at hx
  replace hx : ArgsFit Tryz.prog [33, 59, 9] xs := hx
  obtain ⟨x0, _, rfl, h0, hx⟩ := args_cons hx
  obtain ⟨x1, _, rfl, h1, hx⟩ := args_cons hx
  obtain ⟨x2, _, rfl, h2, hx⟩ := args_cons hx
  obtain rfl := args_nil hx
  obtain ⟨s, rfl, hs⟩ := fits_snap h0
  obtain ⟨p, rfl, hp⟩ := fits_pod h1
  obtain ⟨c, rfl, hc⟩ := fits_str h2
  exact v15 s hs p hp c hc
theorem spreadLeast_lifted (os : Os) (started : os.Started) (H : Type) (enc : TypeId × Value → H) :
    ReturnsInHanded {} Tryz.checked os 15 .any (fun w args => (Rows.spreadLeastSpec.pre enc Tryz.prog Tryz.f15 [] false w args ∧ laidMetH Tryz.prog laid5 w) ∧ sizedMet enc Tryz.prog Tryz.f15 (OpenSpec.ofChange Rows.spreadLeastSpec) false w args)
      (Rows.spreadLeastSpec.post enc Tryz.prog Tryz.f15 false true false false) := by
  refine returnsInHanded_of_change_and (C := Tryz.checked) (X := fun w _ => laidMetH Tryz.prog laid5 w) (fun _ _ _ hh h => h.of_heap hh) own started (by kernel_rfl) Tryz.func15
    (ChangeSpec.witness_shaped (enc := enc) (C := Tryz.checked) (os := os) (X := fun w _ => laidMetH Tryz.prog laid5 w) false (World.doorLaid Tryz.prog 62 os) #[.agg #[.int .i64 0, .int .i64 0, .int .i64 0, .int .i64 0, .int .i64 0, .int .i64 0, .slice none 0 0, .slice none 0 0, .slice none 0 0, .slice none 0 0, .slice none 0 0, .slice none 0 0, .slice none 0 0, .slice none 0 0], .agg #[.string ⟨#[]⟩, .string ⟨#[]⟩, .int .i64 0, .int .i64 0, .int .i64 0, .slice none 0 0, .slice none 0 0, .slice none 0 0, .slice none 0 0, .slice none 0 0, .int .i64 0, .string ⟨#[]⟩], .string ⟨#[]⟩] 8 rfl (World.shaped_of_RefB (by kernel_rfl) (by kernel_rfl)) (by kernel_rfl) (by kernel_rfl) (by kernel_rfl) (door_met os _)) ?_
  intro W base args ds gs before hval hW hc hsz hL _
  refine law_contract (X := fun w _ => laidMetH Tryz.prog laid5 w) laidOut (by kernel_rfl) (by kernel_rfl) (bt := 4) (by kernel_rfl) Tryz.underlying4 rfl (fun ds hd => ?_) (fun _ _ h => of_laid h) spreadLeast_call W base args ds gs before hval hW hc hsz hL
  have hd : ds.length = 3 := hd
  match ds, hd with
  | [d0, d1, d2], _ => exact ⟨rfl, rfl, rfl⟩

theorem spreadLeast_c1 : (Rows.spreadLeastRow.wf (OpenSpec.ofChange Rows.spreadLeastSpec) && laidOutB Tryz.prog && mapsRowed Tryz.prog && Tryz.f15.params.all (Tryz.prog.readableRec ·) && namedTie Tryz.prog Rows.spreadLeastRow.named Rows.spreadLeastSpec.vars && (Rows.spreadLeastRow.stops == []) && (Tryz.prog.stops == []) && (Rows.spreadLeastRow.knobs == []) && (Tryz.prog.stopKnobs == [])) = true := by kernel_rfl
theorem spreadLeast_c2 : (Rows.spreadLeastRow.inPlace == Tryz.prog.inPlace 15) = true := by kernel_rfl
theorem spreadLeast_c3 : (Rows.spreadLeastRow.unfollowed == Tryz.prog.unfollowed 15) = true := by kernel_rfl
theorem spreadLeast_c4 : (Rows.spreadLeastRow.recurses == Tryz.prog.recurses 15) = true := by kernel_rfl
theorem spreadLeast_c5 : (Rows.spreadLeastRow.named == Tryz.prog.varsNamed 15) = true := by kernel_rfl
theorem spreadLeast_c6 : ((Rows.spreadLeastRow.maps == (Tryz.f15.params.toList ++ Rows.spreadLeastSpec.plain.varTypes Tryz.prog).any (Tryz.prog.mapsRec ·)) && (Rows.spreadLeastRow.ifaces == (Tryz.f15.params.toList ++ Rows.spreadLeastSpec.plain.varTypes Tryz.prog).any (Tryz.prog.ifacesRec ·)) && (Rows.spreadLeastRow.mapsOut == Tryz.prog.mapsAmong Tryz.f15.resultTypes.toList) && (Rows.spreadLeastRow.loops == (Tryz.f15.params.toList ++ Rows.spreadLeastSpec.plain.varTypes Tryz.prog).any (Tryz.prog.loopsFrom ·)) && (Rows.spreadLeastRow.wideKeys == (Tryz.f15.params.toList ++ Rows.spreadLeastSpec.plain.varTypes Tryz.prog ++ Tryz.f15.resultTypes.toList).any (Tryz.prog.wideKeysFrom ·))) = true := by kernel_rfl
theorem spreadLeast_c7 : (Rows.spreadLeastSpec.vars.all (Tryz.prog.varReadable ·) && Tryz.f15.resultTypes.all (fun t => Tryz.prog.readableRec t && decide (t < Tryz.prog.types.size)) && (Rows.spreadLeastRow.ifacesOut == Tryz.f15.resultTypes.toList.any (Tryz.prog.ifacesRec ·)) && (Rows.spreadLeastRow.loopsOut == Tryz.f15.resultTypes.toList.any (Tryz.prog.loopsFrom ·))) = true := by kernel_rfl
theorem spreadLeast_c8 : (Rows.spreadLeastRow.plainKeys == Tryz.prog.plainKeys) = true := by kernel_rfl
theorem spreadLeast_c9 : (Rows.spreadLeastRow.shortTexts.isNone && Tryz.prog.stopsHeard && Tryz.prog.mayEnter) = true := by kernel_rfl
theorem spreadLeast_c10 : (Rows.spreadLeastRow.lifted == Tryz.prog.liftsFinal) = true := by kernel_rfl
theorem spreadLeast_c11 : (Tryz.prog.make == some Rows.spreadLeastRow.make) = true := by kernel_rfl
theorem spreadLeast_c12 : ((Rows.spreadLeastRow.kinds == (if Rows.spreadLeastRow.domain.isEmpty then [] else Tryz.f15.params.toList.map fun t => match Tryz.prog.underlying t with | some (.int k) => some k | _ => none)) && (Rows.spreadLeastRow.pinned == Rows.spreadLeastRow.pinnedBy)) = true := by kernel_rfl
theorem spreadLeast_c13 : ((Rows.spreadLeastRow.veiled == (Tryz.f15.params.toList ++ Rows.spreadLeastSpec.plain.varTypes Tryz.prog ++ Tryz.f15.resultTypes.toList).any (Tryz.prog.veiledRec ·)) && Rows.spreadLeastRow.veiledFits Tryz.prog Tryz.f15.params.toList (Tryz.f15.params.toList ++ Rows.spreadLeastSpec.plain.varTypes Tryz.prog ++ Tryz.f15.resultTypes.toList)) = true := by kernel_rfl
theorem spreadLeast_w : Rows.spreadLeastRow.wfByText (OpenSpec.ofChange Rows.spreadLeastSpec) = true := by kernel_rfl
theorem spreadLeast_n : Tryz.prog.funcNamed "sutler/sutlerlaw15.SpreadLeast" = some 15 := by kernel_rfl
theorem spreadLeast_s : (([33, 59, 9] : List Nat).all fun u => !Tryz.prog.wantsStandIn u) = true := by kernel_rfl
theorem spreadLeast_g : false = Rows.spreadLeastRow.goesBy Tryz.prog := by kernel_rfl
theorem spreadLeast_row : Rows.SpreadLeastSaid :=
  OpenClaim.holds_of_wide 15 Tryz.f15 rfl rfl rfl rfl rfl rfl rfl ⟨rfl, rfl, rfl, rfl, rfl⟩ rfl rfl rfl rfl rfl (by kernel_rfl) Tryz.func15 (joined_split spreadLeast_c1 spreadLeast_c2 spreadLeast_c3 spreadLeast_c4 spreadLeast_c5 spreadLeast_c6 spreadLeast_c7 spreadLeast_c8 spreadLeast_c9 spreadLeast_c10 spreadLeast_c11 spreadLeast_c12 spreadLeast_c13)
    (of_decide_eq_true (by kernel_rfl)) (by unfold Func.isWrapper; first | (rw [if_pos (by decide +kernel)]; kernel_rfl) | (rw [if_neg (by decide +kernel)]; exact ⟨rfl, rfl⟩))
    (fun os started H enc _ => spreadLeast_lifted os started H enc)

theorem spreadLeast_holds : Rows.SpreadLeastCardSaid :=
  Claim7.holds_tied_plain_at .later [] [.data, .data, .data, .sentinel, .sentinel] true (true, "12857ace036f4670686d1961319b34f0a5366c5768523ec50e0dce2bf56e83df") true
    spreadLeast_row (fun _ h => by cases h) spreadLeast_w (fun _ h => by cases h) spreadLeast_row_tie rfl ⟨rfl, rfl⟩ mainIs_t rfl
    (fun f fn hf hfn => by
      obtain rfl : f = 15 := Option.some.inj (spreadLeast_n.symm.trans hf) |>.symm
      obtain rfl : fn = Tryz.f15 := (Option.some.inj (Tryz.func15.symm.trans hfn)).symm
      exact ⟨looks_t, fun j t ht => by
        rw [Tryz.params15] at ht
        have hm : t ∈ ([33, 59, 9] : List Nat) := by simpa using Array.mem_of_getElem? ht
        have hall : (([33, 59, 9] : List Nat).all fun u => !Tryz.prog.wantsStandIn u) = true := spreadLeast_s
        exact (show Tryz.prog.wantsStandIn t = false by simpa using List.all_eq_true.1 hall t hm)⟩)
    spreadLeast_g
#print axioms spreadLeast_holds
end Go.Proofs.YtnbdmjbpgaeacaaGreatDoor
