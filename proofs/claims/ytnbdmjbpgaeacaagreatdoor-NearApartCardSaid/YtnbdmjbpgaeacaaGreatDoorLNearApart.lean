/- Whether a pod is apart from what it asks to be apart from, both ways, is told just as the document says (package variables of the library as the text of the library lays them). -/
import Derived.Test.YtnbdmjbpgaeacaaGreatDoorM14
import Derived.Test.YtnbdmjbpgaeacaaGreatDoorM33
namespace Go.Proofs.YtnbdmjbpgaeacaaGreatDoor
open Go Go.ChangeShapes Go.WideShapes Go.ChangeAt Go.WideMaps Go.WideElems Go.RowKit Go.Proofs.AM
set_option maxRecDepth 100000

theorem nearApart_call (xs : List D) (hx : ArgsFit Tryz.prog Tryz.f8.params.toList xs) : PR3.v 8 xs (.bool true) := by
  rw [Tryz.params8] at hx
  replace hx : ArgsFit Tryz.prog [33, 59, 9] xs := hx
  obtain ⟨x0, _, rfl, h0, hx⟩ := args_cons hx
  obtain ⟨x1, _, rfl, h1, hx⟩ := args_cons hx
  obtain ⟨x2, _, rfl, h2, hx⟩ := args_cons hx
  obtain rfl := args_nil hx
  obtain ⟨s, rfl, hs⟩ := fits_snap h0
  obtain ⟨p, rfl, hp⟩ := fits_pod h1
  obtain ⟨c, rfl, hc⟩ := fits_str h2
  exact q8 s hs p hp c
theorem nearApart_lifted (os : Os) (started : os.Started) (H : Type) (enc : TypeId × Value → H) :
    ReturnsInHanded {} Tryz.checked os 8 .any (fun w args => (Rows.nearApartSpec.pre enc Tryz.prog Tryz.f8 [] false w args ∧ laidMetH Tryz.prog laid5 w) ∧ sizedMet enc Tryz.prog Tryz.f8 (OpenSpec.ofChange Rows.nearApartSpec) false w args)
      (Rows.nearApartSpec.post enc Tryz.prog Tryz.f8 false true false false) := by
  refine returnsInHanded_of_change_and (C := Tryz.checked) (X := fun w _ => laidMetH Tryz.prog laid5 w) (fun _ _ _ hh h => h.of_heap hh) own started (by kernel_rfl) Tryz.func8
    (ChangeSpec.witness_shaped (enc := enc) (C := Tryz.checked) (os := os) (X := fun w _ => laidMetH Tryz.prog laid5 w) false (World.doorLaid Tryz.prog 62 os) #[.agg #[.int .i64 0, .int .i64 0, .int .i64 0, .int .i64 0, .int .i64 0, .int .i64 0, .slice none 0 0, .slice none 0 0, .slice none 0 0, .slice none 0 0, .slice none 0 0, .slice none 0 0, .slice none 0 0, .slice none 0 0], .agg #[.string ⟨#[]⟩, .string ⟨#[]⟩, .int .i64 0, .int .i64 0, .int .i64 0, .slice none 0 0, .slice none 0 0, .slice none 0 0, .slice none 0 0, .slice none 0 0, .int .i64 0, .string ⟨#[]⟩], .string ⟨#[]⟩] 8 rfl (World.shaped_of_RefB (by kernel_rfl) (by kernel_rfl)) (by kernel_rfl) (by kernel_rfl) (by kernel_rfl) (door_met os _)) ?_
  intro W base args ds gs before hval hW hc hsz hL _
  refine law_contract (X := fun w _ => laidMetH Tryz.prog laid5 w) laidOut (by kernel_rfl) (by kernel_rfl) (bt := 4) (by kernel_rfl) Tryz.underlying4 rfl (fun ds hd => ?_) (fun _ _ h => of_laid h) nearApart_call W base args ds gs before hval hW hc hsz hL
  have hd : ds.length = 3 := hd
  match ds, hd with
  | [d0, d1, d2], _ => exact ⟨rfl, rfl, rfl⟩

theorem nearApart_c1 : (Rows.nearApartRow.wf (OpenSpec.ofChange Rows.nearApartSpec) && laidOutB Tryz.prog && mapsRowed Tryz.prog && Tryz.f8.params.all (Tryz.prog.readableRec ·) && namedTie Tryz.prog Rows.nearApartRow.named Rows.nearApartSpec.vars && (Rows.nearApartRow.stops == []) && (Tryz.prog.stops == []) && (Rows.nearApartRow.knobs == []) && (Tryz.prog.stopKnobs == [])) = true := by kernel_rfl
theorem nearApart_c2 : (Rows.nearApartRow.inPlace == Tryz.prog.inPlace 8) = true := by kernel_rfl
theorem nearApart_c3 : (Rows.nearApartRow.unfollowed == Tryz.prog.unfollowed 8) = true := by kernel_rfl
theorem nearApart_c4 : (Rows.nearApartRow.recurses == Tryz.prog.recurses 8) = true := by kernel_rfl
theorem nearApart_c5 : (Rows.nearApartRow.named == Tryz.prog.varsNamed 8) = true := by kernel_rfl
theorem nearApart_c6 : ((Rows.nearApartRow.maps == (Tryz.f8.params.toList ++ Rows.nearApartSpec.plain.varTypes Tryz.prog).any (Tryz.prog.mapsRec ·)) && (Rows.nearApartRow.ifaces == (Tryz.f8.params.toList ++ Rows.nearApartSpec.plain.varTypes Tryz.prog).any (Tryz.prog.ifacesRec ·)) && (Rows.nearApartRow.mapsOut == Tryz.prog.mapsAmong Tryz.f8.resultTypes.toList) && (Rows.nearApartRow.loops == (Tryz.f8.params.toList ++ Rows.nearApartSpec.plain.varTypes Tryz.prog).any (Tryz.prog.loopsFrom ·)) && (Rows.nearApartRow.wideKeys == (Tryz.f8.params.toList ++ Rows.nearApartSpec.plain.varTypes Tryz.prog ++ Tryz.f8.resultTypes.toList).any (Tryz.prog.wideKeysFrom ·))) = true := by kernel_rfl
theorem nearApart_c7 : (Rows.nearApartSpec.vars.all (Tryz.prog.varReadable ·) && Tryz.f8.resultTypes.all (fun t => Tryz.prog.readableRec t && decide (t < Tryz.prog.types.size)) && (Rows.nearApartRow.ifacesOut == Tryz.f8.resultTypes.toList.any (Tryz.prog.ifacesRec ·)) && (Rows.nearApartRow.loopsOut == Tryz.f8.resultTypes.toList.any (Tryz.prog.loopsFrom ·))) = true := by kernel_rfl
theorem nearApart_c8 : (Rows.nearApartRow.plainKeys == Tryz.prog.plainKeys) = true := by kernel_rfl
theorem nearApart_c9 : (Rows.nearApartRow.shortTexts.isNone && Tryz.prog.stopsHeard && Tryz.prog.mayEnter) = true := by kernel_rfl
theorem nearApart_c10 : (Rows.nearApartRow.lifted == Tryz.prog.liftsFinal) = true := by kernel_rfl
theorem nearApart_c11 : (Tryz.prog.make == some Rows.nearApartRow.make) = true := by kernel_rfl
theorem nearApart_c12 : ((Rows.nearApartRow.kinds == (if Rows.nearApartRow.domain.isEmpty then [] else Tryz.f8.params.toList.map fun t => match Tryz.prog.underlying t with | some (.int k) => some k | _ => none)) && (Rows.nearApartRow.pinned == Rows.nearApartRow.pinnedBy)) = true := by kernel_rfl
theorem nearApart_c13 : ((Rows.nearApartRow.veiled == (Tryz.f8.params.toList ++ Rows.nearApartSpec.plain.varTypes Tryz.prog ++ Tryz.f8.resultTypes.toList).any (Tryz.prog.veiledRec ·)) && Rows.nearApartRow.veiledFits Tryz.prog Tryz.f8.params.toList (Tryz.f8.params.toList ++ Rows.nearApartSpec.plain.varTypes Tryz.prog ++ Tryz.f8.resultTypes.toList)) = true := by kernel_rfl
theorem nearApart_w : Rows.nearApartRow.wfByText (OpenSpec.ofChange Rows.nearApartSpec) = true := by kernel_rfl
theorem nearApart_n : Tryz.prog.funcNamed "sutler/sutlerlaw16.NearApart" = some 8 := by kernel_rfl
theorem nearApart_s : (([33, 59, 9] : List Nat).all fun u => !Tryz.prog.wantsStandIn u) = true := by kernel_rfl
theorem nearApart_g : false = Rows.nearApartRow.goesBy Tryz.prog := by kernel_rfl
theorem nearApart_row : Rows.NearApartSaid :=
  OpenClaim.holds_of_wide 8 Tryz.f8 rfl rfl rfl rfl rfl rfl rfl ⟨rfl, rfl, rfl, rfl, rfl⟩ rfl rfl rfl rfl rfl (by kernel_rfl) Tryz.func8 (joined_split nearApart_c1 nearApart_c2 nearApart_c3 nearApart_c4 nearApart_c5 nearApart_c6 nearApart_c7 nearApart_c8 nearApart_c9 nearApart_c10 nearApart_c11 nearApart_c12 nearApart_c13)
    (of_decide_eq_true (by kernel_rfl)) (by unfold Func.isWrapper; first | (rw [if_pos (by decide +kernel)]; kernel_rfl) | (rw [if_neg (by decide +kernel)]; exact ⟨rfl, rfl⟩))
    (fun os started H enc _ => nearApart_lifted os started H enc)

theorem nearApart_holds : Rows.NearApartCardSaid :=
  Claim7.holds_tied_plain_at .later [] [.data, .data, .data, .sentinel, .sentinel] true (true, "12857ace036f4670686d1961319b34f0a5366c5768523ec50e0dce2bf56e83df") true
    nearApart_row (fun _ h => by cases h) nearApart_w (fun _ h => by cases h) nearApart_row_tie rfl ⟨rfl, rfl⟩ mainIs_t rfl
    (fun f fn hf hfn => by
      obtain rfl : f = 8 := Option.some.inj (nearApart_n.symm.trans hf) |>.symm
      obtain rfl : fn = Tryz.f8 := (Option.some.inj (Tryz.func8.symm.trans hfn)).symm
      exact ⟨looks_t, fun j t ht => by
        rw [Tryz.params8] at ht
        have hm : t ∈ ([33, 59, 9] : List Nat) := by simpa using Array.mem_of_getElem? ht
        have hall : (([33, 59, 9] : List Nat).all fun u => !Tryz.prog.wantsStandIn u) = true := nearApart_s
        exact (show Tryz.prog.wantsStandIn t = false by simpa using List.all_eq_true.1 hall t hm)⟩)
    nearApart_g
#print axioms nearApart_holds
end Go.Proofs.YtnbdmjbpgaeacaaGreatDoor
