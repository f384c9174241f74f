/- The domains of any key, and how many pods of an app each has, are told just as the document says (package variables of the library as the text of the library lays them). -/
import Derived.Test.YtnbdmjbpgaeacaaGreatDoorC14
import Derived.Test.YtnbdmjbpgaeacaaGreatDoorC36
namespace Go.Proofs.YtnbdmjbpgaeacaaGreatDoor
open Go Go.ChangeShapes Go.WideShapes Go.ChangeAt Go.WideMaps Go.WideElems Go.RowKit Go.Proofs.AM
set_option maxRecDepth 100000

theorem spreadDomains_call (xs : List D) (hx : ArgsFit Tryz.prog Tryz.f12.params.toList xs) : PR3.v 12 xs (.bool true) := by
  rw [Tryz.params12] at hx
  replace hx : ArgsFit Tryz.prog [33, 9, 9, 9, 9] xs := hx
  obtain ⟨x0, _, rfl, h0, hx⟩ := args_cons hx
  obtain ⟨x1, _, rfl, h1, hx⟩ := args_cons hx
  obtain ⟨x2, _, rfl, h2, hx⟩ := args_cons hx
  obtain ⟨x3, _, rfl, h3, hx⟩ := args_cons hx
  obtain ⟨x4, _, rfl, h4, hx⟩ := args_cons hx
  obtain rfl := args_nil hx
  obtain ⟨s, rfl, hs⟩ := fits_snap h0
  obtain ⟨a, rfl, ka⟩ := fits_str h1
  obtain ⟨b, rfl, kb⟩ := fits_str h2
  obtain ⟨c, rfl, kc⟩ := fits_str h3
  obtain ⟨d, rfl, kd⟩ := fits_str h4
  exact v12 s hs a b c d
theorem spreadDomains_lifted (os : Os) (started : os.Started) (H : Type) (enc : TypeId × Value → H) :
    ReturnsInHanded {} Tryz.checked os 12 .any (fun w args => (Rows.spreadDomainsSpec.pre enc Tryz.prog Tryz.f12 [] false w args ∧ laidMetH Tryz.prog laid5 w) ∧ sizedMet enc Tryz.prog Tryz.f12 (OpenSpec.ofChange Rows.spreadDomainsSpec) false w args)
      (Rows.spreadDomainsSpec.post enc Tryz.prog Tryz.f12 false true false false) := by
  refine returnsInHanded_of_change_and (C := Tryz.checked) (X := fun w _ => laidMetH Tryz.prog laid5 w) (fun _ _ _ hh h => h.of_heap hh) own started (by kernel_rfl) Tryz.func12
    (ChangeSpec.witness_shaped (enc := enc) (C := Tryz.checked) (os := os) (X := fun w _ => laidMetH Tryz.prog laid5 w) false (World.doorLaid Tryz.prog 62 os) #[.agg #[.int .i64 0, .int .i64 0, .int .i64 0, .int .i64 0, .int .i64 0, .int .i64 0, .slice none 0 0, .slice none 0 0, .slice none 0 0, .slice none 0 0, .slice none 0 0, .slice none 0 0, .slice none 0 0, .slice none 0 0], .string ⟨#[]⟩, .string ⟨#[]⟩, .string ⟨#[]⟩, .string ⟨#[]⟩] 8 rfl (World.shaped_of_RefB (by kernel_rfl) (by kernel_rfl)) (by kernel_rfl) (by kernel_rfl) (by kernel_rfl) (door_met os _)) ?_
  intro W base args ds gs before hval hW hc hsz hL _
  refine law_contract (X := fun w _ => laidMetH Tryz.prog laid5 w) laidOut (by kernel_rfl) (by kernel_rfl) (bt := 4) (by kernel_rfl) Tryz.underlying4 rfl (fun ds hd => ?_) (fun _ _ h => of_laid h) spreadDomains_call W base args ds gs before hval hW hc hsz hL
  have hd : ds.length = 5 := hd
  match ds, hd with
  | [d0, d1, d2, d3, d4], _ => exact ⟨rfl, rfl, rfl⟩

theorem spreadDomains_c1 : (Rows.spreadDomainsRow.wf (OpenSpec.ofChange Rows.spreadDomainsSpec) && laidOutB Tryz.prog && mapsRowed Tryz.prog && Tryz.f12.params.all (Tryz.prog.readableRec ·) && namedTie Tryz.prog Rows.spreadDomainsRow.named Rows.spreadDomainsSpec.vars && (Rows.spreadDomainsRow.stops == []) && (Tryz.prog.stops == []) && (Rows.spreadDomainsRow.knobs == []) && (Tryz.prog.stopKnobs == [])) = true := by kernel_rfl
theorem spreadDomains_c2 : (Rows.spreadDomainsRow.inPlace == Tryz.prog.inPlace 12) = true := by kernel_rfl
theorem spreadDomains_c3 : (Rows.spreadDomainsRow.unfollowed == Tryz.prog.unfollowed 12) = true := by kernel_rfl
theorem spreadDomains_c4 : (Rows.spreadDomainsRow.recurses == Tryz.prog.recurses 12) = true := by kernel_rfl
theorem spreadDomains_c5 : (Rows.spreadDomainsRow.named == Tryz.prog.varsNamed 12) = true := by kernel_rfl
theorem spreadDomains_c6 : ((Rows.spreadDomainsRow.maps == (Tryz.f12.params.toList ++ Rows.spreadDomainsSpec.plain.varTypes Tryz.prog).any (Tryz.prog.mapsRec ·)) && (Rows.spreadDomainsRow.ifaces == (Tryz.f12.params.toList ++ Rows.spreadDomainsSpec.plain.varTypes Tryz.prog).any (Tryz.prog.ifacesRec ·)) && (Rows.spreadDomainsRow.mapsOut == Tryz.prog.mapsAmong Tryz.f12.resultTypes.toList) && (Rows.spreadDomainsRow.loops == (Tryz.f12.params.toList ++ Rows.spreadDomainsSpec.plain.varTypes Tryz.prog).any (Tryz.prog.loopsFrom ·)) && (Rows.spreadDomainsRow.wideKeys == (Tryz.f12.params.toList ++ Rows.spreadDomainsSpec.plain.varTypes Tryz.prog ++ Tryz.f12.resultTypes.toList).any (Tryz.prog.wideKeysFrom ·))) = true := by kernel_rfl
theorem spreadDomains_c7 : (Rows.spreadDomainsSpec.vars.all (Tryz.prog.varReadable ·) && Tryz.f12.resultTypes.all (fun t => Tryz.prog.readableRec t && decide (t < Tryz.prog.types.size)) && (Rows.spreadDomainsRow.ifacesOut == Tryz.f12.resultTypes.toList.any (Tryz.prog.ifacesRec ·)) && (Rows.spreadDomainsRow.loopsOut == Tryz.f12.resultTypes.toList.any (Tryz.prog.loopsFrom ·))) = true := by kernel_rfl
theorem spreadDomains_c8 : (Rows.spreadDomainsRow.plainKeys == Tryz.prog.plainKeys) = true := by kernel_rfl
theorem spreadDomains_c9 : (Rows.spreadDomainsRow.shortTexts.isNone && Tryz.prog.stopsHeard && Tryz.prog.mayEnter) = true := by kernel_rfl
theorem spreadDomains_c10 : (Rows.spreadDomainsRow.lifted == Tryz.prog.liftsFinal) = true := by kernel_rfl
theorem spreadDomains_c11 : (Tryz.prog.make == some Rows.spreadDomainsRow.make) = true := by kernel_rfl
theorem spreadDomains_c12 : ((Rows.spreadDomainsRow.kinds == (if Rows.spreadDomainsRow.domain.isEmpty then [] else Tryz.f12.params.toList.map fun t => match Tryz.prog.underlying t with | some (.int k) => some k | _ => none)) && (Rows.spreadDomainsRow.pinned == Rows.spreadDomainsRow.pinnedBy)) = true := by kernel_rfl
theorem spreadDomains_c13 : ((Rows.spreadDomainsRow.veiled == (Tryz.f12.params.toList ++ Rows.spreadDomainsSpec.plain.varTypes Tryz.prog ++ Tryz.f12.resultTypes.toList).any (Tryz.prog.veiledRec ·)) && Rows.spreadDomainsRow.veiledFits Tryz.prog Tryz.f12.params.toList (Tryz.f12.params.toList ++ Rows.spreadDomainsSpec.plain.varTypes Tryz.prog ++ Tryz.f12.resultTypes.toList)) = true := by kernel_rfl
theorem spreadDomains_w : Rows.spreadDomainsRow.wfByText (OpenSpec.ofChange Rows.spreadDomainsSpec) = true := by kernel_rfl
theorem spreadDomains_n : Tryz.prog.funcNamed "sutler/sutlerlaw15.SpreadDomains" = some 12 := by kernel_rfl
theorem spreadDomains_s : (([33, 9, 9, 9, 9] : List Nat).all fun u => !Tryz.prog.wantsStandIn u) = true := by kernel_rfl
theorem spreadDomains_g : false = Rows.spreadDomainsRow.goesBy Tryz.prog := by kernel_rfl
theorem spreadDomains_row : Rows.SpreadDomainsSaid :=
  OpenClaim.holds_of_wide 12 Tryz.f12 rfl rfl rfl rfl rfl rfl rfl ⟨rfl, rfl, rfl, rfl, rfl⟩ rfl rfl rfl rfl rfl (by kernel_rfl) Tryz.func12 (joined_split spreadDomains_c1 spreadDomains_c2 spreadDomains_c3 spreadDomains_c4 spreadDomains_c5 spreadDomains_c6 spreadDomains_c7 spreadDomains_c8 spreadDomains_c9 spreadDomains_c10 spreadDomains_c11 spreadDomains_c12 spreadDomains_c13)
    (of_decide_eq_true (by kernel_rfl)) (by unfold Func.isWrapper; first | (rw [if_pos (by decide +kernel)]; kernel_rfl) | (rw [if_neg (by decide +kernel)]; exact ⟨rfl, rfl⟩))
    (fun os started H enc _ => spreadDomains_lifted os started H enc)

theorem spreadDomains_holds : Rows.SpreadDomainsCardSaid :=
  Claim7.holds_tied_plain_at .later [] [.data, .data, .data, .sentinel, .sentinel] true (true, "12857ace036f4670686d1961319b34f0a5366c5768523ec50e0dce2bf56e83df") true
    spreadDomains_row (fun _ h => by cases h) spreadDomains_w (fun _ h => by cases h) spreadDomains_row_tie rfl ⟨rfl, rfl⟩ mainIs_t rfl
    (fun f fn hf hfn => by
      obtain rfl : f = 12 := Option.some.inj (spreadDomains_n.symm.trans hf) |>.symm
      obtain rfl : fn = Tryz.f12 := (Option.some.inj (Tryz.func12.symm.trans hfn)).symm
      exact ⟨looks_t, fun j t ht => by
        rw [Tryz.params12] at ht
        have hm : t ∈ ([33, 9, 9, 9, 9] : List Nat) := by simpa using Array.mem_of_getElem? ht
        have hall : (([33, 9, 9, 9, 9] : List Nat).all fun u => !Tryz.prog.wantsStandIn u) = true := spreadDomains_s
        exact (show Tryz.prog.wantsStandIn t = false by simpa using List.all_eq_true.1 hall t hm)⟩)
    spreadDomains_g
#print axioms spreadDomains_holds
end Go.Proofs.YtnbdmjbpgaeacaaGreatDoor
