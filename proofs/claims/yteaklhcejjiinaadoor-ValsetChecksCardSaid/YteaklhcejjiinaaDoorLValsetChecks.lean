/- Every set is judged by the program just as the document says. -/
import Derived.Test.YteaklhcejjiinaaDoorM10
namespace Go.Proofs.YteaklhcejjiinaaDoor
open Go Go.ChangeShapes Go.WideShapes Go.ChangeAt Go.WideMaps Go.WideElems Go.RowKit Go.Proofs.AM
set_option maxRecDepth 100000

theorem valsetChecks_call (xs : List D) (hx : ArgsFit Tryd.prog Tryd.f6.params.toList xs) : PR3.v 6 xs (.bool true) := by
  rw [Tryd.params6] at hx
  replace hx : ArgsFit Tryd.prog [24] xs := hx
  obtain ⟨x0, _, rfl, h0, hx⟩ := args_cons hx
  obtain rfl := args_nil hx
  obtain ⟨s, rfl, hs⟩ := fits_set h0
  exact pr3 E6 Tryd.func6 T6 (checks6_ok _ c3_all s hs)
theorem valsetChecks_lifted (os : Os) (started : os.Started) (H : Type) (enc : TypeId × Value → H) :
    ReturnsInHanded {} Tryd.checked os 6 .any (fun w args => (Rows.valsetChecksSpec.pre enc Tryd.prog Tryd.f6 [] false w args ∧ laidMetH Tryd.prog laid5 w) ∧ sizedMet enc Tryd.prog Tryd.f6 (OpenSpec.ofChange Rows.valsetChecksSpec) false w args)
      (Rows.valsetChecksSpec.post enc Tryd.prog Tryd.f6 false true false false) := by
  refine returnsInHanded_of_change_and (C := Tryd.checked) (X := fun w _ => laidMetH Tryd.prog laid5 w) (fun _ _ _ hh h => h.of_heap hh) own started (by kernel_rfl) Tryd.func6
    (ChangeSpec.witness_shaped (enc := enc) (C := Tryd.checked) (os := os) (X := fun w _ => laidMetH Tryd.prog laid5 w) false (World.doorLaid Tryd.prog 62 os) #[.agg #[.bool false, .bool false, .bool false, .slice none 0 0, .int .i64 0, .int .i64 0]] 8 rfl (World.shaped_of_RefB (by kernel_rfl) (by kernel_rfl)) (by kernel_rfl) (by kernel_rfl) (by kernel_rfl) (door_met os _)) ?_
  intro W base args ds gs before hval hW hc hsz hL _
  refine law_contract (X := fun w _ => laidMetH Tryd.prog laid5 w) laidOut (by kernel_rfl) (by kernel_rfl) (bt := 4) (by kernel_rfl) Tryd.underlying4 rfl (fun ds hd => ?_) (fun _ _ h => of_laid h) valsetChecks_call W base args ds gs before hval hW hc hsz hL
  have hd : ds.length = 1 := hd
  match ds, hd with
  | [d0], _ => exact ⟨rfl, rfl, rfl⟩

theorem valsetChecks_row : Rows.ValsetChecksSaid :=
  OpenClaim.holds_of_wide 6 Tryd.f6 rfl rfl rfl rfl rfl rfl rfl ⟨rfl, rfl, rfl, rfl, rfl⟩ rfl rfl rfl rfl rfl (by kernel_rfl) Tryd.func6 (by kernel_rfl)
    (of_decide_eq_true (by kernel_rfl)) (by unfold Func.isWrapper; first | (rw [if_pos (by decide +kernel)]; kernel_rfl) | (rw [if_neg (by decide +kernel)]; exact ⟨rfl, rfl⟩))
    (fun os started H enc _ => valsetChecks_lifted os started H enc)

theorem valsetChecks_holds : Rows.ValsetChecksCardSaid :=
  Claim7.holds_tied_plain_at .later [] [.data, .data, .data, .sentinel, .sentinel] true (true, "85bda12fb114d93d39a13df2dbfd59ce84337b56bfa338df057304b2de3f3825") true
    valsetChecks_row (fun _ h => by cases h) (by kernel_rfl) (fun _ h => by cases h) valsetChecks_row_tie rfl ⟨rfl, rfl⟩ (by kernel_rfl) rfl
    (fun f fn hf hfn => by
      obtain rfl : f = 6 := Option.some.inj ((show Tryd.prog.funcNamed "sutler/sutlerlaw03.ValsetChecks" = some 6 by kernel_rfl).symm.trans hf) |>.symm
      obtain rfl : fn = Tryd.f6 := (Option.some.inj (Tryd.func6.symm.trans hfn)).symm
      exact ⟨by kernel_rfl, fun j t ht => by
        rw [Tryd.params6] at ht
        have hm : t ∈ ([24] : List Nat) := by simpa using Array.mem_of_getElem? ht
        have hall : (([24] : List Nat).all fun u => !Tryd.prog.wantsStandIn u) = true := by kernel_rfl
        exact (show Tryd.prog.wantsStandIn t = false by simpa using List.all_eq_true.1 hall t hm)⟩)
    (by kernel_rfl)
#print axioms valsetChecks_holds
end Go.Proofs.YteaklhcejjiinaaDoor
