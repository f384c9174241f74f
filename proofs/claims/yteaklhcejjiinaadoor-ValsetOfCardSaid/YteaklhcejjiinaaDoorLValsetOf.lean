/- Every requirement admits just the set that the document says, or has its error. -/
import Derived.Test.YteaklhcejjiinaaDoorM10
import Derived.Test.YteaklhcejjiinaaDoorM11
namespace Go.Proofs.YteaklhcejjiinaaDoor
open Go Go.ChangeShapes Go.WideShapes Go.ChangeAt Go.WideMaps Go.WideElems Go.RowKit Go.Proofs.AM
set_option maxRecDepth 100000

theorem valsetOf_call (xs : List D) (hx : ArgsFit Tryd.prog Tryd.f5.params.toList xs) : PR3.v 5 xs (.bool true) := by
  rw [Tryd.params5] at hx
  replace hx : ArgsFit Tryd.prog [29] xs := hx
  obtain ⟨x0, _, rfl, h0, hx⟩ := args_cons hx
  obtain rfl := args_nil hx
  obtain ⟨q, rfl, hq⟩ := fits_req h0
  exact l5 q hq
theorem valsetOf_lifted (os : Os) (started : os.Started) (H : Type) (enc : TypeId × Value → H) :
    ReturnsInHanded {} Tryd.checked os 5 .any (fun w args => (Rows.valsetOfSpec.pre enc Tryd.prog Tryd.f5 [] false w args ∧ laidMetH Tryd.prog laid5 w) ∧ sizedMet enc Tryd.prog Tryd.f5 (OpenSpec.ofChange Rows.valsetOfSpec) false w args)
      (Rows.valsetOfSpec.post enc Tryd.prog Tryd.f5 false true false false) := by
  refine returnsInHanded_of_change_and (C := Tryd.checked) (X := fun w _ => laidMetH Tryd.prog laid5 w) (fun _ _ _ hh h => h.of_heap hh) own started (by kernel_rfl) Tryd.func5
    (ChangeSpec.witness_shaped (enc := enc) (C := Tryd.checked) (os := os) (X := fun w _ => laidMetH Tryd.prog laid5 w) false (World.doorLaid Tryd.prog 62 os) #[.agg #[.string ⟨#[]⟩, .int .i64 0, .slice none 0 0, .int .i64 0]] 8 rfl (World.shaped_of_RefB (by kernel_rfl) (by kernel_rfl)) (by kernel_rfl) (by kernel_rfl) (by kernel_rfl) (door_met os _)) ?_
  intro W base args ds gs before hval hW hc hsz hL _
  refine law_contract (X := fun w _ => laidMetH Tryd.prog laid5 w) laidOut (by kernel_rfl) (by kernel_rfl) (bt := 4) (by kernel_rfl) Tryd.underlying4 rfl (fun ds hd => ?_) (fun _ _ h => of_laid h) valsetOf_call W base args ds gs before hval hW hc hsz hL
  have hd : ds.length = 1 := hd
  match ds, hd with
  | [d0], _ => exact ⟨rfl, rfl, rfl⟩

theorem valsetOf_row : Rows.ValsetOfSaid :=
  OpenClaim.holds_of_wide 5 Tryd.f5 rfl rfl rfl rfl rfl rfl rfl ⟨rfl, rfl, rfl, rfl, rfl⟩ rfl rfl rfl rfl rfl (by kernel_rfl) Tryd.func5 (by kernel_rfl)
    (of_decide_eq_true (by kernel_rfl)) (by unfold Func.isWrapper; first | (rw [if_pos (by decide +kernel)]; kernel_rfl) | (rw [if_neg (by decide +kernel)]; exact ⟨rfl, rfl⟩))
    (fun os started H enc _ => valsetOf_lifted os started H enc)

theorem valsetOf_holds : Rows.ValsetOfCardSaid :=
  Claim7.holds_tied_plain_at .later [] [.data, .data, .data, .sentinel, .sentinel] true (true, "85bda12fb114d93d39a13df2dbfd59ce84337b56bfa338df057304b2de3f3825") true
    valsetOf_row (fun _ h => by cases h) (by kernel_rfl) (fun _ h => by cases h) valsetOf_row_tie rfl ⟨rfl, rfl⟩ (by kernel_rfl) rfl
    (fun f fn hf hfn => by
      obtain rfl : f = 5 := Option.some.inj ((show Tryd.prog.funcNamed "sutler/sutlerlaw03.ValsetOf" = some 5 by kernel_rfl).symm.trans hf) |>.symm
      obtain rfl : fn = Tryd.f5 := (Option.some.inj (Tryd.func5.symm.trans hfn)).symm
      exact ⟨by kernel_rfl, fun j t ht => by
        rw [Tryd.params5] at ht
        have hm : t ∈ ([29] : List Nat) := by simpa using Array.mem_of_getElem? ht
        have hall : (([29] : List Nat).all fun u => !Tryd.prog.wantsStandIn u) = true := by kernel_rfl
        exact (show Tryd.prog.wantsStandIn t = false by simpa using List.all_eq_true.1 hall t hm)⟩)
    (by kernel_rfl)
#print axioms valsetOf_holds
end Go.Proofs.YteaklhcejjiinaaDoor
