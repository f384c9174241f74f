/- The numbers of errors and operations are those of the document, and so are a few sets at the edges. -/
import Derived.Test.YteaklhcejjiinaaDoorM10
namespace Go.Proofs.YteaklhcejjiinaaDoor
open Go Go.ChangeShapes Go.WideShapes Go.ChangeAt Go.WideMaps Go.WideElems Go.RowKit Go.Proofs.AM
set_option maxRecDepth 100000

theorem valsetNumbers_call (xs : List D) (hx : ArgsFit Tryd.prog Tryd.f3.params.toList xs) : PR3.v 3 xs (.bool true) := by
  rw [Tryd.params3] at hx
  replace hx : ArgsFit Tryd.prog [] xs := hx
  obtain rfl := args_nil hx
  exact pr3 E3 Tryd.func3 T3 (numbers3_ok _ c3_all)
theorem valsetNumbers_lifted (os : Os) (started : os.Started) (H : Type) (enc : TypeId × Value → H) :
    ReturnsInHanded {} Tryd.checked os 3 .any (fun w args => (Rows.valsetNumbersSpec.pre enc Tryd.prog Tryd.f3 [] false w args ∧ laidMetH Tryd.prog laid5 w) ∧ sizedMet enc Tryd.prog Tryd.f3 (OpenSpec.ofChange Rows.valsetNumbersSpec) false w args)
      (Rows.valsetNumbersSpec.post enc Tryd.prog Tryd.f3 false true false false) := by
  refine returnsInHanded_of_change_and (C := Tryd.checked) (X := fun w _ => laidMetH Tryd.prog laid5 w) (fun _ _ _ hh h => h.of_heap hh) own started (by kernel_rfl) Tryd.func3
    (ChangeSpec.witness_shaped (enc := enc) (C := Tryd.checked) (os := os) (X := fun w _ => laidMetH Tryd.prog laid5 w) false (World.doorLaid Tryd.prog 62 os) #[] 8 rfl (World.shaped_of_RefB (by kernel_rfl) (by kernel_rfl)) (by kernel_rfl) (by kernel_rfl) (by kernel_rfl) (door_met os _)) ?_
  intro W base args ds gs before hval hW hc hsz hL _
  refine law_contract (X := fun w _ => laidMetH Tryd.prog laid5 w) laidOut (by kernel_rfl) (by kernel_rfl) (bt := 4) (by kernel_rfl) Tryd.underlying4 rfl (fun ds hd => ?_) (fun _ _ h => of_laid h) valsetNumbers_call W base args ds gs before hval hW hc hsz hL
  have hd : ds.length = 0 := hd
  match ds, hd with
  | [], _ => exact ⟨rfl, rfl, rfl⟩

theorem valsetNumbers_row : Rows.ValsetNumbersSaid :=
  OpenClaim.holds_of_wide 3 Tryd.f3 rfl rfl rfl rfl rfl rfl rfl ⟨rfl, rfl, rfl, rfl, rfl⟩ rfl rfl rfl rfl rfl (by kernel_rfl) Tryd.func3 (by kernel_rfl)
    (of_decide_eq_true (by kernel_rfl)) (by unfold Func.isWrapper; first | (rw [if_pos (by decide +kernel)]; kernel_rfl) | (rw [if_neg (by decide +kernel)]; exact ⟨rfl, rfl⟩))
    (fun os started H enc _ => valsetNumbers_lifted os started H enc)

theorem valsetNumbers_holds : Rows.ValsetNumbersCardSaid :=
  Claim7.holds_tied_plain_at .later [] [.data, .data, .data, .sentinel, .sentinel] true (true, "85bda12fb114d93d39a13df2dbfd59ce84337b56bfa338df057304b2de3f3825") true
    valsetNumbers_row (fun _ h => by cases h) (by kernel_rfl) (fun _ h => by cases h) valsetNumbers_row_tie rfl ⟨rfl, rfl⟩ (by kernel_rfl) rfl
    (fun f fn hf hfn => by
      obtain rfl : f = 3 := Option.some.inj ((show Tryd.prog.funcNamed "sutler/sutlerlaw03.ValsetNumbers" = some 3 by kernel_rfl).symm.trans hf) |>.symm
      obtain rfl : fn = Tryd.f3 := (Option.some.inj (Tryd.func3.symm.trans hfn)).symm
      exact ⟨by kernel_rfl, fun j t ht => by
        rw [Tryd.params3] at ht
        have hm : t ∈ ([] : List Nat) := by simpa using Array.mem_of_getElem? ht
        have hall : (([] : List Nat).all fun u => !Tryd.prog.wantsStandIn u) = true := by kernel_rfl
        exact (show Tryd.prog.wantsStandIn t = false by simpa using List.all_eq_true.1 hall t hm)⟩)
    (by kernel_rfl)
#print axioms valsetNumbers_holds
end Go.Proofs.YteaklhcejjiinaaDoor
