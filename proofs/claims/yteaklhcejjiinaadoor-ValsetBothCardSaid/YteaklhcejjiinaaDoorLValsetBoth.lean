/- Where two sets meet, a value is there just if both have it, and none just if both may be missing. -/
import Derived.Test.YteaklhcejjiinaaDoorM10
import Derived.Test.YteaklhcejjiinaaDoorM11
namespace Go.Proofs.YteaklhcejjiinaaDoor
open Go Go.ChangeShapes Go.WideShapes Go.ChangeAt Go.WideMaps Go.WideElems Go.RowKit Go.Proofs.AM
set_option maxRecDepth 100000

theorem valsetBoth_call (xs : List D) (hx : ArgsFit Tryd.prog Tryd.f10.params.toList xs) : PR3.v 10 xs (.bool true) := by
  rw [Tryd.params10] at hx
  replace hx : ArgsFit Tryd.prog [24, 24, 9] xs := hx
  obtain ⟨x0, _, rfl, h0, hx⟩ := args_cons hx
  obtain ⟨x1, _, rfl, h1, hx⟩ := args_cons hx
  obtain ⟨x2, _, rfl, h2, hx⟩ := args_cons hx
  obtain rfl := args_nil hx
  obtain ⟨a, rfl, ha⟩ := fits_set h0
  obtain ⟨b, rfl, hb⟩ := fits_set h1
  obtain ⟨v, rfl, hv⟩ := fits_str h2
  exact pr3 E10 Tryd.func10 T10 (both10_ok _ c3_all a b v ha hb hv)
theorem valsetBoth_lifted (os : Os) (started : os.Started) (H : Type) (enc : TypeId × Value → H) :
    ReturnsInHanded {} Tryd.checked os 10 .any (fun w args => (Rows.valsetBothSpec.pre enc Tryd.prog Tryd.f10 [] false w args ∧ laidMetH Tryd.prog laid5 w) ∧ sizedMet enc Tryd.prog Tryd.f10 (OpenSpec.ofChange Rows.valsetBothSpec) false w args)
      (Rows.valsetBothSpec.post enc Tryd.prog Tryd.f10 false true false false) := by
  refine returnsInHanded_of_change_and (C := Tryd.checked) (X := fun w _ => laidMetH Tryd.prog laid5 w) (fun _ _ _ hh h => h.of_heap hh) own started (by kernel_rfl) Tryd.func10
    (ChangeSpec.witness_shaped (enc := enc) (C := Tryd.checked) (os := os) (X := fun w _ => laidMetH Tryd.prog laid5 w) false (World.doorLaid Tryd.prog 62 os) #[.agg #[.bool false, .bool false, .bool false, .slice none 0 0, .int .i64 0, .int .i64 0], .agg #[.bool false, .bool false, .bool false, .slice none 0 0, .int .i64 0, .int .i64 0], .string ⟨#[]⟩] 8 rfl (World.shaped_of_RefB (by kernel_rfl) (by kernel_rfl)) (by kernel_rfl) (by kernel_rfl) (by kernel_rfl) (door_met os _)) ?_
  intro W base args ds gs before hval hW hc hsz hL _
  refine law_contract (X := fun w _ => laidMetH Tryd.prog laid5 w) laidOut (by kernel_rfl) (by kernel_rfl) (bt := 4) (by kernel_rfl) Tryd.underlying4 rfl (fun ds hd => ?_) (fun _ _ h => of_laid h) valsetBoth_call W base args ds gs before hval hW hc hsz hL
  have hd : ds.length = 3 := hd
  match ds, hd with
  | [d0, d1, d2], _ => exact ⟨rfl, rfl, rfl⟩

theorem valsetBoth_row : Rows.ValsetBothSaid :=
  OpenClaim.holds_of_wide 10 Tryd.f10 rfl rfl rfl rfl rfl rfl rfl ⟨rfl, rfl, rfl, rfl, rfl⟩ rfl rfl rfl rfl rfl (by kernel_rfl) Tryd.func10 (by kernel_rfl)
    (of_decide_eq_true (by kernel_rfl)) (by unfold Func.isWrapper; first | (rw [if_pos (by decide +kernel)]; kernel_rfl) | (rw [if_neg (by decide +kernel)]; exact ⟨rfl, rfl⟩))
    (fun os started H enc _ => valsetBoth_lifted os started H enc)

theorem valsetBoth_holds : Rows.ValsetBothCardSaid :=
  Claim7.holds_tied_plain_at .later [] [.data, .data, .data, .sentinel, .sentinel] true (true, "85bda12fb114d93d39a13df2dbfd59ce84337b56bfa338df057304b2de3f3825") true
    valsetBoth_row (fun _ h => by cases h) (by kernel_rfl) (fun _ h => by cases h) valsetBoth_row_tie rfl ⟨rfl, rfl⟩ (by kernel_rfl) rfl
    (fun f fn hf hfn => by
      obtain rfl : f = 10 := Option.some.inj ((show Tryd.prog.funcNamed "sutler/sutlerlaw03.ValsetBoth" = some 10 by kernel_rfl).symm.trans hf) |>.symm
      obtain rfl : fn = Tryd.f10 := (Option.some.inj (Tryd.func10.symm.trans hfn)).symm
      exact ⟨by kernel_rfl, fun j t ht => by
        rw [Tryd.params10] at ht
        have hm : t ∈ ([24, 24, 9] : List Nat) := by simpa using Array.mem_of_getElem? ht
        have hall : (([24, 24, 9] : List Nat).all fun u => !Tryd.prog.wantsStandIn u) = true := by kernel_rfl
        exact (show Tryd.prog.wantsStandIn t = false by simpa using List.all_eq_true.1 hall t hm)⟩)
    (by kernel_rfl)
#print axioms valsetBoth_holds
end Go.Proofs.YteaklhcejjiinaaDoor
