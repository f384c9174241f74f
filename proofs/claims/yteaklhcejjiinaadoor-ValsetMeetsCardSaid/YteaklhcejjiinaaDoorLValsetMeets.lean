/- Any two sets meet in the set that the document says, or have its error. -/
import Derived.Test.YteaklhcejjiinaaDoorM10
import Derived.Test.YteaklhcejjiinaaDoorM11
namespace Go.Proofs.YteaklhcejjiinaaDoor
open Go Go.ChangeShapes Go.WideShapes Go.ChangeAt Go.WideMaps Go.WideElems Go.RowKit Go.Proofs.AM
set_option maxRecDepth 100000

theorem valsetMeets_call (xs : List D) (hx : ArgsFit Tryd.prog Tryd.f7.params.toList xs) : PR3.v 7 xs (.bool true) := by
  rw [Tryd.params7] at hx
  replace hx : ArgsFit Tryd.prog [24, 24] xs := hx
  obtain ⟨x0, _, rfl, h0, hx⟩ := args_cons hx
  obtain ⟨x1, _, rfl, h1, hx⟩ := args_cons hx
  obtain rfl := args_nil hx
  obtain ⟨a, rfl, ha⟩ := fits_set h0
  obtain ⟨b, rfl, hb⟩ := fits_set h1
  exact l7 a b ha hb
theorem valsetMeets_lifted (os : Os) (started : os.Started) (H : Type) (enc : TypeId × Value → H) :
    ReturnsInHanded {} Tryd.checked os 7 .any (fun w args => (Rows.valsetMeetsSpec.pre enc Tryd.prog Tryd.f7 [] false w args ∧ laidMetH Tryd.prog laid5 w) ∧ sizedMet enc Tryd.prog Tryd.f7 (OpenSpec.ofChange Rows.valsetMeetsSpec) false w args)
      (Rows.valsetMeetsSpec.post enc Tryd.prog Tryd.f7 false true false false) := by
  refine returnsInHanded_of_change_and (C := Tryd.checked) (X := fun w _ => laidMetH Tryd.prog laid5 w) (fun _ _ _ hh h => h.of_heap hh) own started (by kernel_rfl) Tryd.func7
    (ChangeSpec.witness_shaped (enc := enc) (C := Tryd.checked) (os := os) (X := fun w _ => laidMetH Tryd.prog laid5 w) false (World.doorLaid Tryd.prog 62 os) #[.agg #[.bool false, .bool false, .bool false, .slice none 0 0, .int .i64 0, .int .i64 0], .agg #[.bool false, .bool false, .bool false, .slice none 0 0, .int .i64 0, .int .i64 0]] 8 rfl (World.shaped_of_RefB (by kernel_rfl) (by kernel_rfl)) (by kernel_rfl) (by kernel_rfl) (by kernel_rfl) (door_met os _)) ?_
  intro W base args ds gs before hval hW hc hsz hL _
  refine law_contract (X := fun w _ => laidMetH Tryd.prog laid5 w) laidOut (by kernel_rfl) (by kernel_rfl) (bt := 4) (by kernel_rfl) Tryd.underlying4 rfl (fun ds hd => ?_) (fun _ _ h => of_laid h) valsetMeets_call W base args ds gs before hval hW hc hsz hL
  have hd : ds.length = 2 := hd
  match ds, hd with
  | [d0, d1], _ => exact ⟨rfl, rfl, rfl⟩

theorem valsetMeets_row : Rows.ValsetMeetsSaid :=
  OpenClaim.holds_of_wide 7 Tryd.f7 rfl rfl rfl rfl rfl rfl rfl ⟨rfl, rfl, rfl, rfl, rfl⟩ rfl rfl rfl rfl rfl (by kernel_rfl) Tryd.func7 (by kernel_rfl)
    (of_decide_eq_true (by kernel_rfl)) (by unfold Func.isWrapper; first | (rw [if_pos (by decide +kernel)]; kernel_rfl) | (rw [if_neg (by decide +kernel)]; exact ⟨rfl, rfl⟩))
    (fun os started H enc _ => valsetMeets_lifted os started H enc)

theorem valsetMeets_holds : Rows.ValsetMeetsCardSaid :=
  Claim7.holds_tied_plain_at .later [] [.data, .data, .data, .sentinel, .sentinel] true (true, "85bda12fb114d93d39a13df2dbfd59ce84337b56bfa338df057304b2de3f3825") true
    valsetMeets_row (fun _ h => by cases h) (by kernel_rfl) (fun _ h => by cases h) valsetMeets_row_tie rfl ⟨rfl, rfl⟩ (by kernel_rfl) rfl
    (fun f fn hf hfn => by
      obtain rfl : f = 7 := Option.some.inj ((show Tryd.prog.funcNamed "sutler/sutlerlaw03.ValsetMeets" = some 7 by kernel_rfl).symm.trans hf) |>.symm
      obtain rfl : fn = Tryd.f7 := (Option.some.inj (Tryd.func7.symm.trans hfn)).symm
      exact ⟨by kernel_rfl, fun j t ht => by
        rw [Tryd.params7] at ht
        have hm : t ∈ ([24, 24] : List Nat) := by simpa using Array.mem_of_getElem? ht
        have hall : (([24, 24] : List Nat).all fun u => !Tryd.prog.wantsStandIn u) = true := by kernel_rfl
        exact (show Tryd.prog.wantsStandIn t = false by simpa using List.all_eq_true.1 hall t hm)⟩)
    (by kernel_rfl)
#print axioms valsetMeets_holds
end Go.Proofs.YteaklhcejjiinaaDoor
