/- Part 10 of the lemmas: BVVn, BVVo, PVe, BVVp, BVVq, BVVr, BVVs, BVVt, BVVu, PVf, BVVv, BVVw, BGLc, PWa, PWf, BGd, BGe. -/
import Derived.Test.YtococcgeoknmjabGreatDoorM08
import Derived.Test.YtococcgeoknmjabGreatDoorM09
import Derived.Test.YtococcgeoknmjabGreatDoorM07
import Derived.Test.YtococcgeoknmjabGreatDoorCards
import Derived.Test.YtococcgeoknmjabGreatDoorTie
import Derived.ProofKit
import Derived.LaidMore
import Derived.OpenShut
import Derived.Stop.Joined
import Derived.Stop.LaidErr
import Derived.SevenTiedAt
namespace Go.Proofs.AM
open Go Go.Lib Cd
theorem seen_S (z : Str) : ∀ (S : List Str), seenIn (mkS z) (S.map mkS) = some (decide (z ∈ S))
  | [] => rfl
  | x :: r => by
    have ih := seen_S z r
    have hb : (({ data := { toList := z } } : ByteArray) == { data := { toList := x } }) = decide (z = x) := by
      show (({ toList := z } : Array UInt8) == { toList := x }) = _
      rw [Bool.eq_iff_iff]
      simp
    have hd : dynEq (mkS z) (mkS x) = some (decide (z = x)) := by
      show some (_ == _) = _
      rw [hb]
    simp only [List.map_cons, seenIn, hd, Option.bind_some, ih]
    by_cases h : z = x <;> simp [h]
theorem lookDyn_ent (z : Str) : ∀ (K : List Str), z ∈ K → lookDyn (mkS z) (K.map ent) = some (some (.bool true))
  | [], h => by simp at h
  | x :: r, h => by
    have hb : (({ data := { toList := z } } : ByteArray) == { data := { toList := x } }) = decide (z = x) := by
      show (({ toList := z } : Array UInt8) == { toList := x }) = _
      rw [Bool.eq_iff_iff]
      simp
    have hd : dynEq (mkS z) (mkS x) = some (decide (z = x)) := by
      show some (_ == _) = _
      rw [hb]
    simp only [List.map_cons, ent, lookDyn, hd, Option.bind_some]
    by_cases e : z = x
    · simp [e]
    · have hm : z ∈ r := by
        rcases List.mem_cons.1 h with h | h
        · exact absurd h e
        · exact h
      simp only [e, decide_false, Bool.false_eq_true, if_false]
      exact lookDyn_ent z r hm
def NumsR (lo hi : Int) (K : List Str) (S : SetV) (b : Bool) : Prop := (b = true ∧ numbersS lo hi K = some S) ∨ (b = false ∧ numbersS lo hi K = none)
theorem upTo_get (lo : Int) : ∀ (n : Nat), upTo lo (n + 1) = upTo lo n ++ [itoa (lo + n)]
  | 0 => by simp [upTo]
  | n + 1 => by
    rw [show upTo lo (n + 1 + 1) = itoa lo :: upTo (lo + 1) (n + 1) from rfl, upTo_get (lo + 1) n]
    simp only [upTo, List.cons_append]
    rw [show lo + 1 + (n : Int) = lo + ((n + 1 : Nat) : Int) by omega]
def accN (lo : Int) (K : List Str) (j : Nat) : List Str := ((upTo lo j).filter fun s => decide (s ∉ K)).foldl insS []
theorem accN_step {lo : Int} {K : List Str} {j : Nat} {z : Str} (hz : z = itoa (lo + j)) : accN lo K (j + 1) = if z ∈ K then accN lo K j else insS (accN lo K j) z := by
  unfold accN
  rw [upTo_get, List.filter_append, List.foldl_append, ← hz]
  by_cases h : z ∈ K <;> simp [h]
theorem accN_mem {lo hi : Int} {K : List Str} {z : Str} : z ∈ accN lo K (hi + 1 - lo).toNat ↔ z ∈ listN lo hi K := by
  have := (ins_aux ((upTo lo (hi + 1 - lo).toNat).filter fun s => decide (s ∉ K)) [] List.nodup_nil).2.1 z
  unfold accN listN
  simpa using this
theorem accN_nodup (lo : Int) (K : List Str) (j : Nat) : (accN lo K j).Nodup := (ins_aux _ [] List.nodup_nil).1
theorem upTo_len (lo : Int) : ∀ n, (upTo lo n).length = n
  | 0 => rfl
  | n + 1 => by simp [upTo, upTo_len (lo + 1) n]
theorem accN_len (lo : Int) (K : List Str) (j : Nat) : (accN lo K j).length ≤ j := by
  have h1 := (ins_aux ((upTo lo j).filter fun s => decide (s ∉ K)) [] List.nodup_nil).2.2
  have h2 := List.length_filter_le (fun s => decide (s ∉ K)) (upTo lo j)
  rw [upTo_len] at h2
  unfold accN
  simp only [List.length_nil, Nat.add_zero] at h1
  omega
theorem listN_congr {lo hi : Int} {K K' : List Str} (h : ∀ z, z ∈ K ↔ z ∈ K') : listN lo hi K = listN lo hi K' := by
  unfold listN
  congr 1
  funext s
  simp [h s]
theorem upS_ge {hi : Int} {K : List Str} : ∀ (n : Nat) (lo : Int), (hi + 1 - lo).toNat ≤ n → lo ≤ upS hi K lo ∧ (lo ≤ hi + 1 → upS hi K lo ≤ hi + 1) ∧ (hi < lo → upS hi K lo = lo) := by
  intro n
  induction n with
  | zero => intro lo h; rw [upS_stop (fun h' => by omega)]; omega
  | succ n ih =>
    intro lo h
    by_cases hc : lo ≤ hi ∧ itoa lo ∈ K
    · rw [upS_step hc]; have := ih (lo + 1) (by omega); omega
    · rw [upS_stop hc]; omega
theorem dnS_le {lo : Int} {K : List Str} : ∀ (n : Nat) (hi : Int), (hi + 1 - lo).toNat ≤ n → dnS lo K hi ≤ hi ∧ (lo - 1 ≤ hi → lo - 1 ≤ dnS lo K hi) ∧ (hi < lo → dnS lo K hi = hi) := by
  intro n
  induction n with
  | zero => intro hi h; rw [dnS_stop (fun h' => by omega)]; omega
  | succ n ih =>
    intro hi h
    by_cases hc : lo ≤ hi ∧ itoa hi ∈ K
    · rw [dnS_step hc]; have := ih (hi - 1) (by omega); omega
    · rw [dnS_stop hc]; omega
theorem itoa_SL {n : Int} (h : FI n) : SL (itoa n) := by
  unfold FI at h
  have := decDigits_le 18 n.natAbs (by have : (10 : Nat) ^ (18 + 1) = 10000000000000000000 := by decide
                                       omega)
  unfold SL
  by_cases h : n < 0
  · rw [itoa_neg' h]; simp; omega
  · rw [itoa_pos' (by omega)]; omega
theorem upTo_SL {lo : Int} : ∀ {j : Nat}, (∀ i : Nat, i < j → FI (lo + i)) → ∀ s ∈ upTo lo j, SL s
  | 0, _, s, hs => by simp [upTo] at hs
  | j + 1, h, s, hs => by
    rw [upTo_get, List.mem_append] at hs
    rcases hs with hs | hs
    · exact upTo_SL (fun i hi => h i (by omega)) s hs
    · simp only [List.mem_singleton] at hs
      subst hs
      exact itoa_SL (h j (by omega))
theorem accN_SL {lo : Int} {K : List Str} {j : Nat} (h : ∀ i : Nat, i < j → FI (lo + i)) : ∀ s ∈ accN lo K j, SL s := by
  intro s hs
  have hm := ((ins_aux ((upTo lo j).filter fun s => decide (s ∉ K)) [] List.nodup_nil).2.1 s).1 hs
  simp only [List.not_mem_nil, or_false, List.mem_filter] at hm
  exact upTo_SL h s hm.1
theorem left_SL {lo hi : Int} {K K2 : List Str} (h : ∀ z, z ∈ K2 ↔ z ∈ K ∧ inR lo hi z = true) : ∀ s ∈ K2, SL s := fun s hs => by
  obtain ⟨n, hn, _⟩ := inR_iff.1 ((h s).1 hs).2
  have := numS_len hn
  unfold SL
  omega
theorem left_vals {lo hi : Int} {K K2 : List Str} (h2 : K2.Nodup) (h : ∀ z, z ∈ K2 ↔ z ∈ K ∧ inR lo hi z = true) : risingS K2 = valsN lo hi K ∧ (valsN lo hi K).length = K2.length ∧ ∀ z, z ∈ K2 ↔ z ∈ valsN lo hi K := by
  have e : risingS K2 = valsN lo hi K := risingS_congr fun z => by rw [h z]; simp
  refine ⟨e, by rw [← e, risingS_len_eq h2], fun z => by rw [← e, risingS_mem]⟩
set_option maxRecDepth 100000 in
set_option maxHeartbeats 8000000 in
theorem numbers34_ok (R : Ans) (h13 : ∀ s, SL s → ∀ v b, NumR s v b → R.v 27 [mkS s] (.tup [.int .i64 v, .bool b])) (h36 : ∀ n, FI n → R.v 40 [.int .i64 n, .int .i64 10] (mkS (itoa n)))
    (h32 : ∀ K : List Str, K.Nodup → (∀ s ∈ K, SL s) → K.length ≤ 8796093022208 → R.v 31 [.mapv (K.map ent)] (.sl 1 false ((risingS K).map mkS))) (lo0 hi0 : Int) (hb1 : least ≤ lo0) (hb2 : lo0 ≤ most + 1) (hb3 : hi0 ≤ most) (hb4 : least - 1 ≤ hi0) (K : List Str) (hK : K = []) (hKl : K.length ≤ 8796093022208) (S : SetV) (b : Bool) (hS : NumsR lo0 hi0 K S b) : AnsF R c32 [.int .i64 lo0, .int .i64 hi0, .mapv (K.map ent)] (.tup [setD S, .bool b]) := by
  unfold least at hb1 hb4
  unfold most at hb2 hb3
  refine wpF_sound ⟨rfl, by decide⟩ fun O hO V hV => ?_
  subst hV
  obtain ⟨es, hes⟩ : ∃ es, es = K.map ent := ⟨_, rfl⟩
  rw [← hes]
  obtain ⟨r, hrr⟩ : ∃ r, r = D.tup [setD S, .bool b] := ⟨_, rfl⟩
  rw [← hrr]
  have hleq : O .len es = K.length := by rw [o_len hO, hes]; simp
  have look : ∀ z : Str, ∃ r, lookD kS (mkS z) es = some r ∧ ((z ∈ K ∧ r = some (.bool true)) ∨ (z ∉ K ∧ r = none)) := fun z => by
    rw [hes, look_ent]
    by_cases h : z ∈ K
    · exact ⟨_, rfl, .inl ⟨h, by simp [h]⟩⟩
    · exact ⟨_, rfl, .inr ⟨h, by simp [h]⟩⟩
  have fmt : ∀ x : Int, FI x → ∃ z : Str, V.v 40 [.int .i64 x, .int .i64 10] (.str ⟨⟨z⟩⟩) ∧ z = itoa x := fun x hx => ⟨_, h36 x hx, rfl⟩
  conv => cbv
  refine join_of (fun d => ∃ x : Int, d = ⟨[(0, .int .i64 x), (1, .int .i64 hi0), (2, .mapv es), (6, .ptr 6 1 0)], [(6, ⟨1, .rw, .var, [.bool false, .bool false, .bool false, .sl 1 true [], .int .i64 0, .int .i64 0]⟩)], false⟩ ∧ x = upS hi0 K lo0) (fun M upm => ?_) ?_
  · conv => cbv
    refine loop_of (fun n d => ∃ x : Int, d = ⟨[(0, .int .i64 x), (1, .int .i64 hi0), (2, .mapv es), (6, .ptr 6 1 0)], [(6, ⟨1, .rw, .var, [.bool false, .bool false, .bool false, .sl 1 true [], .int .i64 0, .int .i64 0]⟩)], false⟩ ∧ n = (hi0 + 1 - x).toNat ∧ (x ≤ hi0 + 1 ∨ x = lo0) ∧ lo0 ≤ x ∧ upS hi0 K x = upS hi0 K lo0) ⟨_, _, ⟨_, rfl, rfl, .inr rfl, Int.le_refl _, rfl⟩, ⟨⟨rfl, rfl, rfl, rfl, trivial⟩, ⟨rfl, trivial⟩, rfl⟩⟩ ?_
    rintro J up n d ⟨x, rfl, rfl, hx1, hx2, hx3⟩
    conv => cbv
    rintro (_ | _) h1
    · replace h1 := f_leq hO h1
      conv => cbv
      exact ⟨_, upm _ ⟨x, rfl, by rw [← hx3, upS_stop (fun h => by omega)]⟩, ⟨⟨rfl, rfl, rfl, rfl, trivial⟩, ⟨rfl, trivial⟩, rfl⟩⟩
    · replace h1 := t_leq hO h1
      conv => cbv
      obtain ⟨z, hz, hzi⟩ := fmt x (by unfold FI; omega)
      refine ⟨_, hz, ?_⟩
      conv => cbv
      obtain ⟨q, hq, hcase⟩ := look z
      refine ⟨q, hq, ?_⟩
      rcases hcase with ⟨hm, rfl⟩ | ⟨hm, rfl⟩
      · conv => cbv
        refine ⟨_, _, up _ _ ⟨_, rfl, rfl, ?_, ?_, ?_⟩, ⟨⟨rfl, rfl, rfl, rfl, trivial⟩, ⟨rfl, trivial⟩, rfl⟩, ?_⟩
        all_goals rw [o_add64 hO (by omega) (by omega)]
        · omega
        · omega
        · rw [← hx3, ← upS_step ⟨h1, by rw [← hzi]; exact hm⟩]
        · omega
      · conv => cbv
        exact ⟨_, upm _ ⟨x, rfl, by rw [← hx3, upS_stop (fun h => hm (by rw [hzi]; exact h.2))]⟩, ⟨⟨rfl, rfl, rfl, rfl, trivial⟩, ⟨rfl, trivial⟩, rfl⟩⟩
  rintro d ⟨x, rfl, hx⟩
  have hxb := upS_ge (hi := hi0) (K := K) _ lo0 (Nat.le_refl _)
  rw [← hx] at hxb
  conv => cbv
  refine join_of (fun d => ∃ y : Int, d = ⟨[(0, .int .i64 x), (1, .int .i64 y), (2, .mapv es), (6, .ptr 6 1 0)], [(6, ⟨1, .rw, .var, [.bool false, .bool false, .bool false, .sl 1 true [], .int .i64 0, .int .i64 0]⟩)], false⟩ ∧ y = dnS x K hi0) (fun M upm => ?_) ?_
  · conv => cbv
    refine loop_of (fun n d => ∃ y : Int, d = ⟨[(0, .int .i64 x), (1, .int .i64 y), (2, .mapv es), (6, .ptr 6 1 0)], [(6, ⟨1, .rw, .var, [.bool false, .bool false, .bool false, .sl 1 true [], .int .i64 0, .int .i64 0]⟩)], false⟩ ∧ n = (y + 1 - x).toNat ∧ (x - 1 ≤ y ∨ y = hi0) ∧ y ≤ hi0 ∧ dnS x K y = dnS x K hi0) ⟨_, _, ⟨_, rfl, rfl, .inr rfl, Int.le_refl _, rfl⟩, ⟨⟨rfl, rfl, rfl, rfl, trivial⟩, ⟨rfl, trivial⟩, rfl⟩⟩ ?_
    rintro J up n d ⟨y, rfl, rfl, hx1, hx2, hx3⟩
    conv => cbv
    rintro (_ | _) h1
    · replace h1 := f_leq hO h1
      conv => cbv
      exact ⟨_, upm _ ⟨y, rfl, by rw [← hx3, dnS_stop (fun h => by omega)]⟩, ⟨⟨rfl, rfl, rfl, rfl, trivial⟩, ⟨rfl, trivial⟩, rfl⟩⟩
    · replace h1 := t_leq hO h1
      conv => cbv
      obtain ⟨z, hz, hzi⟩ := fmt y (by unfold FI; omega)
      refine ⟨_, hz, ?_⟩
      conv => cbv
      obtain ⟨q, hq, hcase⟩ := look z
      refine ⟨q, hq, ?_⟩
      rcases hcase with ⟨hm, rfl⟩ | ⟨hm, rfl⟩
      · conv => cbv
        refine ⟨_, _, up _ _ ⟨_, rfl, rfl, ?_, ?_, ?_⟩, ⟨⟨rfl, rfl, rfl, rfl, trivial⟩, ⟨rfl, trivial⟩, rfl⟩, ?_⟩
        all_goals rw [o_sub64 hO (by omega) (by omega)]
        · omega
        · omega
        · rw [← hx3, ← dnS_step ⟨h1, by rw [← hzi]; exact hm⟩]
        · omega
      · conv => cbv
        exact ⟨_, upm _ ⟨y, rfl, by rw [← hx3, dnS_stop (fun h => hm (by rw [hzi]; exact h.2))]⟩, ⟨⟨rfl, rfl, rfl, rfl, trivial⟩, ⟨rfl, trivial⟩, rfl⟩⟩
  rintro d ⟨y, rfl, hy⟩
  have hyb := dnS_le (lo := x) (K := K) _ hi0 (Nat.le_refl _)
  rw [← hy] at hyb
  conv => cbv
  refine join_of (fun d => ∃ (K2 : List Str) (es2 : List D), d = ⟨[(0, .int .i64 x), (1, .int .i64 y), (2, .mapv es2), (6, .ptr 6 1 0)], [(6, ⟨1, .rw, .var, [.bool false, .bool false, .bool false, .sl 1 true [], .int .i64 0, .int .i64 0]⟩)], false⟩ ∧ es2 = K2.map ent ∧ K2.Nodup ∧ K2.length ≤ K.length ∧ ∀ z, z ∈ K2 ↔ z ∈ K ∧ inR x y z = true) (fun M upm => ?_) ?_
  · conv => cbv
    intro g37
    conv => cbv
    subst hK
    rw [List.map_nil] at hes
    refine loop_of (fun n d => n = 0 ∧ d = ⟨[(0, .int .i64 x), (1, .int .i64 y), (2, .mapv es), (6, .ptr 6 1 0), (37, .ptr 37 g37 0)], [(6, ⟨1, .rw, .var, [.bool false, .bool false, .bool false, .sl 1 true [], .int .i64 0, .int .i64 0]⟩), (37, ⟨g37, .rw, .iter, [.mapv es, .int .i64 0]⟩)], false⟩) ⟨_, _, ⟨rfl, rfl⟩, ⟨⟨rfl, rfl, rfl, rfl, rfl, trivial⟩, ⟨rfl, rfl, trivial⟩, rfl⟩⟩ ?_
    rintro J up n d ⟨rfl, rfl⟩
    conv => cbv
    refine ⟨fun w hw => by rw [hes] at hw; simp at hw, fun _ => ?_, fun k w hw => by rw [hes] at hw; simp at hw⟩
    conv => cbv
    exact ⟨_, upm _ ⟨[], es, rfl, hes, List.nodup_nil, Nat.le_refl _, fun z => by simp⟩, ⟨⟨rfl, rfl, rfl, rfl, trivial⟩, ⟨rfl, trivial⟩, rfl⟩⟩
  rintro d ⟨K2, es2, rfl, hes2, hnd, hlen2, hmem⟩
  obtain ⟨hv1, hv2, hv3⟩ := left_vals hnd hmem
  have hl2 : O .len es2 = K2.length := by rw [o_len hO, hes2]; simp
  have hc2 : CleanL es2 := cleanL_map clean_ent hes2
  have hans : numbersS lo0 hi0 K = numbersN x y K := by unfold numbersS; rw [← hx, ← hy]
  have hspan : O .iop .sub .i64 (O .iop .add .i64 (O .iop .sub .i64 y x) 1) (O .len es2) = y - x + 1 - K2.length := by
    have e1 : O .iop .sub .i64 y x = y - x := o_sub64 hO (by omega) (by omega)
    rw [e1, o_add64 hO (by omega) (by omega), hl2, o_sub64 hO (by omega) (by omega)]
  have look2 : ∀ z : Str, ∃ r, lookD kS (mkS z) es2 = some r ∧ ((z ∈ K2 ∧ r = some (.bool true)) ∨ (z ∉ K2 ∧ r = none)) := fun z => by
    rw [hes2, look_ent]
    by_cases h : z ∈ K2
    · exact ⟨_, rfl, .inl ⟨h, by simp [h]⟩⟩
    · exact ⟨_, rfl, .inr ⟨h, by simp [h]⟩⟩
  conv => cbv
  rintro (_ | _) h1
  · replace h1 := f_gtr hO h1
    rw [hspan] at h1
    conv => cbv
    intro g77
    conv => cbv
    refine loop_of (fun n d => ∃ (v : Int) (j : Nat) (ac : List D) (tk : Int), d = ⟨[(1, .int .i64 y), (2, .mapv es2), (6, .ptr 6 1 0), (11, .mapr 77 g77), (12, .int .i64 v)], [(6, ⟨1, .rw, .var, [.bool false, .bool false, .bool false, .sl 1 true [], .int .i64 0, .int .i64 0]⟩), (77, ⟨g77, .rw, .map, .int .i64 tk :: ac⟩)], false⟩ ∧ v = x + j ∧ (j = 0 ∨ v ≤ y + 1) ∧ n = (y + 1 - v).toNat ∧ ac = (accN x K2 j).map ent) ⟨_, _, ⟨x, 0, _, _, rfl, by omega, .inl rfl, rfl, rfl⟩, ⟨⟨rfl, rfl, rfl, rfl, rfl, trivial⟩, ⟨rfl, rfl, trivial⟩, rfl⟩⟩ ?_
    rintro J up n d ⟨v, j, ac, tk, rfl, hv, hvj, rfl, hac⟩
    conv => cbv
    rintro (_ | _) h2
    · replace h2 := f_leq hO h2
      conv => cbv
      have hj : accN x K2 j = accN x K2 (y + 1 - x).toNat := by
        rcases hvj with h | h
        · subst h; rw [show (y + 1 - x).toNat = 0 by omega]
        · rw [show (y + 1 - x).toNat = j by omega]
      have hcac : CleanL ac := cleanL_map clean_ent hac
      have hal := accN_len x K2 j
      have hr := h32 (accN x K2 j) (accN_nodup _ _ _) (accN_SL fun i hi => ⟨by omega, by omega⟩) (by omega)
      rw [← hac] at hr
      obtain ⟨rs, hrs⟩ : ∃ rs, rs = (risingS (accN x K2 j)).map mkS := ⟨_, rfl⟩
      have hcr : CleanL rs := cleanL_map clean_S hrs
      rw [← hrs] at hr
      have hfin : risingS (accN x K2 j) = risingS (listN x y (valsN x y K)) := by
        rw [hj, ← listN_congr hv3]
        exact risingS_congr fun z => accN_mem
      refine ⟨hcac, _, hr, ?_⟩
      conv => cbv
      have hN : numbersN x y K = some ⟨false, false, false, risingS (accN x K2 j), 0, 0⟩ := by unfold numbersN; rw [if_pos (by rw [hv2]; omega), hfin]
      refine ⟨hcr, ?_⟩
      conv => cbv
      rcases hS with ⟨rfl, hS⟩ | ⟨rfl, hS⟩
      · rw [hans, hN] at hS
        simp only [Option.some.injEq] at hS
        subst hS
        rw [hrr]
        simp only [setD, ]
        rw [← hrs]
      · rw [hans, hN] at hS
        simp at hS
    · replace h2 := t_leq hO h2
      conv => cbv
      obtain ⟨z, hz, hzi⟩ := fmt v (by unfold FI; omega)
      refine ⟨_, hz, ?_⟩
      conv => cbv
      obtain ⟨q, hq, hcase⟩ := look2 z
      have hadd : O .iop .add .i64 v 1 = v + 1 := o_add64 hO (by omega) (by omega)
      have hst := accN_step (lo := x) (K := K2) (j := j) (z := z) (by rw [hzi, hv])
      refine ⟨q, hq, ?_⟩
      rcases hcase with ⟨hm, rfl⟩ | ⟨hm, rfl⟩
      · conv => cbv
        rw [hadd]
        refine ⟨_, _, up _ _ ⟨v + 1, j + 1, ac, tk, rfl, by omega, .inr (by omega), rfl, ?_⟩, ⟨⟨rfl, rfl, rfl, rfl, rfl, trivial⟩, ⟨rfl, rfl, trivial⟩, rfl⟩, by omega⟩
        rw [hac, hst, if_pos hm]
      · conv => cbv
        obtain ⟨ac3, hac3⟩ : ∃ ac3, ac3 = (insS (accN x K2 j) z).map ent := ⟨_, rfl⟩
        refine ⟨ac3, by rw [hac, hac3]; exact mput_ent _ _, fun c => ?_⟩
        conv => cbv
        rw [hadd]
        refine ⟨_, _, up _ _ ⟨v + 1, j + 1, ac3, c, rfl, by omega, .inr (by omega), rfl, ?_⟩, ⟨⟨rfl, rfl, rfl, rfl, rfl, trivial⟩, ⟨rfl, rfl, trivial⟩, rfl⟩, by omega⟩
        rw [hac3, hst, if_neg hm]
  · replace h1 := t_gtr hO h1
    rw [hspan] at h1
    conv => cbv
    have hr := h32 K2 hnd (left_SL hmem) (by omega)
    rw [← hes2] at hr
    obtain ⟨rs, hrs⟩ : ∃ rs, rs = (risingS K2).map mkS := ⟨_, rfl⟩
    have hcr : CleanL rs := cleanL_map clean_S hrs
    rw [← hrs] at hr
    refine ⟨hc2, _, hr, ?_⟩
    conv => cbv
    rintro (_ | _) h2
    · replace h2 := f_leq hO h2
      rw [hl2] at h2
      conv => cbv
      exfalso
      subst hK
      simp only [List.length_nil] at hlen2
      omega
    · replace h2 := t_leq hO h2
      rw [hl2] at h2
      conv => cbv
      have hN : numbersN x y K = some ⟨false, true, true, valsN x y K, x, y⟩ := by unfold numbersN; rw [if_neg (by rw [hv2]; omega), if_neg (by rw [hv2]; omega)]
      refine ⟨hcr, ?_⟩
      conv => cbv
      rcases hS with ⟨rfl, hS⟩ | ⟨rfl, hS⟩
      · rw [hans, hN] at hS
        simp only [Option.some.injEq] at hS
        subst hS
        rw [hrr]
        simp only [setD, ← hv1]
        rw [← hrs]
      · rw [hans, hN] at hS
        simp at hS
set_option maxRecDepth 100000 in
set_option maxHeartbeats 8000000 in
theorem numbers34_shared (R : Ans) (h13 : ∀ s, SL s → ∀ v b, NumR s v b → R.v 27 [mkS s] (.tup [.int .i64 v, .bool b])) (h36 : ∀ n, FI n → R.v 40 [.int .i64 n, .int .i64 10] (mkS (itoa n)))
    (h32 : ∀ K : List Str, K.Nodup → (∀ s ∈ K, SL s) → K.length ≤ 8796093022208 → R.v 31 [.mapv (K.map ent)] (.sl 1 false ((risingS K).map mkS))) (lo0 hi0 : Int) (hb1 : least ≤ lo0) (hb2 : lo0 ≤ most + 1) (hb3 : hi0 ≤ most) (hb4 : least - 1 ≤ hi0) (K : List Str) (hKn : K.Nodup) (hKs : ∀ s ∈ K, SL s) (hKl : K.length ≤ 8796093022208) (gm : Nat) (c0 : Int) : ∀ O : Ops, O = Ops.std → ∀ V : Ans, V = R → wpS O V 600 c32 [.int .i64 lo0, .int .i64 hi0, .mapr 308 gm] [(308, ⟨gm, .rw, .map, .int .i64 c0 :: K.map ent⟩)] (fun r _ => ∃ S b, r = .tup [setD S, .bool b] ∧ NumsR lo0 hi0 K S b) := by
  unfold least at hb1 hb4
  unfold most at hb2 hb3
  intro O hO V hV
  subst hV
  obtain ⟨es, hes⟩ : ∃ es, es = K.map ent := ⟨_, rfl⟩
  rw [← hes]
  have hleq : O .len es = K.length := by rw [o_len hO, hes]; simp
  have look : ∀ z : Str, ∃ r, lookD kS (mkS z) es = some r ∧ ((z ∈ K ∧ r = some (.bool true)) ∨ (z ∉ K ∧ r = none)) := fun z => by
    rw [hes, look_ent]
    by_cases h : z ∈ K
    · exact ⟨_, rfl, .inl ⟨h, by simp [h]⟩⟩
    · exact ⟨_, rfl, .inr ⟨h, by simp [h]⟩⟩
  have fmt : ∀ x : Int, FI x → ∃ z : Str, V.v 40 [.int .i64 x, .int .i64 10] (.str ⟨⟨z⟩⟩) ∧ z = itoa x := fun x hx => ⟨_, h36 x hx, rfl⟩
  conv => cbv
  intro g6
  conv => cbv
  refine join_of (fun d => ∃ x : Int, d = ⟨[(0, .int .i64 x), (1, .int .i64 hi0), (2, .mapr 308 gm), (6, .ptr 606 g6 0)], [(606, ⟨g6, .rw, .var, [.bool false, .bool false, .bool false, .sl 1 true [], .int .i64 0, .int .i64 0]⟩), (308, ⟨gm, .rw, .map, .int .i64 c0 :: es⟩)], false⟩ ∧ x = upS hi0 K lo0) (fun M upm => ?_) ?_
  · conv => cbv
    refine loop_of (fun n d => ∃ x : Int, d = ⟨[(0, .int .i64 x), (1, .int .i64 hi0), (2, .mapr 308 gm), (6, .ptr 606 g6 0)], [(606, ⟨g6, .rw, .var, [.bool false, .bool false, .bool false, .sl 1 true [], .int .i64 0, .int .i64 0]⟩), (308, ⟨gm, .rw, .map, .int .i64 c0 :: es⟩)], false⟩ ∧ n = (hi0 + 1 - x).toNat ∧ (x ≤ hi0 + 1 ∨ x = lo0) ∧ lo0 ≤ x ∧ upS hi0 K x = upS hi0 K lo0) ⟨_, _, ⟨_, rfl, rfl, .inr rfl, Int.le_refl _, rfl⟩, ⟨⟨rfl, rfl, rfl, rfl, trivial⟩, ⟨rfl, rfl, trivial⟩, rfl⟩⟩ ?_
    rintro J up n d ⟨x, rfl, rfl, hx1, hx2, hx3⟩
    conv => cbv
    rintro (_ | _) h1
    · replace h1 := f_leq hO h1
      conv => cbv
      exact ⟨_, upm _ ⟨x, rfl, by rw [← hx3, upS_stop (fun h => by omega)]⟩, ⟨⟨rfl, rfl, rfl, rfl, trivial⟩, ⟨rfl, rfl, trivial⟩, rfl⟩⟩
    · replace h1 := t_leq hO h1
      conv => cbv
      obtain ⟨z, hz, hzi⟩ := fmt x (by unfold FI; omega)
      refine ⟨_, hz, ?_⟩
      conv => cbv
      obtain ⟨q, hq, hcase⟩ := look z
      refine ⟨q, hq, ?_⟩
      rcases hcase with ⟨hm, rfl⟩ | ⟨hm, rfl⟩
      · conv => cbv
        refine ⟨_, _, up _ _ ⟨_, rfl, rfl, ?_, ?_, ?_⟩, ⟨⟨rfl, rfl, rfl, rfl, trivial⟩, ⟨rfl, rfl, trivial⟩, rfl⟩, ?_⟩
        all_goals rw [o_add64 hO (by omega) (by omega)]
        · omega
        · omega
        · rw [← hx3, ← upS_step ⟨h1, by rw [← hzi]; exact hm⟩]
        · omega
      · conv => cbv
        exact ⟨_, upm _ ⟨x, rfl, by rw [← hx3, upS_stop (fun h => hm (by rw [hzi]; exact h.2))]⟩, ⟨⟨rfl, rfl, rfl, rfl, trivial⟩, ⟨rfl, rfl, trivial⟩, rfl⟩⟩
  rintro d ⟨x, rfl, hx⟩
  have hxb := upS_ge (hi := hi0) (K := K) _ lo0 (Nat.le_refl _)
  rw [← hx] at hxb
  conv => cbv
  refine join_of (fun d => ∃ y : Int, d = ⟨[(0, .int .i64 x), (1, .int .i64 y), (2, .mapr 308 gm), (6, .ptr 606 g6 0)], [(606, ⟨g6, .rw, .var, [.bool false, .bool false, .bool false, .sl 1 true [], .int .i64 0, .int .i64 0]⟩), (308, ⟨gm, .rw, .map, .int .i64 c0 :: es⟩)], false⟩ ∧ y = dnS x K hi0) (fun M upm => ?_) ?_
  · conv => cbv
    refine loop_of (fun n d => ∃ y : Int, d = ⟨[(0, .int .i64 x), (1, .int .i64 y), (2, .mapr 308 gm), (6, .ptr 606 g6 0)], [(606, ⟨g6, .rw, .var, [.bool false, .bool false, .bool false, .sl 1 true [], .int .i64 0, .int .i64 0]⟩), (308, ⟨gm, .rw, .map, .int .i64 c0 :: es⟩)], false⟩ ∧ n = (y + 1 - x).toNat ∧ (x - 1 ≤ y ∨ y = hi0) ∧ y ≤ hi0 ∧ dnS x K y = dnS x K hi0) ⟨_, _, ⟨_, rfl, rfl, .inr rfl, Int.le_refl _, rfl⟩, ⟨⟨rfl, rfl, rfl, rfl, trivial⟩, ⟨rfl, rfl, trivial⟩, rfl⟩⟩ ?_
    rintro J up n d ⟨y, rfl, rfl, hx1, hx2, hx3⟩
    conv => cbv
    rintro (_ | _) h1
    · replace h1 := f_leq hO h1
      conv => cbv
      exact ⟨_, upm _ ⟨y, rfl, by rw [← hx3, dnS_stop (fun h => by omega)]⟩, ⟨⟨rfl, rfl, rfl, rfl, trivial⟩, ⟨rfl, rfl, trivial⟩, rfl⟩⟩
    · replace h1 := t_leq hO h1
      conv => cbv
      obtain ⟨z, hz, hzi⟩ := fmt y (by unfold FI; omega)
      refine ⟨_, hz, ?_⟩
      conv => cbv
      obtain ⟨q, hq, hcase⟩ := look z
      refine ⟨q, hq, ?_⟩
      rcases hcase with ⟨hm, rfl⟩ | ⟨hm, rfl⟩
      · conv => cbv
        refine ⟨_, _, up _ _ ⟨_, rfl, rfl, ?_, ?_, ?_⟩, ⟨⟨rfl, rfl, rfl, rfl, trivial⟩, ⟨rfl, rfl, trivial⟩, rfl⟩, ?_⟩
        all_goals rw [o_sub64 hO (by omega) (by omega)]
        · omega
        · omega
        · rw [← hx3, ← dnS_step ⟨h1, by rw [← hzi]; exact hm⟩]
        · omega
      · conv => cbv
        exact ⟨_, upm _ ⟨y, rfl, by rw [← hx3, dnS_stop (fun h => hm (by rw [hzi]; exact h.2))]⟩, ⟨⟨rfl, rfl, rfl, rfl, trivial⟩, ⟨rfl, rfl, trivial⟩, rfl⟩⟩
  rintro d ⟨y, rfl, hy⟩
  have hyb := dnS_le (lo := x) (K := K) _ hi0 (Nat.le_refl _)
  rw [← hy] at hyb
  conv => cbv
  refine join_of (fun d => ∃ (K2 : List Str) (es2 : List D), d = ⟨[(0, .int .i64 x), (1, .int .i64 y), (2, .mapr 308 gm), (6, .ptr 606 g6 0)], [(606, ⟨g6, .rw, .var, [.bool false, .bool false, .bool false, .sl 1 true [], .int .i64 0, .int .i64 0]⟩), (308, ⟨gm, .rw, .map, .int .i64 c0 :: es2⟩)], false⟩ ∧ es2 = K2.map ent ∧ K2.Nodup ∧ K2.length ≤ K.length ∧ ∀ z, z ∈ K2 ↔ z ∈ K ∧ inR x y z = true) (fun M upm => ?_) ?_
  · conv => cbv
    intro g37
    conv => cbv
    refine loop_of (fun n d => ∃ (K' S : List Str) (es' ks : List D), d = ⟨[(0, .int .i64 x), (1, .int .i64 y), (2, .mapr 308 gm), (6, .ptr 606 g6 0), (37, .ptr 637 g37 0)], [(606, ⟨g6, .rw, .var, [.bool false, .bool false, .bool false, .sl 1 true [], .int .i64 0, .int .i64 0]⟩), (308, ⟨gm, .rw, .map, .int .i64 c0 :: es'⟩), (637, ⟨g37, .rw, .iter, .mapr 308 gm :: .int .i64 c0 :: ks⟩)], false⟩ ∧ es' = K'.map ent ∧ ks = S.map mkS ∧ K'.Nodup ∧ (∀ z ∈ K', z ∈ K) ∧ K'.length ≤ K.length ∧ S.Nodup ∧ (∀ z ∈ S, z ∈ K) ∧ (∀ z ∈ K, z ∉ K' → inR x y z = false) ∧ (∀ z ∈ S, z ∈ K' → inR x y z = true) ∧ n = K.length - S.length) ⟨_, _, ⟨K, [], es, [], rfl, hes, rfl, hKn, fun _ h => h, Nat.le_refl _, List.nodup_nil, by simp, fun z h h' => absurd h h', by simp, rfl⟩, ⟨⟨rfl, rfl, rfl, rfl, rfl, trivial⟩, ⟨rfl, rfl, rfl, trivial⟩, rfl⟩⟩ ?_
    rintro J up n d ⟨K', S, es', ks, rfl, hes', hks, hK1, hK2, hK3, hS1, hS2, hK4, hS3, rfl⟩
    conv => cbv
    refine ⟨fun w hw => ?_, fun hall => ?_, fun k w hw hs => ?_⟩
    · rw [hes'] at hw
      obtain ⟨z, _, rfl⟩ := List.mem_map.1 hw
      exact ⟨mkS z, .bool true, decide (z ∈ S), rfl, by rw [hks]; exact seen_S z S⟩
    · conv => cbv
      refine ⟨_, upm _ ⟨K', es', rfl, hes', hK1, hK3, fun z => ⟨fun hz => ⟨hK2 z hz, ?_⟩, fun hz => ?_⟩⟩, ⟨⟨rfl, rfl, rfl, rfl, trivial⟩, ⟨rfl, rfl, trivial⟩, rfl⟩⟩
      · have h1 := hall (mkS z) (.bool true) (by rw [hes']; exact List.mem_map.2 ⟨z, hz, rfl⟩)
        rw [hks, seen_S] at h1
        exact hS3 z (by simpa using h1) hz
      · refine Classical.byContradiction fun hn => ?_
        have := hK4 z hz.1 hn
        rw [this] at hz
        simp at hz
    · have hw2 := hw
      rw [hes'] at hw2
      obtain ⟨z, hzK, he⟩ := List.mem_map.1 hw2
      simp only [ent, D.tup.injEq, List.cons.injEq, and_true] at he
      obtain ⟨rfl, rfl⟩ := he
      rw [hks, seen_S] at hs
      have hzS : z ∉ S := by simpa using hs
      obtain ⟨ks2, hks2'⟩ : ∃ ks2, ks2 = O .app ks [mkS z] := ⟨_, rfl⟩
      have hks2 : ks2 = (S ++ [z]).map mkS := by rw [hks2', o_app hO, hks]; simp
      have hS1' : (S ++ [z]).Nodup := by
        rw [List.nodup_append]
        refine ⟨hS1, by simp, fun a ha b hb => ?_⟩
        simp only [List.mem_singleton] at hb
        subst hb
        exact fun e => hzS (by rw [← e]; exact ha)
      have hS2' : ∀ w ∈ S ++ [z], w ∈ K := fun w hw => by
        rcases List.mem_append.1 hw with hw | hw
        · exact hS2 w hw
        · simp only [List.mem_singleton] at hw; subst hw; exact hK2 w hzK
      have hmeas : K.length - (S ++ [z]).length < K.length - S.length := by
        have := nodup_len hS1' hS2'
        simp at this ⊢
        omega
      obtain ⟨v, b, hvb⟩ := NumR.ex z
      have hv := h13 z (hKs z (hK2 z hzK)) v b hvb
      have hbad : (¬ ∃ n, numS z = some n ∧ x < n ∧ n < y) → inR x y z = false := fun h => by
        cases hi : inR x y z with
        | false => rfl
        | true => exact absurd (inR_iff.1 hi) h
      conv => cbv
      rw [← hks2']
      refine ⟨mkS z, .bool true, by rw [hks2]; simp, by rw [hes']; exact lookDyn_ent z K' hzK, ?_⟩
      conv => cbv
      refine ⟨_, hv, ?_⟩
      cases b with
      | false =>
        conv => cbv
        refine ⟨_, by rw [hes']; exact mdel_ent z K', ?_⟩
        obtain ⟨es3, hes3⟩ : ∃ es3, es3 = (K'.erase z).map ent := ⟨_, rfl⟩
        rw [← hes3]
        conv => cbv
        exact ⟨_, _, up _ _ ⟨K'.erase z, S ++ [z], es3, _, rfl, hes3, hks2, hK1.erase z, fun w hw => hK2 w (List.mem_of_mem_erase hw), Nat.le_trans List.length_erase_le hK3, hS1', hS2', fun w hw hn => (by
          by_cases e : w = z
          · subst e; exact hbad (fun ⟨n, hn, _⟩ => by have := (hvb.of hn).1; simp at this)
          · exact hK4 w hw fun h => hn ((List.mem_erase_of_ne e).2 h)), fun w hw hw2 => (by
          rcases List.mem_append.1 hw with hw | hw
          · exact hS3 w hw (List.mem_of_mem_erase hw2)
          · simp only [List.mem_singleton] at hw; subst hw; exact absurd hw2 (List.Nodup.not_mem_erase hK1)), rfl⟩, ⟨⟨rfl, rfl, rfl, rfl, rfl, trivial⟩, ⟨rfl, rfl, rfl, trivial⟩, rfl⟩, hmeas⟩
      | true =>
        have hnum : numS z = some v := by
          rcases hvb with ⟨_, h⟩ | ⟨h, _⟩
          · exact h
          · simp at h
        conv => cbv
        rintro (_ | _) h1
        · replace h1 := f_leq hO h1
          conv => cbv
          rintro (_ | _) h2
          · replace h2 := f_geq hO h2
            conv => cbv
            exact ⟨_, _, up _ _ ⟨K', S ++ [z], es', _, rfl, hes', hks2, hK1, hK2, hK3, hS1', hS2', hK4, fun w hw hw2 => (by
              rcases List.mem_append.1 hw with hw | hw
              · exact hS3 w hw hw2
              · simp only [List.mem_singleton] at hw; subst hw; exact inR_iff.2 ⟨v, hnum, h1, h2⟩), rfl⟩, ⟨⟨rfl, rfl, rfl, rfl, rfl, trivial⟩, ⟨rfl, rfl, rfl, trivial⟩, rfl⟩, hmeas⟩
          · replace h2 := t_geq hO h2
            conv => cbv
            refine ⟨_, by rw [hes']; exact mdel_ent z K', ?_⟩
            obtain ⟨es3, hes3⟩ : ∃ es3, es3 = (K'.erase z).map ent := ⟨_, rfl⟩
            rw [← hes3]
            conv => cbv
            exact ⟨_, _, up _ _ ⟨K'.erase z, S ++ [z], es3, _, rfl, hes3, hks2, hK1.erase z, fun w hw => hK2 w (List.mem_of_mem_erase hw), Nat.le_trans List.length_erase_le hK3, hS1', hS2', fun w hw hn => (by
              by_cases e : w = z
              · subst e; exact hbad (fun ⟨n, hn, h8, h9⟩ => by rw [hnum] at hn; simp only [Option.some.injEq] at hn; omega)
              · exact hK4 w hw fun h => hn ((List.mem_erase_of_ne e).2 h)), fun w hw hw2 => (by
              rcases List.mem_append.1 hw with hw | hw
              · exact hS3 w hw (List.mem_of_mem_erase hw2)
              · simp only [List.mem_singleton] at hw; subst hw; exact absurd hw2 (List.Nodup.not_mem_erase hK1)), rfl⟩, ⟨⟨rfl, rfl, rfl, rfl, rfl, trivial⟩, ⟨rfl, rfl, rfl, trivial⟩, rfl⟩, hmeas⟩
        · replace h1 := t_leq hO h1
          conv => cbv
          refine ⟨_, by rw [hes']; exact mdel_ent z K', ?_⟩
          obtain ⟨es3, hes3⟩ : ∃ es3, es3 = (K'.erase z).map ent := ⟨_, rfl⟩
          rw [← hes3]
          conv => cbv
          exact ⟨_, _, up _ _ ⟨K'.erase z, S ++ [z], es3, _, rfl, hes3, hks2, hK1.erase z, fun w hw => hK2 w (List.mem_of_mem_erase hw), Nat.le_trans List.length_erase_le hK3, hS1', hS2', fun w hw hn => (by
            by_cases e : w = z
            · subst e; exact hbad (fun ⟨n, hn, h8, h9⟩ => by rw [hnum] at hn; simp only [Option.some.injEq] at hn; omega)
            · exact hK4 w hw fun h => hn ((List.mem_erase_of_ne e).2 h)), fun w hw hw2 => (by
            rcases List.mem_append.1 hw with hw | hw
            · exact hS3 w hw (List.mem_of_mem_erase hw2)
            · simp only [List.mem_singleton] at hw; subst hw; exact absurd hw2 (List.Nodup.not_mem_erase hK1)), rfl⟩, ⟨⟨rfl, rfl, rfl, rfl, rfl, trivial⟩, ⟨rfl, rfl, rfl, trivial⟩, rfl⟩, hmeas⟩
  rintro d ⟨K2, es2, rfl, hes2, hnd, hlen2, hmem⟩
  obtain ⟨hv1, hv2, hv3⟩ := left_vals hnd hmem
  have hl2 : O .len es2 = K2.length := by rw [o_len hO, hes2]; simp
  have hc2 : CleanL es2 := cleanL_map clean_ent hes2
  have hans : numbersS lo0 hi0 K = numbersN x y K := by unfold numbersS; rw [← hx, ← hy]
  have hspan : O .iop .sub .i64 (O .iop .add .i64 (O .iop .sub .i64 y x) 1) (O .len es2) = y - x + 1 - K2.length := by
    have e1 : O .iop .sub .i64 y x = y - x := o_sub64 hO (by omega) (by omega)
    rw [e1, o_add64 hO (by omega) (by omega), hl2, o_sub64 hO (by omega) (by omega)]
  have look2 : ∀ z : Str, ∃ r, lookD kS (mkS z) es2 = some r ∧ ((z ∈ K2 ∧ r = some (.bool true)) ∨ (z ∉ K2 ∧ r = none)) := fun z => by
    rw [hes2, look_ent]
    by_cases h : z ∈ K2
    · exact ⟨_, rfl, .inl ⟨h, by simp [h]⟩⟩
    · exact ⟨_, rfl, .inr ⟨h, by simp [h]⟩⟩
  conv => cbv
  rintro (_ | _) h1
  · replace h1 := f_gtr hO h1
    rw [hspan] at h1
    conv => cbv
    intro g77
    conv => cbv
    refine loop_of (fun n d => ∃ (v : Int) (j : Nat) (ac : List D) (tk : Int), d = ⟨[(1, .int .i64 y), (2, .mapr 308 gm), (6, .ptr 606 g6 0), (11, .mapr 677 g77), (12, .int .i64 v)], [(606, ⟨g6, .rw, .var, [.bool false, .bool false, .bool false, .sl 1 true [], .int .i64 0, .int .i64 0]⟩), (308, ⟨gm, .rw, .map, .int .i64 c0 :: es2⟩), (677, ⟨g77, .rw, .map, .int .i64 tk :: ac⟩)], false⟩ ∧ v = x + j ∧ (j = 0 ∨ v ≤ y + 1) ∧ n = (y + 1 - v).toNat ∧ ac = (accN x K2 j).map ent) ⟨_, _, ⟨x, 0, _, _, rfl, by omega, .inl rfl, rfl, rfl⟩, ⟨⟨rfl, rfl, rfl, rfl, rfl, trivial⟩, ⟨rfl, rfl, rfl, trivial⟩, rfl⟩⟩ ?_
    rintro J up n d ⟨v, j, ac, tk, rfl, hv, hvj, rfl, hac⟩
    conv => cbv
    rintro (_ | _) h2
    · replace h2 := f_leq hO h2
      conv => cbv
      have hj : accN x K2 j = accN x K2 (y + 1 - x).toNat := by
        rcases hvj with h | h
        · subst h; rw [show (y + 1 - x).toNat = 0 by omega]
        · rw [show (y + 1 - x).toNat = j by omega]
      have hcac : CleanL ac := cleanL_map clean_ent hac
      have hal := accN_len x K2 j
      have hr := h32 (accN x K2 j) (accN_nodup _ _ _) (accN_SL fun i hi => ⟨by omega, by omega⟩) (by omega)
      rw [← hac] at hr
      obtain ⟨rs, hrs⟩ : ∃ rs, rs = (risingS (accN x K2 j)).map mkS := ⟨_, rfl⟩
      have hcr : CleanL rs := cleanL_map clean_S hrs
      rw [← hrs] at hr
      have hfin : risingS (accN x K2 j) = risingS (listN x y (valsN x y K)) := by
        rw [hj, ← listN_congr hv3]
        exact risingS_congr fun z => accN_mem
      refine ⟨hcac, _, hr, ?_⟩
      conv => cbv
      have hN : numbersN x y K = some ⟨false, false, false, risingS (accN x K2 j), 0, 0⟩ := by unfold numbersN; rw [if_pos (by rw [hv2]; omega), hfin]
      exact ⟨⟨false, false, false, risingS (accN x K2 j), 0, 0⟩, true, by rw [setD]; rw [hrs], .inl ⟨rfl, by rw [hans, hN]⟩⟩
    · replace h2 := t_leq hO h2
      conv => cbv
      obtain ⟨z, hz, hzi⟩ := fmt v (by unfold FI; omega)
      refine ⟨_, hz, ?_⟩
      conv => cbv
      obtain ⟨q, hq, hcase⟩ := look2 z
      have hadd : O .iop .add .i64 v 1 = v + 1 := o_add64 hO (by omega) (by omega)
      have hst := accN_step (lo := x) (K := K2) (j := j) (z := z) (by rw [hzi, hv])
      refine ⟨q, hq, ?_⟩
      rcases hcase with ⟨hm, rfl⟩ | ⟨hm, rfl⟩
      · conv => cbv
        rw [hadd]
        refine ⟨_, _, up _ _ ⟨v + 1, j + 1, ac, tk, rfl, by omega, .inr (by omega), rfl, ?_⟩, ⟨⟨rfl, rfl, rfl, rfl, rfl, trivial⟩, ⟨rfl, rfl, rfl, trivial⟩, rfl⟩, by omega⟩
        rw [hac, hst, if_pos hm]
      · conv => cbv
        obtain ⟨ac3, hac3⟩ : ∃ ac3, ac3 = (insS (accN x K2 j) z).map ent := ⟨_, rfl⟩
        refine ⟨ac3, by rw [hac, hac3]; exact mput_ent _ _, fun c => ?_⟩
        conv => cbv
        rw [hadd]
        refine ⟨_, _, up _ _ ⟨v + 1, j + 1, ac3, c, rfl, by omega, .inr (by omega), rfl, ?_⟩, ⟨⟨rfl, rfl, rfl, rfl, rfl, trivial⟩, ⟨rfl, rfl, rfl, trivial⟩, rfl⟩, by omega⟩
        rw [hac3, hst, if_neg hm]
  · replace h1 := t_gtr hO h1
    rw [hspan] at h1
    conv => cbv
    have hr := h32 K2 hnd (left_SL hmem) (by omega)
    rw [← hes2] at hr
    obtain ⟨rs, hrs⟩ : ∃ rs, rs = (risingS K2).map mkS := ⟨_, rfl⟩
    have hcr : CleanL rs := cleanL_map clean_S hrs
    rw [← hrs] at hr
    refine ⟨hc2, _, hr, ?_⟩
    conv => cbv
    rintro (_ | _) h2
    · replace h2 := f_leq hO h2
      rw [hl2] at h2
      conv => cbv
      have hN : numbersN x y K = none := by unfold numbersN; rw [if_neg (by rw [hv2]; omega), if_pos (by rw [hv2]; omega)]
      exact ⟨⟨false, true, true, valsN x y K, x, y⟩, false, by rw [setD]; rw [← hv1, hrs], .inr ⟨rfl, by rw [hans, hN]⟩⟩
    · replace h2 := t_leq hO h2
      rw [hl2] at h2
      conv => cbv
      have hN : numbersN x y K = some ⟨false, true, true, valsN x y K, x, y⟩ := by unfold numbersN; rw [if_neg (by rw [hv2]; omega), if_neg (by rw [hv2]; omega)]
      exact ⟨⟨false, true, true, valsN x y K, x, y⟩, true, by rw [setD]; rw [← hv1, hrs], .inl ⟨rfl, by rw [hans, hN]⟩⟩
end Go.Proofs.AM
namespace Go.Proofs.AM
open Go Go.Lib Cd
theorem risingS_snoc (l : List Str) (z : Str) : risingS (l ++ [z]) = putS z (risingS l) := by unfold risingS; rw [List.foldl_append]; rfl
end Go.Proofs.AM
namespace Go.Proofs.AM
open Go Go.Lib
structure ReqV where
  key : Str
  op : Int
  l : List Str
  n : Int
def reqD (r : ReqV) : D := .agg [mkS r.key, .int .i64 r.op, .sl 1 false (r.l.map mkS), .int .i64 r.n]
structure FR (r : ReqV) : Prop where
  key : SL r.key
  l : FL r.l
  op : FI r.op
  n : FI r.n
def BadOp (r : ReqV) : Prop := r.op < 1 ∨ 6 < r.op ∨ ((r.op = 1 ∨ r.op = 2) ∧ r.l.length = 0) ∨ (¬ (r.op = 1 ∨ r.op = 2) ∧ 0 < r.l.length) ∨ (¬ (r.op = 5 ∨ r.op = 6) ∧ r.n ≠ 0) ∨ r.n < -2147483648 ∨ 2147483648 < r.n
instance (r : ReqV) : Decidable (BadOp r) := by unfold BadOp; exact inferInstance
open Classical in
noncomputable def wrongE (r : ReqV) : Int :=
  if nameB r.key = false then 7
  else if BadOp r then 30
  else if 8 < r.l.length then 3
  else if ∃ v ∈ r.l, valueB v = false then 20
  else if ¬ r.l.Nodup then 6
  else 0
theorem wrongE_0 {r : ReqV} (h : wrongE r = 0) : nameB r.key = true ∧ ¬ BadOp r ∧ r.l.length ≤ 8 ∧ (∀ v ∈ r.l, valueB v = true) ∧ r.l.Nodup := by
  unfold wrongE at h
  split at h
  · simp at h
  · rename_i h1
    split at h
    · simp at h
    · rename_i h2
      split at h
      · simp at h
      · rename_i h3
        split at h
        · simp at h
        · rename_i h4
          split at h
          · simp at h
          · rename_i h5
            refine ⟨by simpa using h1, h2, by omega, fun v hv => ?_, Classical.byContradiction h5⟩
            cases hb : valueB v with
            | true => rfl
            | false => exact absurd ⟨v, hv, hb⟩ h4
theorem nodup_at : ∀ {l : List Str}, (∀ (k : Nat) y, l[k]? = some y → y ∉ l.take k) → l.Nodup
  | [], _ => List.nodup_nil
  | x :: r, h => by
    rw [List.nodup_cons]
    refine ⟨fun hx => ?_, nodup_at fun k y hy hm => ?_⟩
    · obtain ⟨j, hj⟩ := List.getElem?_of_mem hx
      exact h (j + 1) x (by simpa using hj) (by simp)
    · exact h (k + 1) y (by simpa using hy) (by simp [hm])
theorem not_nodup_at {l : List Str} {k : Nat} {y : Str} (h : l[k]? = some y) (hm : y ∈ l.take k) : ¬ l.Nodup := by
  intro hn
  obtain ⟨j, hj⟩ := List.getElem?_of_mem hm
  have hjk : j < k := by
    have := (List.getElem?_eq_some_iff.1 hj).1
    simp at this
    omega
  rw [List.getElem?_take_of_lt hjk] at hj
  obtain ⟨a1, h1⟩ := List.getElem?_eq_some_iff.1 hj
  obtain ⟨a2, h2⟩ := List.getElem?_eq_some_iff.1 h
  exact (List.pairwise_iff_getElem.1 hn j k a1 a2 hjk) (h1.trans h2.symm)
theorem shorter : ∀ {l : List Str}, ¬ l.Nodup → ∃ l' : List Str, l'.length < l.length ∧ ∀ z ∈ l, z ∈ l'
  | [], h => absurd List.nodup_nil h
  | x :: r, h => by
    by_cases hx : x ∈ r
    · exact ⟨r, by simp, fun z hz => by
        rcases List.mem_cons.1 hz with rfl | hz
        · exact hx
        · exact hz⟩
    · have : ¬ r.Nodup := fun hn => h (List.nodup_cons.2 ⟨hx, hn⟩)
      obtain ⟨l', h1, h2⟩ := shorter this
      exact ⟨x :: l', by simp; omega, fun z hz => by
        rcases List.mem_cons.1 hz with rfl | hz
        · simp
        · simp [h2 z hz]⟩
theorem group_lt {l : List Str} : (groupS [l]).length < l.length ↔ ¬ l.Nodup := by
  have hm : ∀ z, z ∈ groupS [l] ↔ z ∈ l := fun z => by rw [groupS_mem]; simp
  constructor
  · intro h hn
    have := nodup_len_eq (groupS_nodup [l]) hn hm
    omega
  · intro h
    obtain ⟨l', h1, h2⟩ := shorter h
    have := nodup_len (groupS_nodup [l]) fun z hz => h2 z ((hm z).1 hz)
    omega
def zeroS : SetV := ⟨false, false, false, [], 0, 0⟩
theorem numbersS_nil (lo hi : Int) : ∃ S, numbersS lo hi [] = some S := by
  unfold numbersS numbersN
  have hv : ∀ a b, (valsN a b []).length = 0 := fun a b => by simp [valsN, risingS]
  rw [hv]
  split
  · exact ⟨_, rfl⟩
  · rw [if_neg (by omega)]; exact ⟨_, rfl⟩
noncomputable def ofS (r : ReqV) : SetV :=
  if r.op = 1 then ⟨false, false, false, risingS r.l, 0, 0⟩
  else if r.op = 2 then ⟨true, true, false, risingS r.l, 0, 0⟩
  else if r.op = 3 then ⟨false, true, false, [], 0, 0⟩
  else if r.op = 4 then ⟨true, false, false, [], 0, 0⟩
  else if r.op = 5 then (numbersS (r.n + 1) most []).getD zeroS
  else (numbersS least (r.n - 1) []).getD zeroS
noncomputable def ofSet (r : ReqV) : SetV := if wrongE r = 0 then ofS r else zeroS
end Go.Proofs.AM
namespace Go.Proofs.AM
open Go Go.Lib Cd
end Go.Proofs.AM
namespace Go.Proofs.AM
open Go Go.Lib Cd
theorem not48_ok (R : Ans) (s : Str) (h19 : R.v 15 [mkS s] (.bool (valueB s))) : AnsF R c56 [mkS s] (.bool (!valueB s)) := by
  obtain ⟨q, hq⟩ : ∃ q, q = valueB s := ⟨_, rfl⟩
  rw [← hq] at h19 ⊢
  refine wpF_sound ⟨rfl, by decide⟩ fun O hO V hV => ?_
  subst hV
  conv => cbv
  refine ⟨_, h19, ?_⟩
  cases q <;> (conv => cbv) <;> trivial
theorem first_p (p : Str → Bool) : ∀ (l : List Str), (∀ y ∈ l, p y = false) ∨ ∃ (k : Nat) (x : Str), l[k]? = some x ∧ p x = true ∧ ∀ j y, j < k → l[j]? = some y → p y = false
  | [] => .inl (by simp)
  | x :: r => by
    cases hx : p x with
    | true => exact .inr ⟨0, x, rfl, hx, fun j y hj => by omega⟩
    | false =>
      rcases first_p p r with h | ⟨k, y, h1, h2, h3⟩
      · refine .inl fun y hy => ?_
        rcases List.mem_cons.1 hy with rfl | hy
        · exact hx
        · exact h y hy
      · refine .inr ⟨k + 1, y, by simpa using h1, h2, fun j z hj hz => ?_⟩
        cases j with
        | zero => simp at hz; subst hz; exact hx
        | succ j => exact h3 j z (by omega) (by simpa using hz)
theorem indexf56_ok (R : Ans) (f : Nat) (p : Str → Bool) (l : List Str) (hl : l.length ≤ 8796093022208) (hp : ∀ y ∈ l, R.v f [mkS y] (.bool (p y))) : ∃ n : Int, AnsF R c69 [.sl 1 false (l.map mkS), .fn f [] []] (.int .i64 n) ∧ ((∃ y ∈ l, p y = true) → 0 ≤ n) ∧ ((∀ y ∈ l, p y = false) → n = -1) := by
  obtain ⟨xs, hxs⟩ : ∃ xs, xs = l.map mkS := ⟨_, rfl⟩
  obtain ⟨r, hr⟩ : ∃ r : Int, ((∀ y ∈ l, p y = false) ∧ r = -1) ∨ ∃ k : Nat, r = k ∧ (∃ x, l[k]? = some x ∧ p x = true) ∧ ∀ j y, j < k → l[j]? = some y → p y = false := by
    rcases first_p p l with h | ⟨k, x, h1, h2, h3⟩
    · exact ⟨-1, .inl ⟨h, rfl⟩⟩
    · exact ⟨k, .inr ⟨k, rfl, ⟨x, h1, h2⟩, h3⟩⟩
  refine ⟨r, ?_, ?_, ?_⟩
  · rw [← hxs]
    refine wpF_sound ⟨rfl, by decide⟩ fun O hO V hV => ?_
    subst hV
    have hlen : O .len xs = l.length := by rw [o_len hO, hxs]; simp
    conv => cbv
    refine loop_of (fun n d => ∃ (i : Int) (k : Nat), d = ⟨[(0, .sl 1 false xs), (1, .fn f [] []), (7, .int .i64 (O .len xs)), (8, .int .i64 i)], [], false⟩ ∧ i = k ∧ k ≤ l.length ∧ n = l.length - k ∧ ∀ j y, j < k → l[j]? = some y → p y = false) ⟨_, _, ⟨_, 0, rfl, rfl, by omega, rfl, by simp⟩, ⟨⟨rfl, rfl, rfl, rfl, trivial⟩, trivial, rfl⟩⟩ ?_
    rintro J up n d ⟨i, k, rfl, hi, hk, rfl, hno⟩
    conv => cbv
    rintro (_ | _) h1
    · replace h1 := f_lss hO h1
      rw [hlen] at h1
      conv => cbv
      rcases hr with ⟨_, rfl⟩ | ⟨j, _, ⟨x, hj, hpx⟩, _⟩
      · rfl
      · rw [hno j x (by have := (List.getElem?_eq_some_iff.1 hj).1; omega) hj] at hpx
        simp at hpx
    · replace h1 := t_lss hO h1
      rw [hlen] at h1
      conv => cbv
      obtain ⟨y, hy⟩ : ∃ y, l[k]? = some y := ⟨_, List.getElem?_eq_getElem (by omega)⟩
      have hc := hp y (List.mem_of_getElem? hy)
      obtain ⟨q, hq⟩ : ∃ q, q = p y := ⟨_, rfl⟩
      rw [← hq] at hc
      refine ⟨mkS y, atX_map hy hxs hi, ?_⟩
      conv => cbv
      refine ⟨_, hc, ?_⟩
      cases q with
      | false =>
        conv => cbv
        refine ⟨_, _, up _ _ ⟨_, k + 1, rfl, ?_, by omega, rfl, ?_⟩, ⟨⟨rfl, rfl, rfl, rfl, trivial⟩, trivial, rfl⟩, by omega⟩
        · rw [o_add64 hO (by omega) (by omega)]; omega
        · intro j z hj hz
          by_cases e : j = k
          · subst e; rw [hy] at hz; simp only [Option.some.injEq] at hz; subst hz; exact hq.symm
          · exact hno j z (by omega) hz
      | true =>
        conv => cbv
        rcases hr with ⟨h, _⟩ | ⟨j, rfl, ⟨x, hj, hpx⟩, hmin⟩
        · rw [h y (List.mem_of_getElem? hy)] at hq
          simp at hq
        · have : j = k := by
            rcases Nat.lt_trichotomy j k with h | h | h
            · rw [hno j x h hj] at hpx; simp at hpx
            · exact h
            · rw [hmin k y h hy] at hq; simp at hq
          rw [hi, this]
  · rintro ⟨y, hy, hpy⟩
    rcases hr with ⟨h, _⟩ | ⟨k, rfl, _⟩
    · rw [h y hy] at hpy; simp at hpy
    · omega
  · intro h
    rcases hr with ⟨_, h'⟩ | ⟨k, _, ⟨x, hk, hpx⟩, _⟩
    · exact h'
    · rw [h x (List.mem_of_getElem? hk)] at hpx; simp at hpx
theorem containsf47_ok (R : Ans) (f : Nat) (p : Str → Bool) (l : List Str) (q : Bool) (hq : q = true ↔ ∃ y ∈ l, p y = true) (h56 : ∃ n : Int, R.v 69 [.sl 1 false (l.map mkS), .fn f [] []] (.int .i64 n) ∧ ((∃ y ∈ l, p y = true) → 0 ≤ n) ∧ ((∀ y ∈ l, p y = false) → n = -1)) : AnsF R c55 [.sl 1 false (l.map mkS), .fn f [] []] (.bool q) := by
  obtain ⟨n, hn, h1, h2⟩ := h56
  have hc : CleanL (l.map mkS) := cleanL_map clean_S rfl
  obtain ⟨xs, hxs⟩ : ∃ xs, xs = l.map mkS := ⟨_, rfl⟩
  rw [← hxs] at hn hc ⊢
  refine wpF_sound ⟨rfl, by decide⟩ fun O hO V hV => ?_
  subst hV
  conv => cbv
  refine ⟨hc, _, hn, ?_⟩
  conv => cbv
  rintro (_ | _) h3
  · replace h3 := f_geq hO h3
    conv => cbv
    cases q with
    | false => rfl
    | true => have := h1 (hq.1 rfl); omega
  · replace h3 := t_geq hO h3
    conv => cbv
    cases q with
    | true => rfl
    | false =>
      have : ∀ y ∈ l, p y = false := fun y hy => by
        cases hp : p y with
        | false => rfl
        | true => have := hq.2 ⟨y, hy, hp⟩; simp at this
      have := h2 this
      omega
end Go.Proofs.AM
namespace Go.Proofs.AM
open Go Go.Lib Cd
set_option maxRecDepth 100000 in
set_option maxHeartbeats 8000000 in
theorem wrong31_ok (R : Ans) (q : ReqV) (hq : FR q) (h18 : ∀ s, SL s → R.v 14 [mkS s] (.bool (nameB s)))
    (h47 : ∀ b : Bool, (b = true ↔ ∃ y ∈ q.l, (!valueB y) = true) → R.v 55 [.sl 1 false (q.l.map mkS), .fn 56 [] []] (.bool b))
    (h33 : R.v 30 [.sl 1 false ([q.l].map lD)] (.mapv ((groupS [q.l]).map ent))) : AnsF R c36 [reqD q] (.int .i64 (wrongE q)) := by
  obtain ⟨r, hr⟩ : ∃ r, r = wrongE q := ⟨_, rfl⟩
  rw [← hr]
  unfold wrongE at hr
  have hl1 := hq.l.len
  have hn := h18 q.key hq.key
  obtain ⟨key, op, l, n⟩ := q
  unfold BadOp at hr
  simp only at hr hl1 hn h47 h33
  obtain ⟨b, hb⟩ : ∃ b, b = nameB key := ⟨_, rfl⟩
  rw [← hb] at hr hn
  unfold reqD
  simp only
  simp only [List.map_cons, List.map_nil, lD] at h33
  obtain ⟨xs, hxs⟩ : ∃ xs, xs = l.map mkS := ⟨_, rfl⟩
  have hcx : CleanL xs := cleanL_map clean_S hxs
  have hcy : CleanL [.sl 1 false xs] := ⟨by simp [closedL, closed, hcx.c], by simp [stripL, strip, hcx.s]⟩
  obtain ⟨es, hes⟩ : ∃ es, es = (groupS [l]).map ent := ⟨_, rfl⟩
  rw [← hxs] at h47 h33 ⊢
  rw [← hes] at h33
  refine wpF_sound ⟨rfl, by decide⟩ fun O hO V hV => ?_
  subst hV
  have hlen : O .len xs = l.length := by rw [o_len hO, hxs]; simp
  have hlee : O .len es = (groupS [l]).length := by rw [o_len hO, hes]; simp
  conv => cbv
  refine join_of (fun d => ∃ v : Bool, d = ⟨[(1, .ptr 1 1 0), (3, .bool v)], [(1, ⟨1, .rw, .var, [mkS key, .int .i64 op, .sl 1 false xs, .int .i64 n]⟩)], false⟩ ∧ (v = true ↔ op = 1 ∨ op = 2)) (fun M upm => ?_) ?_
  · repeat' ((conv => cbv); rintro (_ | _) _)
    all_goals (conv => cbv)
    all_goals simp only [o_eql hO, true_eq_decide_iff, false_eq_decide_iff] at *
    all_goals exact ⟨_, upm _ ⟨_, rfl, by simp [*]⟩, ⟨⟨rfl, rfl, trivial⟩, ⟨rfl, trivial⟩, rfl⟩⟩
  rintro d ⟨v, rfl, hv⟩
  conv => cbv
  refine join_of (fun d => ∃ w : Bool, d = ⟨[(1, .ptr 1 1 0), (3, .bool v), (4, .bool w)], [(1, ⟨1, .rw, .var, [mkS key, .int .i64 op, .sl 1 false xs, .int .i64 n]⟩)], false⟩ ∧ (w = true ↔ op = 5 ∨ op = 6)) (fun M upm => ?_) ?_
  · repeat' ((conv => cbv); rintro (_ | _) _)
    all_goals (conv => cbv)
    all_goals simp only [o_eql hO, true_eq_decide_iff, false_eq_decide_iff] at *
    all_goals exact ⟨_, upm _ ⟨_, rfl, by simp [*]⟩, ⟨⟨rfl, rfl, rfl, trivial⟩, ⟨rfl, trivial⟩, rfl⟩⟩
  rintro d ⟨w, rfl, hw⟩
  conv => cbv
  refine ⟨_, hn, ?_⟩
  cases b with
  | false =>
    conv => cbv
    rw [hr]
    rfl
  | true =>
    simp only [Bool.true_eq_false, if_false] at hr
    conv => cbv
    refine join_of (fun d => ∃ bad : Bool, d = ⟨[(1, .ptr 1 1 0), (26, .bool bad)], [(1, ⟨1, .rw, .var, [mkS key, .int .i64 op, .sl 1 false xs, .int .i64 n]⟩)], false⟩ ∧ (bad = true ↔ (op < 1 ∨ 6 < op ∨ ((op = 1 ∨ op = 2) ∧ l.length = 0) ∨ (¬ (op = 1 ∨ op = 2) ∧ 0 < l.length) ∨ (¬ (op = 5 ∨ op = 6) ∧ n ≠ 0) ∨ n < -2147483648 ∨ 2147483648 < n))) (fun M upm => ?_) ?_
    · cases v <;> cases w <;> simp only [Bool.false_eq_true, false_iff, true_iff] at hv hw
      all_goals repeat' ((conv => cbv); rintro (_ | _) _)
      all_goals (conv => cbv)
      all_goals simp only [o_lss hO, o_gtr hO, o_neq hO, o_beq hO, hlen, true_eq_decide_iff, false_eq_decide_iff] at *
      all_goals first
        | (exfalso; omega)
        | (refine ⟨_, upm _ ⟨_, rfl, ?_⟩, ⟨⟨rfl, rfl, trivial⟩, ⟨rfl, trivial⟩, rfl⟩⟩
           constructor <;> intro h <;> first | rfl | (simp at h; done) | (exfalso; omega) | omega)
        | (exfalso; simp at *; done)
    rintro d ⟨bad, rfl, hbad⟩
    cases bad with
    | true =>
      rw [if_pos (hbad.1 rfl)] at hr
      conv => cbv
      rw [hr]
    | false =>
      rw [if_neg (fun h => by have := hbad.2 h; simp at this)] at hr
      conv => cbv
      rintro (_ | _) h1
      · replace h1 := f_gtr hO h1
        rw [hlen] at h1
        rw [if_neg (by omega)] at hr
        conv => cbv
        by_cases hval : ∃ v ∈ l, valueB v = false
        · rw [if_pos hval] at hr
          have hc := h47 true (by
            obtain ⟨y, hy, hf⟩ := hval
            exact ⟨fun _ => ⟨y, hy, by simp [hf]⟩, fun _ => rfl⟩)
          refine ⟨hcx, _, hc, ?_⟩
          conv => cbv
          rw [hr]
        · rw [if_neg hval] at hr
          have hc := h47 false (by
            constructor
            · intro h; simp at h
            · rintro ⟨y, hy, hf⟩
              exact absurd ⟨y, hy, by simpa using hf⟩ hval)
          refine ⟨hcx, _, hc, ?_⟩
          conv => cbv
          refine ⟨⟨hcy.c⟩, ?_⟩
          conv => cbv
          refine ⟨hcy, _, h33, ?_⟩
          conv => cbv
          rintro (_ | _) h2
          · replace h2 := f_lss hO h2
            rw [hlen, hlee] at h2
            conv => cbv
            rw [hr, if_neg (fun h => by have := group_lt.2 h; omega)]
          · replace h2 := t_lss hO h2
            rw [hlen, hlee] at h2
            conv => cbv
            rw [hr, if_pos (group_lt.1 (by omega))]
      · replace h1 := t_gtr hO h1
        rw [hlen] at h1
        rw [if_pos (by omega)] at hr
        conv => cbv
        rw [hr]
end Go.Proofs.AM
namespace Go.Proofs.AM
open Go Go.Lib Cd
theorem NumsR.yes {lo hi : Int} {S T : SetV} {b : Bool} (h : NumsR lo hi [] S b) (hT : numbersS lo hi [] = some T) : b = true ∧ S = T := by
  rcases h with ⟨h1, h2⟩ | ⟨_, h2⟩
  · rw [h2] at hT; simp only [Option.some.injEq] at hT; exact ⟨h1, hT⟩
  · rw [h2] at hT; simp at hT
end Go.Proofs.AM
namespace Go.Proofs.AM
open Go Go.Lib Cd
set_option maxRecDepth 100000 in
set_option maxHeartbeats 8000000 in
theorem of12_ok (R : Ans) (q : ReqV) (hq : FR q) (h31 : R.v 36 [reqD q] (.int .i64 (wrongE q))) (h33 : ∀ L : List (List Str), L.length ≤ 8796093022208 → (∀ l ∈ L, l.length ≤ 8796093022208) → R.v 30 [.sl 1 false (L.map lD)] (.mapv ((groupS L).map ent)))
    (h32 : ∀ K : List Str, K.Nodup → (∀ s ∈ K, SL s) → K.length ≤ 8796093022208 → R.v 31 [.mapv (K.map ent)] (.sl 1 false ((risingS K).map mkS)))
    (h34 : ∀ lo hi : Int, least ≤ lo → lo ≤ most + 1 → hi ≤ most → least - 1 ≤ hi → ∃ S b, R.v 32 [.int .i64 lo, .int .i64 hi, .mapv []] (.tup [setD S, .bool b]) ∧ NumsR lo hi [] S b) :
    AnsF R c22 [reqD q] (.tup [setD (ofSet q), .int .i64 (wrongE q)]) := by
  obtain ⟨e, he⟩ : ∃ e, e = wrongE q := ⟨_, rfl⟩
  have hok : e = 0 → ¬ BadOp q := fun h => (wrongE_0 (by rw [← he, h])).2.1
  obtain ⟨r, hrr⟩ : ∃ r, r = D.tup [setD (ofSet q), .int .i64 (wrongE q)] := ⟨_, rfl⟩
  rw [← hrr]
  unfold ofSet at hrr
  rw [← he] at hrr h31
  have hl1 := hq.l.len
  have hall := hq.l.all
  clear he hq
  obtain ⟨key, op, l, n⟩ := q
  unfold BadOp at hok
  unfold ofS at hrr
  unfold reqD at h31 ⊢
  simp only at h31 hrr hok hl1 hall ⊢
  have hg := h33 [l] (by simp) (by simpa using hl1)
  have hge := h33 [] (by simp) (by simp)
  have hri := h32 (groupS [l]) (groupS_nodup _) (fun s hs => by rw [groupS_mem] at hs; exact hall s (by simpa using hs)) (by have := groupS_len [l]; simp at this; omega)
  have hsame : risingS (groupS [l]) = risingS l := risingS_congr fun z => by rw [groupS_mem]; simp
  rw [hsame] at hri
  simp only [List.map_cons, List.map_nil, lD] at hg hge
  rw [show groupS [] = [] from rfl, List.map_nil] at hge
  obtain ⟨es, hes⟩ : ∃ es, es = (groupS [l]).map ent := ⟨_, rfl⟩
  have hce : CleanL es := cleanL_map clean_ent hes
  obtain ⟨xs, hxs⟩ : ∃ xs, xs = l.map mkS := ⟨_, rfl⟩
  have hcx : CleanL xs := cleanL_map clean_S hxs
  have hcy : CleanL [.sl 1 false xs] := ⟨by simp [closedL, closed, hcx.c], by simp [stripL, strip, hcx.s]⟩
  obtain ⟨rs, hrs⟩ : ∃ rs, rs = (risingS l).map mkS := ⟨_, rfl⟩
  have hcr : CleanL rs := cleanL_map clean_S hrs
  rw [← hxs] at h31 hg ⊢
  rw [← hes] at hg hri
  rw [← hrs] at hri
  clear h33 h32
  refine wpF_sound ⟨rfl, by decide⟩ fun O hO V hV => ?_
  subst hV
  conv => cbv
  refine ⟨hcx, _, h31, ?_⟩
  conv => cbv
  rintro (_ | _) h1
  · replace h1 := f_neq hO h1
    subst h1
    have hop := hok rfl
    simp only [if_true] at hrr
    conv => cbv
    refine ⟨hcy, _, hg, ?_⟩
    conv => cbv
    refine ⟨hce, _, hri, ?_⟩
    conv => cbv
    refine join_of (fun d => ∃ (S : SetV) (nl : Bool) (ys : List D), d = ⟨[(2, .ptr 2 1 0), (5, .ptr 5 1 0)], [(2, ⟨1, .rw, .var, [.bool false, .bool false, .bool false, .sl 1 true [], .int .i64 0, .int .i64 0]⟩), (5, ⟨1, .rw, .var, [.bool S.m, .bool S.n, .bool S.u, .sl 1 nl ys, .int .i64 S.lo, .int .i64 S.hi]⟩)], false⟩ ∧ ys = S.l.map mkS ∧ r = .tup [setD S, .int .i64 0]) (fun M upm => ?_) ?_
    · conv => cbv
      rintro (_ | _) h3
      · replace h3 := f_eql hO h3
        conv => cbv
        rintro (_ | _) h4
        · replace h4 := f_eql hO h4
          conv => cbv
          rintro (_ | _) h5
          · replace h5 := f_eql hO h5
            conv => cbv
            rintro (_ | _) h6
            · replace h6 := f_eql hO h6
              conv => cbv
              rintro (_ | _) h7
              · replace h7 := f_eql hO h7
                have h2 : op = 1 := by omega
                rw [if_pos h2] at hrr
                conv => cbv
                exact ⟨_, upm _ ⟨⟨false, false, false, risingS l, 0, 0⟩, _, rs, rfl, hrs, hrr⟩, ⟨⟨rfl, rfl, trivial⟩, ⟨rfl, rfl, trivial⟩, rfl⟩⟩
              · replace h7 := t_eql hO h7
                rw [if_neg (by omega), if_neg h3, if_neg h4, if_neg h5, if_neg h6] at hrr
                obtain ⟨S, b, hS, hN⟩ := h34 least (n - 1) (by unfold least; omega) (by unfold least most; omega) (by unfold most; omega) (by unfold least; omega)
                obtain ⟨T, hT⟩ := numbersS_nil least (n - 1)
                obtain ⟨rfl, rfl⟩ := hN.yes hT
                rw [hT] at hrr
                simp only [Option.getD_some] at hrr
                have hsub : O .iop .sub .i64 n 1 = n - 1 := o_sub64 hO (by omega) (by omega)
                obtain ⟨ys, hys⟩ : ∃ ys, ys = S.l.map mkS := ⟨_, rfl⟩
                unfold setD at hS
                rw [← hys] at hS
                obtain ⟨m', n', u', l', lo', hi'⟩ := S
                simp only at hS hys
                conv => cbv
                refine ⟨⟨rfl, rfl⟩, _, hge, ?_⟩
                conv => cbv
                rw [hsub]
                refine ⟨⟨rfl, rfl⟩, _, hS, ?_⟩
                conv => cbv
                exact ⟨_, upm _ ⟨⟨m', n', u', l', lo', hi'⟩, _, ys, rfl, hys, hrr⟩, ⟨⟨rfl, rfl, trivial⟩, ⟨rfl, rfl, trivial⟩, rfl⟩⟩
            · replace h6 := t_eql hO h6
              rw [if_neg (by omega), if_neg h3, if_neg h4, if_neg h5, if_pos h6] at hrr
              obtain ⟨S, b, hS, hN⟩ := h34 (n + 1) most (by unfold least; omega) (by unfold most; omega) (by unfold most; omega) (by unfold least most; omega)
              obtain ⟨T, hT⟩ := numbersS_nil (n + 1) most
              obtain ⟨rfl, rfl⟩ := hN.yes hT
              rw [hT] at hrr
              simp only [Option.getD_some] at hrr
              have hadd : O .iop .add .i64 n 1 = n + 1 := o_add64 hO (by omega) (by omega)
              obtain ⟨ys, hys⟩ : ∃ ys, ys = S.l.map mkS := ⟨_, rfl⟩
              unfold setD at hS
              rw [← hys] at hS
              obtain ⟨m', n', u', l', lo', hi'⟩ := S
              simp only at hS hys
              conv => cbv
              refine ⟨⟨rfl, rfl⟩, _, hge, ?_⟩
              conv => cbv
              rw [hadd]
              refine ⟨⟨rfl, rfl⟩, _, hS, ?_⟩
              conv => cbv
              exact ⟨_, upm _ ⟨⟨m', n', u', l', lo', hi'⟩, _, ys, rfl, hys, hrr⟩, ⟨⟨rfl, rfl, trivial⟩, ⟨rfl, rfl, trivial⟩, rfl⟩⟩
          · replace h5 := t_eql hO h5
            rw [if_neg (by omega), if_neg h3, if_neg h4, if_pos h5] at hrr
            have hl0 : l = [] := List.length_eq_zero_iff.1 (by omega)
            conv => cbv
            exact ⟨_, upm _ ⟨⟨true, false, false, [], 0, 0⟩, _, rs, rfl, by rw [hrs, hl0]; rfl, hrr⟩, ⟨⟨rfl, rfl, trivial⟩, ⟨rfl, rfl, trivial⟩, rfl⟩⟩
        · replace h4 := t_eql hO h4
          rw [if_neg (by omega), if_neg h3, if_pos h4] at hrr
          have hl0 : l = [] := List.length_eq_zero_iff.1 (by omega)
          conv => cbv
          exact ⟨_, upm _ ⟨⟨false, true, false, [], 0, 0⟩, _, rs, rfl, by rw [hrs, hl0]; rfl, hrr⟩, ⟨⟨rfl, rfl, trivial⟩, ⟨rfl, rfl, trivial⟩, rfl⟩⟩
      · replace h3 := t_eql hO h3
        rw [if_neg (by omega), if_pos h3] at hrr
        conv => cbv
        exact ⟨_, upm _ ⟨⟨true, true, false, risingS l, 0, 0⟩, _, rs, rfl, hrs, hrr⟩, ⟨⟨rfl, rfl, trivial⟩, ⟨rfl, rfl, trivial⟩, rfl⟩⟩
    · rintro d ⟨S, nl, ys, rfl, hys, hr2⟩
      have hcS : CleanL ys := cleanL_map clean_S hys
      obtain ⟨m', n', u', l', lo', hi'⟩ := S
      simp only at hys
      conv => cbv
      refine ⟨hcS, ?_⟩
      conv => cbv
      rw [hr2, setD, ← hys]
  · replace h1 := t_neq hO h1
    rw [if_neg h1] at hrr
    conv => cbv
    rw [hrr]
    exact ⟨⟨rfl, rfl⟩, rfl⟩
end Go.Proofs.AM
namespace Go.Proofs.AM
open Go Go.Lib Cd
end Go.Proofs.AM
namespace Go.Proofs.AM
open Go Go.Lib
noncomputable def meetN (a b : SetV) : Option SetV :=
  if a.n = false then some ⟨false, false, false, a.l.filter (hasB b), 0, 0⟩
  else if b.n = false then some ⟨false, false, false, b.l.filter (hasB a), 0, 0⟩
  else if a.u = false ∧ b.u = false then (if (risingS (a.l ++ b.l)).length ≤ 64 then some ⟨false, true, false, risingS (a.l ++ b.l), 0, 0⟩ else none)
  else if a.u = false then numbersS b.lo b.hi (risingS (a.l ++ b.l))
  else if b.u = false then numbersS a.lo a.hi (risingS (a.l ++ b.l))
  else numbersS (max a.lo b.lo) (min a.hi b.hi) (risingS (a.l ++ b.l))
noncomputable def meetS (a b : SetV) : SetV × Int :=
  if checkE a ≠ 0 then (zeroS, checkE a)
  else if checkE b ≠ 0 then (zeroS, checkE b)
  else match meetN a b with
    | none => (zeroS, 3)
    | some S => (⟨a.m && b.m, S.n, S.u, S.l, S.lo, S.hi⟩, 0)
def swB (a b : SetV) : Bool := (a.n && !b.n) || (a.u && b.n && !b.u)
theorem has_raw {A B : SetV} (ca : CheckP A) (cb : CheckP B) : A.l.filter (hasB B) = A.l.filter (hasRaw B) := by
  apply List.filter_congr
  intro v hv
  obtain ⟨j, hj⟩ := List.getElem?_of_mem hv
  have h1 := ca.ord.2.1 j v hj
  unfold hasB
  rw [checkE_0 cb, h1]
  simp
theorem meetN_prog {a b A B : SetV} (ca : CheckP a) (cb : CheckP b) (h : (swB a b = false ∧ A = a ∧ B = b) ∨ (swB a b = true ∧ A = b ∧ B = a)) :
    meetN a b = if A.n = false then some ⟨false, false, false, A.l.filter (hasRaw B), 0, 0⟩
      else if B.u = false then (if (groupS [A.l, B.l]).length ≤ 64 then some ⟨false, true, false, risingS (groupS [A.l, B.l]), 0, 0⟩ else none)
      else if A.u = false then numbersS B.lo B.hi (groupS [A.l, B.l]) else numbersS (max A.lo B.lo) (min A.hi B.hi) (groupS [A.l, B.l]) := by
  have hg : ∀ z, z ∈ risingS (a.l ++ b.l) ↔ z ∈ groupS [A.l, B.l] := fun z => by
    rw [risingS_mem, groupS_mem]
    rcases h with ⟨_, rfl, rfl⟩ | ⟨_, rfl, rfl⟩ <;> simp [or_comm]
  have hr : risingS (a.l ++ b.l) = risingS (groupS [A.l, B.l]) := rises_ext (risingS_rises _) (risingS_rises _) fun z => by rw [hg z, risingS_mem]
  have hl : (risingS (a.l ++ b.l)).length = (groupS [A.l, B.l]).length := by rw [hr, risingS_len_eq (groupS_nodup _)]
  have hn : ∀ lo hi, numbersS lo hi (risingS (a.l ++ b.l)) = numbersS lo hi (groupS [A.l, B.l]) := fun lo hi => numbersS_congr hg lo hi
  unfold meetN
  rw [hl, hr]
  simp only [← hr, hn]
  have ua := ca.un
  have ub := cb.un
  unfold swB at h
  rcases h with ⟨hs, rfl, rfl⟩ | ⟨hs, rfl, rfl⟩
  · rw [has_raw ca cb]
    cases h1 : A.n <;> cases h2 : B.n <;> cases h3 : A.u <;> cases h4 : B.u <;> simp_all
  · rw [has_raw cb ca]
    have e1 : max B.lo A.lo = max A.lo B.lo := by omega
    have e2 : min B.hi A.hi = min A.hi B.hi := by omega
    cases h1 : A.n <;> cases h2 : B.n <;> cases h3 : A.u <;> cases h4 : B.u <;> simp_all
end Go.Proofs.AM
namespace Go.Proofs.AM
open Go Go.Lib Cd
end Go.Proofs.AM
namespace Go.Proofs.AM
open Go Go.Lib Cd
set_option maxRecDepth 100000 in
set_option maxHeartbeats 16000000 in
theorem meet24_ok (R : Ans) (a b : SetV) (ha : FS a) (hb : FS b) (h23 : ∀ s, FS s → R.v 28 [setD s] (.int .i64 (checkE s))) (h43 : ∀ s x, FS s → SL x → R.v 29 [setD s, mkS x] (.bool (hasRaw s x)))
    (h32 : ∀ K : List Str, K.Nodup → (∀ s ∈ K, SL s) → K.length ≤ 8796093022208 → R.v 31 [.mapv (K.map ent)] (.sl 1 false ((risingS K).map mkS)))
    (h33 : ∀ L : List (List Str), L.length ≤ 8796093022208 → (∀ l ∈ L, l.length ≤ 8796093022208) → SCall R 300 30 [.sl 1 false (L.map lD)] [] (fun r kn => ∃ g c, r = .mapr 308 g ∧ kn = [(308, ⟨g, .rw, .map, .int .i64 c :: (groupS L).map ent⟩)]))
    (h34 : ∀ (lo hi : Int) (K : List Str) (gm : Nat) (c0 : Int), least ≤ lo → lo ≤ most + 1 → hi ≤ most → least - 1 ≤ hi → K.Nodup → (∀ s ∈ K, SL s) → K.length ≤ 8796093022208 → SCall R 600 32 [.int .i64 lo, .int .i64 hi, .mapr 308 gm] [(308, ⟨gm, .rw, .map, .int .i64 c0 :: K.map ent⟩)] (fun r _ => ∃ S b, r = .tup [setD S, .bool b] ∧ NumsR lo hi K S b)) :
    AnsF R c17 [setD a, setD b] (.tup [setD (meetS a b).1, .int .i64 (meetS a b).2]) := by
  have ka := h23 a ha
  have kb := h23 b hb
  have ca : checkE a = 0 → CheckP a := checkE_iff.1
  have cb : checkE b = 0 → CheckP b := checkE_iff.1
  obtain ⟨N, hN⟩ : ∃ N, N = meetN a b := ⟨_, rfl⟩
  obtain ⟨r, hr⟩ : ∃ r, r = D.tup [setD (meetS a b).1, .int .i64 (meetS a b).2] := ⟨_, rfl⟩
  rw [← hr]
  unfold meetS at hr
  rw [← hN] at hr
  obtain ⟨ea, hea⟩ : ∃ e, e = checkE a := ⟨_, rfl⟩
  obtain ⟨eb, heb⟩ : ∃ e, e = checkE b := ⟨_, rfl⟩
  rw [← hea, ← heb] at hr
  rw [← hea] at ka ca
  rw [← heb] at kb cb
  clear hea heb h23
  obtain ⟨xa, hxa⟩ : ∃ xs, xs = a.l.map mkS := ⟨_, rfl⟩
  obtain ⟨xb, hxb⟩ : ∃ xs, xs = b.l.map mkS := ⟨_, rfl⟩
  have hca : CleanL xa := cleanL_map clean_S hxa
  have hcb : CleanL xb := cleanL_map clean_S hxb
  unfold setD at ka kb ⊢
  rw [← hxa] at ka ⊢
  rw [← hxb] at kb ⊢
  have key : ∀ A B : SetV, (swB a b = false ∧ A = a ∧ B = b) ∨ (swB a b = true ∧ A = b ∧ B = a) → True := fun _ _ _ => trivial
  refine wpF_sound ⟨rfl, by decide⟩ fun O hO V hV => ?_
  subst hV
  conv => cbv
  refine ⟨hca, _, ka, ?_⟩
  conv => cbv
  rintro (_ | _) h1
  · replace h1 := f_neq hO h1
    have ca := ca h1
    simp only [h1, ne_eq, not_true_eq_false, if_false] at hr
    conv => cbv
    refine ⟨hcb, _, kb, ?_⟩
    conv => cbv
    rintro (_ | _) h2
    · replace h2 := f_neq hO h2
      have cb := cb h2
      simp only [h2, not_true_eq_false, if_false] at hr
      have la : a.l.length ≤ 64 := ca.ord.1
      have lb : b.l.length ≤ 64 := cb.ord.1
      conv => cbv
      refine join_of (fun d => ∃ (A B : SetV) (xs ys : List D), d = ⟨[(2, .ptr 2 1 0), (3, .ptr 3 1 0), (4, .ptr 4 1 0)], [(2, ⟨1, .rw, .var, [.bool A.m, .bool A.n, .bool A.u, .sl 1 false xs, .int .i64 A.lo, .int .i64 A.hi]⟩), (3, ⟨1, .rw, .var, [.bool B.m, .bool B.n, .bool B.u, .sl 1 false ys, .int .i64 B.lo, .int .i64 B.hi]⟩), (4, ⟨1, .rw, .var, [.bool false, .bool false, .bool false, .sl 1 true [], .int .i64 0, .int .i64 0]⟩)], false⟩ ∧ xs = A.l.map mkS ∧ ys = B.l.map mkS ∧ ((swB a b = false ∧ A = a ∧ B = b) ∨ (swB a b = true ∧ A = b ∧ B = a))) (fun M upm => ?_) ?_
      · obtain ⟨m, n, u, l, lo, hi⟩ := a
        obtain ⟨m', n', u', l', lo', hi'⟩ := b
        have yes : swB ⟨m, n, u, l, lo, hi⟩ ⟨m', n', u', l', lo', hi'⟩ = true → ∃ d, M d ∧ d = ⟨[(2, .ptr 2 1 0), (3, .ptr 3 1 0), (4, .ptr 4 1 0)], [(2, ⟨1, .rw, .var, [.bool m', .bool n', .bool u', .sl 1 false xb, .int .i64 lo', .int .i64 hi']⟩), (3, ⟨1, .rw, .var, [.bool m, .bool n, .bool u, .sl 1 false xa, .int .i64 lo, .int .i64 hi]⟩), (4, ⟨1, .rw, .var, [.bool false, .bool false, .bool false, .sl 1 true [], .int .i64 0, .int .i64 0]⟩)], false⟩ := fun h => ⟨_, upm _ ⟨_, _, xb, xa, rfl, hxb, hxa, .inr ⟨h, rfl, rfl⟩⟩, rfl⟩
        have no : swB ⟨m, n, u, l, lo, hi⟩ ⟨m', n', u', l', lo', hi'⟩ = false → ∃ d, M d ∧ d = ⟨[(2, .ptr 2 1 0), (3, .ptr 3 1 0), (4, .ptr 4 1 0)], [(2, ⟨1, .rw, .var, [.bool m, .bool n, .bool u, .sl 1 false xa, .int .i64 lo, .int .i64 hi]⟩), (3, ⟨1, .rw, .var, [.bool m', .bool n', .bool u', .sl 1 false xb, .int .i64 lo', .int .i64 hi']⟩), (4, ⟨1, .rw, .var, [.bool false, .bool false, .bool false, .sl 1 true [], .int .i64 0, .int .i64 0]⟩)], false⟩ := fun h => ⟨_, upm _ ⟨_, _, xa, xb, rfl, hxa, hxb, .inl ⟨h, rfl, rfl⟩⟩, rfl⟩
        cases n <;> cases n' <;> cases u <;> cases u' <;> (conv => cbv)
        all_goals first
          | (obtain ⟨d, h3, h4⟩ := yes rfl; exact ⟨d, h3, by subst h4; exact ⟨⟨rfl, rfl, rfl, trivial⟩, ⟨rfl, rfl, rfl, trivial⟩, rfl⟩⟩)
          | (obtain ⟨d, h3, h4⟩ := no rfl; exact ⟨d, h3, by subst h4; exact ⟨⟨rfl, rfl, rfl, trivial⟩, ⟨rfl, rfl, rfl, trivial⟩, rfl⟩⟩)
      · rintro d ⟨A, B, xs, ys, rfl, hxs, hys, hsw⟩
        have hN2 := meetN_prog ca cb hsw
        rw [← hN] at hN2
        have hFA : FS A ∧ A.l.length ≤ 64 ∧ CheckP A := by rcases hsw with ⟨_, rfl, rfl⟩ | ⟨_, rfl, rfl⟩ <;> exact ⟨by assumption, by assumption, by assumption⟩
        have hFB : FS B ∧ B.l.length ≤ 64 ∧ CheckP B := by rcases hsw with ⟨_, rfl, rfl⟩ | ⟨_, rfl, rfl⟩ <;> exact ⟨by assumption, by assumption, by assumption⟩
        have hmm : (a.m && b.m) = (A.m && B.m) := by rcases hsw with ⟨_, rfl, rfl⟩ | ⟨_, rfl, rfl⟩ <;> simp [Bool.and_comm]
        rw [hmm] at hr
        clear hsw hmm hN ka kb ca cb la lb hca hcb hxa hxb ha hb
        obtain ⟨hFA, la, cA⟩ := hFA
        obtain ⟨hFB, lb, cB⟩ := hFB
        have hcx : CleanL xs := cleanL_map clean_S hxs
        have hcy : CleanL ys := cleanL_map clean_S hys
        have hlx : O .len xs = A.l.length := by rw [o_len hO, hxs]; simp
        have h33' := h33 [A.l, B.l] (by simp) (by simp; omega)
        obtain ⟨K, hK⟩ : ∃ K, K = groupS [A.l, B.l] := ⟨_, rfl⟩
        have hKn : K.Nodup := by rw [hK]; exact groupS_nodup _
        have hKm : ∀ s, s ∈ K → s ∈ A.l ∨ s ∈ B.l := fun s hs => by rw [hK, groupS_mem] at hs; simpa using hs
        have hKs : ∀ s ∈ K, SL s := fun s hs => by
          rcases hKm s hs with h | h
          · exact hFA.l.all s h
          · exact hFB.l.all s h
        have hKl : K.length ≤ 128 := by
          have := groupS_len [A.l, B.l]
          rw [hK]
          simp at this
          omega
        rw [← hK] at h33' hN2
        have k32 := h32 K hKn hKs (by omega)
        have k43 := fun x hx => h43 B x hFB hx
        obtain ⟨hRaw, hhR⟩ : ∃ p, p = hasRaw B := ⟨_, rfl⟩
        rw [← hhR] at k43 hN2
        have hAall := hFA.l.all
        have cuA := cA.u
        have cuB := cB.u
        obtain ⟨ks, hks⟩ : ∃ ks, ks = K.map ent := ⟨_, rfl⟩
        have hck : CleanL ks := cleanL_map clean_ent hks
        have hlk : O .len ks = K.length := by rw [o_len hO, hks]; simp
        obtain ⟨rs, hrs⟩ : ∃ rs, rs = (risingS K).map mkS := ⟨_, rfl⟩
        have hcr : CleanL rs := cleanL_map clean_S hrs
        have hL33 : [A.l, B.l].map lD = [.sl 1 false xs, .sl 1 false ys] := by simp [lD, hxs, hys]
        rw [hL33, ← hks] at h33'
        rw [← hks, ← hrs] at k32
        clear h33 h32 h43 hL33 hFA hFB cA cB
        obtain ⟨m, n, u, l, lo, hi⟩ := A
        obtain ⟨m', n', u', l', lo', hi'⟩ := B
        unfold setD at k43
        simp only at hxs hys hlx la lb hN2 hr k43 hAall cuA cuB ⊢
        rw [← hys] at k43
        conv => cbv
        intro g8
        conv => cbv
        refine join_of (fun d => ∃ (S : SetV) (nl : Bool) (ss : List D) (ok : Bool) (sv : D) (g9 : Nat) (tl : List (Nat × Box)), d = ⟨[(2, .ptr 2 1 0), (3, .ptr 3 1 0), (4, .ptr 4 1 0), (8, .ptr 8 g8 0), (9, .bool ok)], [(2, ⟨1, .rw, .var, [.bool m, .bool n, .bool u, .sl 1 false xs, .int .i64 lo, .int .i64 hi]⟩), (3, ⟨1, .rw, .var, [.bool m', .bool n', .bool u', .sl 1 false ys, .int .i64 lo', .int .i64 hi']⟩), (4, ⟨1, .rw, .var, [.bool false, .bool false, .bool false, .sl 1 true [], .int .i64 0, .int .i64 0]⟩), (8, ⟨g8, .rw, .var, [.bool S.m, .bool S.n, .bool S.u, sv, .int .i64 S.lo, .int .i64 S.hi]⟩)] ++ tl, false⟩ ∧ ((sv = .sl 1 nl ss ∧ tl = []) ∨ (sv = .own 150 g9 ∧ tl = [(150, ⟨g9, .rw, .arr 1 9, ss⟩)])) ∧ ss = S.l.map mkS ∧ ((ok = true ∧ N = some S) ∨ (ok = false ∧ N = none))) (fun M upm => ?_) ?_
        · conv => cbv
          refine ⟨⟨by simp [closedL, closed, hcx.c, hcy.c]⟩, ?_⟩
          conv => cbv
          refine shared_of h33' (by decide) trivial ?_
          rintro r33 kn33 ⟨g33, c33, rfl, rfl⟩
          conv => cbv
          cases n with
          | false =>
            rw [if_pos rfl] at hN2
            conv => cbv
            intro g9
            conv => cbv
            refine loop_of (fun c d => ∃ (i : Int) (k g : Nat) (ac : List D), d = ⟨[(2, .ptr 2 1 0), (3, .ptr 3 1 0), (4, .ptr 4 1 0), (8, .ptr 8 g8 0), (9, .bool true), (73, .sl 1 false xs), (74, .int .i64 (O .len xs)), (75, .int .i64 i)], [(2, ⟨1, .rw, .var, [.bool m, .bool false, .bool u, .sl 1 false xs, .int .i64 lo, .int .i64 hi]⟩), (3, ⟨1, .rw, .var, [.bool m', .bool n', .bool u', .sl 1 false ys, .int .i64 lo', .int .i64 hi']⟩), (4, ⟨1, .rw, .var, [.bool false, .bool false, .bool false, .sl 1 true [], .int .i64 0, .int .i64 0]⟩), (8, ⟨g8, .rw, .var, [.bool false, .bool false, .bool false, .own 150 g, .int .i64 0, .int .i64 0]⟩), (150, ⟨g, .rw, .arr 1 9, ac⟩)], false⟩ ∧ i = k ∧ k ≤ l.length ∧ c = l.length - k ∧ ac = ((l.take k).filter hRaw).map mkS) ⟨_, _, ⟨_, 0, _, _, rfl, rfl, by omega, rfl, by simp⟩, ⟨⟨rfl, rfl, rfl, rfl, rfl, rfl, rfl, rfl, trivial⟩, ⟨rfl, rfl, rfl, rfl, rfl, trivial⟩, rfl⟩⟩ ?_
            rintro J up c d ⟨i, k, g, ac, rfl, hi', hk, rfl, hac⟩
            conv => cbv
            rintro (_ | _) h3
            · replace h3 := f_lss hO h3
              rw [hlx] at h3
              have : ac = (l.filter hRaw).map mkS := by rw [hac, List.take_of_length_le (by omega)]
              conv => cbv
              exact ⟨_, upm _ ⟨⟨false, false, false, l.filter hRaw, 0, 0⟩, false, ac, true, _, _, _, rfl, .inr ⟨rfl, rfl⟩, this, .inl ⟨rfl, hN2⟩⟩, ⟨⟨rfl, rfl, rfl, rfl, rfl, trivial⟩, ⟨rfl, rfl, rfl, rfl, rfl, trivial⟩, rfl⟩⟩
            · replace h3 := t_lss hO h3
              rw [hlx] at h3
              obtain ⟨y, hy⟩ : ∃ y, l[k]? = some y := ⟨_, List.getElem?_eq_getElem (by omega)⟩
              have hv := k43 y (hAall y (List.mem_of_getElem? hy))
              obtain ⟨q, hq⟩ : ∃ q, q = hRaw y := ⟨_, rfl⟩
              rw [← hq] at hv
              have hadd : O .iop .add .i64 i 1 = ((k + 1 : Nat) : Int) := by rw [o_add64 hO (by omega) (by omega)]; omega
              conv => cbv
              refine ⟨mkS y, atX_map hy hxs hi', ?_⟩
              conv => cbv
              refine ⟨hcy, _, hv, ?_⟩
              cases q with
              | false =>
                conv => cbv
                exact ⟨_, _, up _ _ ⟨_, k + 1, g, ac, rfl, hadd, by omega, rfl, by rw [hac, List.take_add_one, hy, List.filter_append]; simp [← hq]⟩, ⟨⟨rfl, rfl, rfl, rfl, rfl, rfl, rfl, rfl, trivial⟩, ⟨rfl, rfl, rfl, rfl, rfl, trivial⟩, rfl⟩, by omega⟩
              | true =>
                conv => cbv
                have hla : O .len ac ≤ k := by
                  have := List.length_filter_le hRaw (l.take k)
                  rw [o_len hO, hac]
                  simp at this ⊢
                  omega
                have hl1' : O .len [D.str ⟨⟨y⟩⟩] = 1 := by rw [o_len hO]; rfl
                obtain ⟨ac2, hac2⟩ : ∃ ac2, ac2 = O .app ac [D.str ⟨⟨y⟩⟩] := ⟨_, rfl⟩
                intro g85
                conv => cbv
                refine ⟨⟨rfl⟩, ⟨by show (O .len ac + O .len [D.str ⟨⟨y⟩⟩]) * ((16 : Nat) : Int) ≤ _; rw [hl1']; omega⟩, ?_⟩
                rw [← hac2]
                conv => cbv
                exact ⟨_, _, up _ _ ⟨_, k + 1, g + 1, ac2, rfl, hadd, by omega, rfl, by rw [hac2, o_app hO, hac, List.take_add_one, hy, List.filter_append]; simp [← hq, mkS]⟩, ⟨⟨rfl, rfl, rfl, rfl, rfl, rfl, rfl, rfl, trivial⟩, ⟨rfl, rfl, rfl, rfl, rfl, trivial⟩, rfl⟩, by omega⟩
          | true =>
            rw [if_neg (by simp)] at hN2
            cases u' with
            | false =>
              rw [if_pos rfl] at hN2
              conv => cbv
              refine ⟨hck, _, k32, ?_⟩
              conv => cbv
              rintro (_ | _) h3
              · replace h3 := f_leq hO h3
                rw [hlk] at h3
                rw [if_neg (by omega)] at hN2
                conv => cbv
                exact ⟨_, upm _ ⟨⟨false, true, false, risingS K, 0, 0⟩, _, rs, false, _, 0, _, rfl, .inl ⟨rfl, rfl⟩, hrs, .inr ⟨rfl, hN2⟩⟩, ⟨⟨rfl, rfl, rfl, rfl, rfl, trivial⟩, ⟨rfl, rfl, rfl, rfl, trivial⟩, rfl⟩⟩
              · replace h3 := t_leq hO h3
                rw [hlk] at h3
                rw [if_pos (by omega)] at hN2
                conv => cbv
                exact ⟨_, upm _ ⟨⟨false, true, false, risingS K, 0, 0⟩, _, rs, true, _, 0, _, rfl, .inl ⟨rfl, rfl⟩, hrs, .inl ⟨rfl, hN2⟩⟩, ⟨⟨rfl, rfl, rfl, rfl, rfl, trivial⟩, ⟨rfl, rfl, rfl, rfl, trivial⟩, rfl⟩⟩
            | true =>
              rw [if_neg (by simp)] at hN2
              have cu := cuB rfl
              cases u with
              | false =>
                rw [if_pos rfl] at hN2
                have h34' := h34 lo' hi' K g33 c33 (by omega) (by unfold most least at *; omega) (by omega) (by unfold most least at *; omega) hKn hKs (by omega)
                rw [← hks] at h34'
                conv => cbv
                refine shared_of0 h34' (by decide) ⟨rfl, trivial⟩ ?_
                rintro r34 ⟨S, bb, rfl, hNr⟩
                obtain ⟨ss, hss⟩ : ∃ ss, ss = S.l.map mkS := ⟨_, rfl⟩
                have hrel : (bb = true ∧ N = some S) ∨ (bb = false ∧ N = none) := by
                  rcases hNr with ⟨h, h'⟩ | ⟨h, h'⟩
                  · exact .inl ⟨h, by rw [hN2, h']⟩
                  · exact .inr ⟨h, by rw [hN2, h']⟩
                unfold setD
                rw [← hss]
                obtain ⟨sm, sn, su, sl, slo, shi⟩ := S
                simp only at hss
                conv => cbv
                exact ⟨_, upm _ ⟨⟨sm, sn, su, sl, slo, shi⟩, _, ss, bb, _, 0, _, rfl, .inl ⟨rfl, rfl⟩, hss, hrel⟩, ⟨⟨rfl, rfl, rfl, rfl, rfl, trivial⟩, ⟨rfl, rfl, rfl, rfl, trivial⟩, rfl⟩⟩
              | true =>
                rw [if_neg (by simp)] at hN2
                have cu' := cuA rfl
                obtain ⟨lo2, hlo2⟩ : ∃ x : Int, x = max lo lo' := ⟨_, rfl⟩
                obtain ⟨hi2, hhi2⟩ : ∃ x : Int, x = min hi hi' := ⟨_, rfl⟩
                rw [← hlo2, ← hhi2] at hN2
                have hmx : O .mx true lo lo' = lo2 := by rw [o_max hO, hlo2]
                have hmn : O .mx false hi hi' = hi2 := by rw [o_min hO, hhi2]
                have h34' := h34 lo2 hi2 K g33 c33 (by omega) (by unfold most least at *; omega) (by omega) (by unfold most least at *; omega) hKn hKs (by omega)
                rw [← hks] at h34'
                conv => cbv
                rw [hmx, hmn]
                refine shared_of0 h34' (by decide) ⟨rfl, trivial⟩ ?_
                rintro r34 ⟨S, bb, rfl, hNr⟩
                obtain ⟨ss, hss⟩ : ∃ ss, ss = S.l.map mkS := ⟨_, rfl⟩
                have hrel : (bb = true ∧ N = some S) ∨ (bb = false ∧ N = none) := by
                  rcases hNr with ⟨h, h'⟩ | ⟨h, h'⟩
                  · exact .inl ⟨h, by rw [hN2, h']⟩
                  · exact .inr ⟨h, by rw [hN2, h']⟩
                unfold setD
                rw [← hss]
                obtain ⟨sm, sn, su, sl, slo, shi⟩ := S
                simp only at hss
                conv => cbv
                exact ⟨_, upm _ ⟨⟨sm, sn, su, sl, slo, shi⟩, _, ss, bb, _, 0, _, rfl, .inl ⟨rfl, rfl⟩, hss, hrel⟩, ⟨⟨rfl, rfl, rfl, rfl, rfl, trivial⟩, ⟨rfl, rfl, rfl, rfl, trivial⟩, rfl⟩⟩
        · rintro d ⟨S, nl, ss, ok, sv, g9, tl, rfl, hsv, hss, hrel⟩
          have hcs : CleanL ss := cleanL_map clean_S hss
          obtain ⟨sm, sn, su, sl, slo, shi⟩ := S
          simp only at hss
          rcases hrel with ⟨rfl, hNs⟩ | ⟨rfl, hNs⟩
          · rw [hNs] at hr
            rcases hsv with ⟨rfl, rfl⟩ | ⟨rfl, rfl⟩
            · cases m <;> cases m' <;> (conv => cbv) <;> refine ⟨hcs, ?_⟩ <;> (conv => cbv) <;> (rw [hr]; simp only [setD]; rw [← hss]; rfl)
            · cases m <;> cases m' <;> (conv => cbv) <;> refine ⟨hcs, ?_⟩ <;> (conv => cbv) <;> (rw [hr]; simp only [setD]; rw [← hss]; rfl)
          · rw [hNs] at hr
            rcases hsv with ⟨rfl, rfl⟩ | ⟨rfl, rfl⟩
            · conv => cbv
              rw [hr]
              exact ⟨⟨rfl, rfl⟩, rfl⟩
            · conv => cbv
              rw [hr]
              exact ⟨⟨rfl, rfl⟩, rfl⟩
    · replace h2 := t_neq hO h2
      conv => cbv
      rw [hr, if_pos h2]
      exact ⟨⟨rfl, rfl⟩, rfl⟩
  · replace h1 := t_neq hO h1
    conv => cbv
    rw [hr, if_pos h1]
    exact ⟨⟨rfl, rfl⟩, rfl⟩
end Go.Proofs.AM
namespace Go.Proofs.AM
open Go Go.Lib Cd
abbrev PR3 : Ans := PR Tryz.prog (Gd Tryz.prog)
theorem pr3 {sh : List Nat} {f : Nat} {fn : Go.Func} {af : Func} (he : Enters Tryz.prog f) (hf : Tryz.prog.funcs[f]? = some fn) (hT : funcT Tryz.prog sh fn = some af.erase) {args : List D} {r : D} (h : AnsF PR3 af args r) : PR3.v f args r :=
  PR_of (Gd.grows _) follows_mixed he hf hT h
theorem k18 (s : Str) (hs : SL s) : PR3.v 14 [mkS s] (.bool (nameB s)) := pr3 E14 Tryz.func14 T14 (name18_ok _ s hs)
theorem k13 (s : Str) (hs : SL s) (v : Int) (b : Bool) (h : NumR s v b) : PR3.v 27 [mkS s] (.tup [.int .i64 v, .bool b]) := pr3 E27 Tryz.func27 T27 (number13_ok _ parse35 fmt36 s hs v b h)
theorem k19 (s : Str) (hs : SL s) : PR3.v 15 [mkS s] (.bool (valueB s)) := pr3 E15 Tryz.func15 T15 (value19_ok _ k18 k13 s hs)
theorem k69 (l : List Str) (hl : l.length < 4611686018427387904) (x : Str) : ∃ n : Int, PR3.v 60 [.sl 1 false (l.map mkS), mkS x] (.int .i64 n) ∧ (x ∈ l → 0 ≤ n) ∧ (x ∉ l → n = -1) := by
  obtain ⟨n, h1, h2⟩ := index69_ok PR3 l hl x
  exact ⟨n, pr3 E60 Tryz.func60 T60 h1, h2⟩
theorem k55 (l : List Str) (hl : l.length < 4611686018427387904) (x : Str) : PR3.v 41 [.sl 1 false (l.map mkS), mkS x] (.bool (decide (x ∈ l))) := pr3 E41 Tryz.func41 T41 (contains55_ok _ l x (k69 l hl x))
theorem k23 (s : SetV) (hs : FS s) : PR3.v 28 [setD s] (.int .i64 (checkE s)) := pr3 E28 Tryz.func28 T28 (check23_ok _ s hs k19 k13)
theorem fl_lt {l : List Str} (h : FL l) : l.length < 4611686018427387904 := by have := h.len; omega
theorem k43 (s : SetV) (x : Str) (hs : FS s) (hx : SL x) : PR3.v 29 [setD s, mkS x] (.bool (hasRaw s x)) := pr3 E29 Tryz.func29 T29 (has43_ok _ s x hx (k55 _ (fl_lt hs.l) x) k13)
theorem k26 (s : SetV) (x : Str) (hs : FS s) (hx : SL x) : PR3.v 16 [setD s, mkS x] (.bool (hasB s x)) := pr3 E16 Tryz.func16 T16 (has26_ok _ s x (k23 s hs) (k19 x hx) (k43 s x hs hx))
theorem k27 (s : SetV) (hs : FS s) : PR3.v 25 [setD s] (.bool (emptyB s)) := pr3 E25 Tryz.func25 T25 (empty27_ok _ s (k23 s hs))
theorem k33 (L : List (List Str)) (hL : L.length ≤ 8796093022208) (hl : ∀ l ∈ L, l.length ≤ 8796093022208) : PR3.v 30 [.sl 1 false (L.map lD)] (.mapv ((groupS L).map ent)) := pr3 E30 Tryz.func30 T30 (group33_ok _ L hL hl)
theorem k33s (L : List (List Str)) (hL : L.length ≤ 8796093022208) (hl : ∀ l ∈ L, l.length ≤ 8796093022208) : SCall PR3 300 30 [.sl 1 false (L.map lD)] [] (fun r kn => ∃ g c, r = .mapr 308 g ∧ kn = [(308, ⟨g, .rw, .map, .int .i64 c :: (groupS L).map ent⟩)]) :=
  SCall.of (Gd.grows _) follows_mixed E30 Tryz.func30 T30 ⟨rfl, by decide⟩ (group33_shared _ L hL hl)
theorem k34 (lo hi : Int) (h1 : least ≤ lo) (h2 : lo ≤ most + 1) (h3 : hi ≤ most) (h4 : least - 1 ≤ hi) : ∃ S b, PR3.v 32 [.int .i64 lo, .int .i64 hi, .mapv []] (.tup [setD S, .bool b]) ∧ NumsR lo hi [] S b := by
  obtain ⟨S, hS⟩ := numbersS_nil lo hi
  exact ⟨S, true, pr3 E32 Tryz.func32 T32 (numbers34_ok _ k13 fmt36 rising32 lo hi h1 h2 h3 h4 [] rfl (by simp) S true (.inl ⟨rfl, hS⟩)), .inl ⟨rfl, hS⟩⟩
theorem k34s (lo hi : Int) (K : List Str) (gm : Nat) (c0 : Int) (h1 : least ≤ lo) (h2 : lo ≤ most + 1) (h3 : hi ≤ most) (h4 : least - 1 ≤ hi) (hn : K.Nodup) (hs : ∀ s ∈ K, SL s) (hl : K.length ≤ 8796093022208) :
    SCall PR3 600 32 [.int .i64 lo, .int .i64 hi, .mapr 308 gm] [(308, ⟨gm, .rw, .map, .int .i64 c0 :: K.map ent⟩)] (fun r _ => ∃ S b, r = .tup [setD S, .bool b] ∧ NumsR lo hi K S b) :=
  SCall.of (Gd.grows _) follows_mixed E32 Tryz.func32 T32 ⟨rfl, by decide⟩ (numbers34_shared _ k13 fmt36 rising32 lo hi h1 h2 h3 h4 K hn hs hl gm c0)
theorem k48 (s : Str) (hs : SL s) : PR3.v 56 [mkS s] (.bool (!valueB s)) := pr3 E56 Tryz.func56 T56 (not48_ok _ s (k19 s hs))
theorem k56 (l : List Str) (hl : FL l) : ∃ n : Int, PR3.v 69 [.sl 1 false (l.map mkS), .fn 56 [] []] (.int .i64 n) ∧ ((∃ y ∈ l, (!valueB y) = true) → 0 ≤ n) ∧ ((∀ y ∈ l, (!valueB y) = false) → n = -1) := by
  obtain ⟨n, h1, h2⟩ := indexf56_ok PR3 56 (fun y => !valueB y) l hl.len fun y hy => k48 y (hl.all y hy)
  exact ⟨n, pr3 E69 Tryz.func69 T69 h1, h2⟩
theorem k47 (l : List Str) (hl : FL l) (b : Bool) (hb : b = true ↔ ∃ y ∈ l, (!valueB y) = true) : PR3.v 55 [.sl 1 false (l.map mkS), .fn 56 [] []] (.bool b) := pr3 E55 Tryz.func55 T55 (containsf47_ok PR3 56 (fun y => !valueB y) l b hb (k56 l hl))
theorem k31 (q : ReqV) (hq : FR q) : PR3.v 36 [reqD q] (.int .i64 (wrongE q)) := pr3 E36 Tryz.func36 T36 (wrong31_ok _ q hq k18 (fun b hb => k47 _ hq.l b hb) (k33 [q.l] (by simp) (by simpa using hq.l.len)))
theorem k12 (q : ReqV) (hq : FR q) : PR3.v 22 [reqD q] (.tup [setD (ofSet q), .int .i64 (wrongE q)]) := pr3 E22 Tryz.func22 T22 (of12_ok _ q hq (k31 q hq) k33 rising32 k34)
theorem k24 (a b : SetV) (ha : FS a) (hb : FS b) : PR3.v 17 [setD a, setD b] (.tup [setD (meetS a b).1, .int .i64 (meetS a b).2]) := pr3 E17 Tryz.func17 T17 (meet24_ok _ a b ha hb k23 k43 rising32 k33s k34s)
end Go.Proofs.AM
namespace Go.Proofs.AM
open Go Go.Lib
def CmpI : BinOp → Bool → Int → Int → Prop
  | .eql, true, a, b => a = b
  | .eql, false, a, b => a ≠ b
  | .neq, true, a, b => a ≠ b
  | .neq, false, a, b => a = b
  | .lss, true, a, b => a < b
  | .lss, false, a, b => b ≤ a
  | .leq, true, a, b => a ≤ b
  | .leq, false, a, b => b < a
  | .gtr, true, a, b => b < a
  | .gtr, false, a, b => a ≤ b
  | .geq, true, a, b => b ≤ a
  | .geq, false, a, b => a < b
  | _, _, _, _ => True
theorem ci {O : Ops} (hO : O = Ops.std) {op : BinOp} {t : Bool} {a b : Int} (h : t = O .icmp op a b) : CmpI op t a b := by
  cases op <;> cases t <;> first | trivial | exact f_eql hO h | exact t_eql hO h | exact f_neq hO h | exact t_neq hO h | exact f_lss hO h | exact t_lss hO h | exact f_leq hO h | exact t_leq hO h | exact f_gtr hO h | exact t_gtr hO h | exact f_geq hO h | exact t_geq hO h
def CmpS : BinOp → Bool → Str → Str → Prop
  | .eql, true, a, b => a = b
  | .eql, false, a, b => a ≠ b
  | .neq, true, a, b => a ≠ b
  | .neq, false, a, b => a = b
  | .lss, true, a, b => a < b
  | .lss, false, a, b => ¬ a < b
  | .geq, true, a, b => ¬ a < b
  | .geq, false, a, b => a < b
  | _, _, _, _ => True
theorem cs {O : Ops} (hO : O = Ops.std) {op : BinOp} {t : Bool} {a b : Str} (h : t = O .scmp op ⟨⟨a⟩⟩ ⟨⟨b⟩⟩) : CmpS op t a b := by
  cases op <;> cases t <;> first | trivial | exact f_seql hO h | exact t_seql hO h | exact f_sneq hO h | exact t_sneq hO h | exact f_slss hO h | exact t_slss hO h | exact f_sgeq hO h | exact t_sgeq hO h
def firstI : List Int → Int
  | [] => 0
  | x :: r => if x = 0 then firstI r else x
def wantI (b : Bool) (e : Int) : Int := if b then 0 else e
@[simp] theorem wantI_true (e : Int) : wantI true e = 0 := rfl
@[simp] theorem wantI_false (e : Int) : wantI false e = e := rfl
@[simp] theorem firstI_nil : firstI [] = 0 := rfl
theorem firstI_cons (x : Int) (r : List Int) : firstI (x :: r) = if x = 0 then firstI r else x := rfl
theorem firstI_zero {l : List Int} (h : ∀ x ∈ l, x = 0) : firstI l = 0 := by
  induction l with
  | nil => rfl
  | cons x r ih => rw [firstI_cons, if_pos (h x (by simp)), ih fun y hy => h y (by simp [hy])]
theorem firstI_hit {l : List Int} {k : Nat} {x : Int} (h : l[k]? = some x) (hx : x ≠ 0) (h0 : ∀ j y, j < k → l[j]? = some y → y = 0) : firstI l = x := by
  induction l generalizing k with
  | nil => simp at h
  | cons y r ih =>
    rw [firstI_cons]
    cases k with
    | zero => simp at h; subst h; rw [if_neg hx]
    | succ k =>
      rw [if_pos (h0 0 y (by omega) rfl)]
      exact ih (by simpa using h) fun j z hj hz => h0 (j + 1) z (by omega) (by simpa using hz)
theorem firstI_eq_zero {l : List Int} (h : firstI l = 0) : ∀ x ∈ l, x = 0 := by
  induction l with
  | nil => simp
  | cons y r ih =>
    rw [firstI_cons] at h
    split at h
    · intro x hx
      rcases List.mem_cons.1 hx with rfl | hx
      · assumption
      · exact ih h x hx
    · exact absurd h ‹_›
def scanE (g : Nat → Int) (n : Nat) : Int := firstI ((List.range n).map g)
theorem scanE_hit {g : Nat → Int} {n k : Nat} {x : Int} (hk : k < n) (h0 : ∀ j, j < k → g j = 0) (hx : x = g k) (h : x ≠ 0) : scanE g n = x := by
  subst hx
  exact firstI_hit (k := k) (by simp [hk]) h fun j y hj hy => by
    rw [List.getElem?_map, List.getElem?_range (by omega)] at hy
    simp only [Option.map_some, Option.some.injEq] at hy
    rw [← hy, h0 j hj]
theorem scanE_end {g : Nat → Int} {n : Nat} (h0 : ∀ j, j < n → g j = 0) : scanE g n = 0 :=
  firstI_zero fun x hx => by
    obtain ⟨j, hj, rfl⟩ := List.mem_map.1 hx
    exact h0 j (by simpa using hj)
theorem scan_step {g : Nat → Int} {k : Nat} (h : ∀ j, j < k → g j = 0) (h2 : g k = 0) : ∀ j, j < k + 1 → g j = 0 := fun j hj => by
  rcases Nat.lt_succ_iff_lt_or_eq.1 hj with h1 | rfl
  · exact h j h1
  · exact h2
def atE {α : Type} (f : α → Int) (l : List α) (i : Nat) : Int := match l[i]? with | some x => f x | none => 0
theorem atE_some {α : Type} {f : α → Int} {l : List α} {i : Nat} {x : α} (h : l[i]? = some x) : atE f l i = f x := by unfold atE; rw [h]
structure LabV where
  k : Str
  v : Str
  deriving DecidableEq
structure TolV where
  k : Str
  v : Str
  y : Bool
  deriving DecidableEq
structure SprV where
  k : Str
  a : Str
  n : Int
  deriving DecidableEq
structure OffV where
  t : Str
  z : Str
  k : Str
  deriving DecidableEq
structure CoolV where
  o : OffV
  u : Int
  deriving DecidableEq
structure PodV where
  name : Str
  app : Str
  n0 : Int
  n1 : Int
  prio : Int
  reqs : List ReqV
  tols : List TolV
  spr : List SprV
  near : List LabV
  apart : List LabV
  since : Int
  on : Str
structure PoolV where
  name : Str
  weight : Int
  l0 : Int
  l1 : Int
  reqs : List ReqV
  taints : List LabV
  gen : Int
  expire : Int
  budget : Int
  merge : Int
structure ClaimV where
  name : Str
  pool : Str
  gen : Int
  off : OffV
  price : Int
  c0 : Int
  c1 : Int
  opts : List OffV
  tries : Int
  id : Str
  phase : Int
  born : Int
  marked : Bool
structure CmdV where
  cause : Int
  nodes : List Str
  stp : Int
  til : Int
  fresh : Str
  pool : Str
  opts : List OffV
  made : Bool
structure AnyV where
  kind : Int
  pod : PodV
  pool : PoolV
  claim : ClaimV
  cmd : CmdV
  cool : CoolV
structure FLs {α : Type} (F : α → Prop) (l : List α) : Prop where
  len : l.length ≤ 8796093022208
  all : ∀ x ∈ l, F x
theorem FLs.lt {α : Type} {F : α → Prop} {l : List α} (h : FLs F l) : l.length < 4611686018427387904 := by have := h.len; omega
structure FLab (x : LabV) : Prop where
  k : SL x.k
  v : SL x.v
structure FTol (x : TolV) : Prop where
  k : SL x.k
  v : SL x.v
structure FSpr (x : SprV) : Prop where
  k : SL x.k
  a : SL x.a
  n : FI x.n
structure FO (x : OffV) : Prop where
  t : SL x.t
  z : SL x.z
  k : SL x.k
structure FCool (x : CoolV) : Prop where
  o : FO x.o
  u : FI x.u
structure FPod (p : PodV) : Prop where
  name : SL p.name
  app : SL p.app
  n0 : FI p.n0
  n1 : FI p.n1
  prio : FI p.prio
  reqs : FLs FR p.reqs
  tols : FLs FTol p.tols
  spr : FLs FSpr p.spr
  near : FLs FLab p.near
  apart : FLs FLab p.apart
  since : FI p.since
  on : SL p.on
structure FPool (p : PoolV) : Prop where
  name : SL p.name
  weight : FI p.weight
  l0 : FI p.l0
  l1 : FI p.l1
  reqs : FLs FR p.reqs
  taints : FLs FLab p.taints
  gen : FI p.gen
  expire : FI p.expire
  budget : FI p.budget
  merge : FI p.merge
structure FClaim (c : ClaimV) : Prop where
  name : SL c.name
  pool : SL c.pool
  gen : FI c.gen
  off : FO c.off
  price : FI c.price
  c0 : FI c.c0
  c1 : FI c.c1
  opts : FLs FO c.opts
  tries : FI c.tries
  id : SL c.id
  phase : FI c.phase
  born : FI c.born
structure FCmd (c : CmdV) : Prop where
  cause : FI c.cause
  nodes : FL c.nodes
  stp : FI c.stp
  til : FI c.til
  fresh : SL c.fresh
  pool : SL c.pool
  opts : FLs FO c.opts
structure FAny (x : AnyV) : Prop where
  kind : FI x.kind
  pod : FPod x.pod
  pool : FPool x.pool
  claim : FClaim x.claim
  cmd : FCmd x.cmd
  cool : FCool x.cool
def labD (x : LabV) : D := .agg [mkS x.k, mkS x.v]
def tolD (x : TolV) : D := .agg [mkS x.k, mkS x.v, .bool x.y]
def sprD (x : SprV) : D := .agg [mkS x.k, mkS x.a, .int .i64 x.n]
def offD (x : OffV) : D := .agg [mkS x.t, mkS x.z, mkS x.k]
def coolC (x : CoolV) : List D := [mkS x.o.t, mkS x.o.z, mkS x.o.k, .int .i64 x.u]
def podC (p : PodV) : List D := [mkS p.name, mkS p.app, .int .i64 p.n0, .int .i64 p.n1, .int .i64 p.prio, .sl 4 false (p.reqs.map reqD), .sl 3 false (p.tols.map tolD), .sl 3 false (p.spr.map sprD), .sl 2 false (p.near.map labD), .sl 2 false (p.apart.map labD), .int .i64 p.since, mkS p.on]
def poolC (p : PoolV) : List D := [mkS p.name, .int .i64 p.weight, .int .i64 p.l0, .int .i64 p.l1, .sl 4 false (p.reqs.map reqD), .sl 2 false (p.taints.map labD), .int .i64 p.gen, .int .i64 p.expire, .int .i64 p.budget, .int .i64 p.merge]
def claimC (c : ClaimV) : List D := [mkS c.name, mkS c.pool, .int .i64 c.gen, mkS c.off.t, mkS c.off.z, mkS c.off.k, .int .i64 c.price, .int .i64 c.c0, .int .i64 c.c1, .sl 3 false (c.opts.map offD), .int .i64 c.tries, mkS c.id, .int .i64 c.phase, .int .i64 c.born, .bool c.marked]
def cmdC (c : CmdV) : List D := [.int .i64 c.cause, .sl 1 false (c.nodes.map mkS), .int .i64 c.stp, .int .i64 c.til, mkS c.fresh, mkS c.pool, .sl 3 false (c.opts.map offD), .bool c.made]
def coolD (x : CoolV) : D := .agg (coolC x)
def podD (p : PodV) : D := .agg (podC p)
def poolD (p : PoolV) : D := .agg (poolC p)
def claimD (c : ClaimV) : D := .agg (claimC c)
def cmdD (c : CmdV) : D := .agg (cmdC c)
def anyD (x : AnyV) : D := .agg (.int .i64 x.kind :: (podC x.pod ++ poolC x.pool ++ claimC x.claim ++ cmdC x.cmd ++ coolC x.cool))
def amtE (n : Int) : Int := if n < 0 then 11 else if 1125899906842624 < n then 10 else 0
def amtsE (a b : Int) : Int := if amtE a = 0 then amtE b else amtE a
noncomputable def nmB (o : OffV) : Bool := nameB o.t && (nameB o.z && nameB o.k)
def btw (n lo hi : Int) : Bool := decide (lo ≤ n) && decide (n ≤ hi)
noncomputable def noneB (s : Str) : Bool := decide (s = []) || nameB s
noncomputable def cool1E (c : CoolV) : Int := if nmB c.o then (if btw c.u 0 1099511627776 then 0 else 1) else 7
end Go.Proofs.AM
namespace Go.Proofs.AM
open Go Go.Lib
theorem reach_le' {n : Nat} (h : n ≤ reachBytes) : n ≤ 140737488355328 := by
  have : reachBytes = 140737488351232 := by decide
  omega
theorem fit_str {d : D} (h : FitL .str d) : ∃ s, d = mkS s ∧ SL s := by
  simp only [FitL] at h
  obtain ⟨s, rfl, hs⟩ := h
  exact ⟨s, rfl, reach_le' hs⟩
theorem fit_int {d : D} (h : FitL (.int .i64) d) : ∃ n, d = .int .i64 n ∧ FI n := by
  simp only [FitL] at h
  obtain ⟨n, rfl, hw⟩ := h
  have e1 : IntKind.i64.min = -9223372036854775808 := rfl
  have e2 : IntKind.i64.max = 9223372036854775807 := rfl
  simp [Lit.wf, e1, e2] at hw
  exact ⟨n, rfl, by unfold FI; omega⟩
theorem fit_bool {d : D} (h : FitL .bool d) : ∃ b, d = .bool b := by
  simpa only [FitL] using h
theorem fit_slice {α : Type} (F : α → Prop) (f : α → D) {sz bytes : Nat} {ag : Bool} {ls : List Lf} (hb : 16 ≤ bytes) (he : ∀ x cs, mkD ag cs = some x → FitLs ls cs → ∃ a, x = f a ∧ F a) {d : D} (h : FitL (.sl sz bytes ag ls) d) :
    ∃ l : List α, d = .sl sz false (l.map f) ∧ FLs F l := by
  simp only [FitL] at h
  obtain ⟨xs, rfl, hlen, hx⟩ := h
  have : ∀ xs : List D, (∀ x ∈ xs, ∃ cs, mkD ag cs = some x ∧ FitLs ls cs) → ∃ l : List α, xs = l.map f ∧ ∀ s ∈ l, F s := by
    intro xs
    induction xs with
    | nil => exact fun _ => ⟨[], rfl, by simp⟩
    | cons x xs ih =>
      intro h
      obtain ⟨l, rfl, hl⟩ := ih fun y hy => h y (by simp [hy])
      obtain ⟨cs, h1, h2⟩ := h x (by simp)
      obtain ⟨a, rfl, ha⟩ := he x cs h1 h2
      exact ⟨a :: l, rfl, fun y hy => by
        rcases List.mem_cons.1 hy with rfl | hy
        · exact ha
        · exact hl y hy⟩
  obtain ⟨l, rfl, hl⟩ := this xs hx
  refine ⟨l, rfl, ⟨?_, hl⟩⟩
  have h1 := reach_le' hlen
  simp only [List.length_map] at h1
  have h2 : l.length * 16 ≤ l.length * bytes := Nat.mul_le_mul_left _ hb
  omega
theorem fit_cons {l : Lf} {r : List Lf} {ds : List D} (h : FitLs (l :: r) ds) : ∃ d r', ds = d :: r' ∧ FitL l d ∧ FitLs r r' := by
  simpa only [FitLs] using h
theorem fit_nil {ds : List D} (h : FitLs [] ds) : ds = [] := by simpa only [FitLs] using h
theorem fit_app : ∀ {a b : List Lf} {ds : List D}, FitLs (a ++ b) ds → ∃ x y, ds = x ++ y ∧ FitLs a x ∧ FitLs b y
  | [], b, ds, h => ⟨[], ds, rfl, by simp only [FitLs], h⟩
  | l :: a, b, ds, h => by
    obtain ⟨d, r, rfl, h1, h2⟩ := fit_cons h
    obtain ⟨x, y, rfl, h3, h4⟩ := fit_app h2
    exact ⟨d :: x, y, rfl, by simp only [FitLs]; exact ⟨_, _, rfl, h1, h3⟩, h4⟩
theorem fit_texts {d : D} (h : FitL (.sl 1 16 false [.str]) d) : ∃ l, d = .sl 1 false (l.map mkS) ∧ FL l := by
  obtain ⟨l, h1, h2⟩ := fit_slice SL mkS (by omega) (fun x cs hm hc => by
    obtain ⟨d, _, rfl, h1, h2⟩ := fit_cons hc
    obtain rfl := fit_nil h2
    obtain ⟨s, rfl, hs⟩ := fit_str h1
    simp only [mkD, Option.some.injEq] at hm
    exact ⟨s, hm.symm, hs⟩) h
  exact ⟨l, h1, ⟨h2.len, h2.all⟩⟩
abbrev reqLs : List Lf := [.str, .int .i64, .sl 1 16 false [.str], .int .i64]
theorem fit_reqs {d : D} (h : FitL (.sl 4 56 true reqLs) d) : ∃ l, d = .sl 4 false (l.map reqD) ∧ FLs FR l :=
  fit_slice FR reqD (by omega) (fun x cs hm hc => by
    obtain ⟨_, _, rfl, a, hc⟩ := fit_cons hc
    obtain ⟨_, _, rfl, b, hc⟩ := fit_cons hc
    obtain ⟨_, _, rfl, c, hc⟩ := fit_cons hc
    obtain ⟨_, _, rfl, e, hc⟩ := fit_cons hc
    obtain rfl := fit_nil hc
    obtain ⟨k, rfl, hk⟩ := fit_str a
    obtain ⟨o, rfl, ho⟩ := fit_int b
    obtain ⟨l, rfl, hl⟩ := fit_texts c
    obtain ⟨n, rfl, hn⟩ := fit_int e
    simp only [mkD, Option.some.injEq] at hm
    exact ⟨⟨k, o, l, n⟩, hm.symm, hk, hl, ho, hn⟩) h
theorem fit_tols {d : D} (h : FitL (.sl 3 40 true [.str, .str, .bool]) d) : ∃ l, d = .sl 3 false (l.map tolD) ∧ FLs FTol l :=
  fit_slice FTol tolD (by omega) (fun x cs hm hc => by
    obtain ⟨_, _, rfl, a, hc⟩ := fit_cons hc
    obtain ⟨_, _, rfl, b, hc⟩ := fit_cons hc
    obtain ⟨_, _, rfl, c, hc⟩ := fit_cons hc
    obtain rfl := fit_nil hc
    obtain ⟨k, rfl, hk⟩ := fit_str a
    obtain ⟨v, rfl, hv⟩ := fit_str b
    obtain ⟨y, rfl⟩ := fit_bool c
    simp only [mkD, Option.some.injEq] at hm
    exact ⟨⟨k, v, y⟩, hm.symm, hk, hv⟩) h
theorem fit_sprs {d : D} (h : FitL (.sl 3 40 true [.str, .str, .int .i64]) d) : ∃ l, d = .sl 3 false (l.map sprD) ∧ FLs FSpr l :=
  fit_slice FSpr sprD (by omega) (fun x cs hm hc => by
    obtain ⟨_, _, rfl, a, hc⟩ := fit_cons hc
    obtain ⟨_, _, rfl, b, hc⟩ := fit_cons hc
    obtain ⟨_, _, rfl, c, hc⟩ := fit_cons hc
    obtain rfl := fit_nil hc
    obtain ⟨k, rfl, hk⟩ := fit_str a
    obtain ⟨v, rfl, hv⟩ := fit_str b
    obtain ⟨n, rfl, hn⟩ := fit_int c
    simp only [mkD, Option.some.injEq] at hm
    exact ⟨⟨k, v, n⟩, hm.symm, hk, hv, hn⟩) h
theorem fit_labs {d : D} (h : FitL (.sl 2 32 true [.str, .str]) d) : ∃ l, d = .sl 2 false (l.map labD) ∧ FLs FLab l :=
  fit_slice FLab labD (by omega) (fun x cs hm hc => by
    obtain ⟨_, _, rfl, a, hc⟩ := fit_cons hc
    obtain ⟨_, _, rfl, b, hc⟩ := fit_cons hc
    obtain rfl := fit_nil hc
    obtain ⟨k, rfl, hk⟩ := fit_str a
    obtain ⟨v, rfl, hv⟩ := fit_str b
    simp only [mkD, Option.some.injEq] at hm
    exact ⟨⟨k, v⟩, hm.symm, hk, hv⟩) h
theorem fit_offs {d : D} (h : FitL (.sl 3 48 true [.str, .str, .str]) d) : ∃ l, d = .sl 3 false (l.map offD) ∧ FLs FO l :=
  fit_slice FO offD (by omega) (fun x cs hm hc => by
    obtain ⟨_, _, rfl, a, hc⟩ := fit_cons hc
    obtain ⟨_, _, rfl, b, hc⟩ := fit_cons hc
    obtain ⟨_, _, rfl, c, hc⟩ := fit_cons hc
    obtain rfl := fit_nil hc
    obtain ⟨k, rfl, hk⟩ := fit_str a
    obtain ⟨v, rfl, hv⟩ := fit_str b
    obtain ⟨n, rfl, hn⟩ := fit_str c
    simp only [mkD, Option.some.injEq] at hm
    exact ⟨⟨k, v, n⟩, hm.symm, hk, hv, hn⟩) h
abbrev podLs : List Lf := [.str, .str, .int .i64, .int .i64, .int .i64, .sl 4 56 true reqLs, .sl 3 40 true [.str, .str, .bool], .sl 3 40 true [.str, .str, .int .i64], .sl 2 32 true [.str, .str], .sl 2 32 true [.str, .str], .int .i64, .str]
abbrev poolLs : List Lf := [.str, .int .i64, .int .i64, .int .i64, .sl 4 56 true reqLs, .sl 2 32 true [.str, .str], .int .i64, .int .i64, .int .i64, .int .i64]
abbrev claimLs : List Lf := [.str, .str, .int .i64, .str, .str, .str, .int .i64, .int .i64, .int .i64, .sl 3 48 true [.str, .str, .str], .int .i64, .str, .int .i64, .int .i64, .bool]
abbrev cmdLs : List Lf := [.int .i64, .sl 1 16 false [.str], .int .i64, .int .i64, .str, .str, .sl 3 48 true [.str, .str, .str], .bool]
abbrev coolLs : List Lf := [.str, .str, .str, .int .i64]
theorem fit_pod {cs : List D} (h : FitLs podLs cs) : ∃ p, cs = podC p ∧ FPod p := by
  obtain ⟨_, _, rfl, a1, h⟩ := fit_cons h
  obtain ⟨_, _, rfl, a2, h⟩ := fit_cons h
  obtain ⟨_, _, rfl, a3, h⟩ := fit_cons h
  obtain ⟨_, _, rfl, a4, h⟩ := fit_cons h
  obtain ⟨_, _, rfl, a5, h⟩ := fit_cons h
  obtain ⟨_, _, rfl, a6, h⟩ := fit_cons h
  obtain ⟨_, _, rfl, a7, h⟩ := fit_cons h
  obtain ⟨_, _, rfl, a8, h⟩ := fit_cons h
  obtain ⟨_, _, rfl, a9, h⟩ := fit_cons h
  obtain ⟨_, _, rfl, a10, h⟩ := fit_cons h
  obtain ⟨_, _, rfl, a11, h⟩ := fit_cons h
  obtain ⟨_, _, rfl, a12, h⟩ := fit_cons h
  obtain rfl := fit_nil h
  obtain ⟨b1, rfl, c1⟩ := fit_str a1
  obtain ⟨b2, rfl, c2⟩ := fit_str a2
  obtain ⟨b3, rfl, c3⟩ := fit_int a3
  obtain ⟨b4, rfl, c4⟩ := fit_int a4
  obtain ⟨b5, rfl, c5⟩ := fit_int a5
  obtain ⟨b6, rfl, c6⟩ := fit_reqs a6
  obtain ⟨b7, rfl, c7⟩ := fit_tols a7
  obtain ⟨b8, rfl, c8⟩ := fit_sprs a8
  obtain ⟨b9, rfl, c9⟩ := fit_labs a9
  obtain ⟨b10, rfl, c10⟩ := fit_labs a10
  obtain ⟨b11, rfl, c11⟩ := fit_int a11
  obtain ⟨b12, rfl, c12⟩ := fit_str a12
  exact ⟨⟨b1, b2, b3, b4, b5, b6, b7, b8, b9, b10, b11, b12⟩, rfl, c1, c2, c3, c4, c5, c6, c7, c8, c9, c10, c11, c12⟩
theorem fit_pool {cs : List D} (h : FitLs poolLs cs) : ∃ p, cs = poolC p ∧ FPool p := by
  obtain ⟨_, _, rfl, a1, h⟩ := fit_cons h
  obtain ⟨_, _, rfl, a2, h⟩ := fit_cons h
  obtain ⟨_, _, rfl, a3, h⟩ := fit_cons h
  obtain ⟨_, _, rfl, a4, h⟩ := fit_cons h
  obtain ⟨_, _, rfl, a5, h⟩ := fit_cons h
  obtain ⟨_, _, rfl, a6, h⟩ := fit_cons h
  obtain ⟨_, _, rfl, a7, h⟩ := fit_cons h
  obtain ⟨_, _, rfl, a8, h⟩ := fit_cons h
  obtain ⟨_, _, rfl, a9, h⟩ := fit_cons h
  obtain ⟨_, _, rfl, a10, h⟩ := fit_cons h
  obtain rfl := fit_nil h
  obtain ⟨b1, rfl, c1⟩ := fit_str a1
  obtain ⟨b2, rfl, c2⟩ := fit_int a2
  obtain ⟨b3, rfl, c3⟩ := fit_int a3
  obtain ⟨b4, rfl, c4⟩ := fit_int a4
  obtain ⟨b5, rfl, c5⟩ := fit_reqs a5
  obtain ⟨b6, rfl, c6⟩ := fit_labs a6
  obtain ⟨b7, rfl, c7⟩ := fit_int a7
  obtain ⟨b8, rfl, c8⟩ := fit_int a8
  obtain ⟨b9, rfl, c9⟩ := fit_int a9
  obtain ⟨b10, rfl, c10⟩ := fit_int a10
  exact ⟨⟨b1, b2, b3, b4, b5, b6, b7, b8, b9, b10⟩, rfl, c1, c2, c3, c4, c5, c6, c7, c8, c9, c10⟩
theorem fit_claim {cs : List D} (h : FitLs claimLs cs) : ∃ c, cs = claimC c ∧ FClaim c := by
  obtain ⟨_, _, rfl, a1, h⟩ := fit_cons h
  obtain ⟨_, _, rfl, a2, h⟩ := fit_cons h
  obtain ⟨_, _, rfl, a3, h⟩ := fit_cons h
  obtain ⟨_, _, rfl, a4, h⟩ := fit_cons h
  obtain ⟨_, _, rfl, a5, h⟩ := fit_cons h
  obtain ⟨_, _, rfl, a6, h⟩ := fit_cons h
  obtain ⟨_, _, rfl, a7, h⟩ := fit_cons h
  obtain ⟨_, _, rfl, a8, h⟩ := fit_cons h
  obtain ⟨_, _, rfl, a9, h⟩ := fit_cons h
  obtain ⟨_, _, rfl, a10, h⟩ := fit_cons h
  obtain ⟨_, _, rfl, a11, h⟩ := fit_cons h
  obtain ⟨_, _, rfl, a12, h⟩ := fit_cons h
  obtain ⟨_, _, rfl, a13, h⟩ := fit_cons h
  obtain ⟨_, _, rfl, a14, h⟩ := fit_cons h
  obtain ⟨_, _, rfl, a15, h⟩ := fit_cons h
  obtain rfl := fit_nil h
  obtain ⟨b1, rfl, c1⟩ := fit_str a1
  obtain ⟨b2, rfl, c2⟩ := fit_str a2
  obtain ⟨b3, rfl, c3⟩ := fit_int a3
  obtain ⟨b4, rfl, c4⟩ := fit_str a4
  obtain ⟨b5, rfl, c5⟩ := fit_str a5
  obtain ⟨b6, rfl, c6⟩ := fit_str a6
  obtain ⟨b7, rfl, c7⟩ := fit_int a7
  obtain ⟨b8, rfl, c8⟩ := fit_int a8
  obtain ⟨b9, rfl, c9⟩ := fit_int a9
  obtain ⟨b10, rfl, c10⟩ := fit_offs a10
  obtain ⟨b11, rfl, c11⟩ := fit_int a11
  obtain ⟨b12, rfl, c12⟩ := fit_str a12
  obtain ⟨b13, rfl, c13⟩ := fit_int a13
  obtain ⟨b14, rfl, c14⟩ := fit_int a14
  obtain ⟨b15, rfl⟩ := fit_bool a15
  exact ⟨⟨b1, b2, b3, ⟨b4, b5, b6⟩, b7, b8, b9, b10, b11, b12, b13, b14, b15⟩, rfl, c1, c2, c3, ⟨c4, c5, c6⟩, c7, c8, c9, c10, c11, c12, c13, c14⟩
theorem fit_cmd {cs : List D} (h : FitLs cmdLs cs) : ∃ c, cs = cmdC c ∧ FCmd c := by
  obtain ⟨_, _, rfl, a1, h⟩ := fit_cons h
  obtain ⟨_, _, rfl, a2, h⟩ := fit_cons h
  obtain ⟨_, _, rfl, a3, h⟩ := fit_cons h
  obtain ⟨_, _, rfl, a4, h⟩ := fit_cons h
  obtain ⟨_, _, rfl, a5, h⟩ := fit_cons h
  obtain ⟨_, _, rfl, a6, h⟩ := fit_cons h
  obtain ⟨_, _, rfl, a7, h⟩ := fit_cons h
  obtain ⟨_, _, rfl, a8, h⟩ := fit_cons h
  obtain rfl := fit_nil h
  obtain ⟨b1, rfl, c1⟩ := fit_int a1
  obtain ⟨b2, rfl, c2⟩ := fit_texts a2
  obtain ⟨b3, rfl, c3⟩ := fit_int a3
  obtain ⟨b4, rfl, c4⟩ := fit_int a4
  obtain ⟨b5, rfl, c5⟩ := fit_str a5
  obtain ⟨b6, rfl, c6⟩ := fit_str a6
  obtain ⟨b7, rfl, c7⟩ := fit_offs a7
  obtain ⟨b8, rfl⟩ := fit_bool a8
  exact ⟨⟨b1, b2, b3, b4, b5, b6, b7, b8⟩, rfl, c1, c2, c3, c4, c5, c6, c7⟩
theorem fit_cool {cs : List D} (h : FitLs coolLs cs) : ∃ c, cs = coolC c ∧ FCool c := by
  obtain ⟨_, _, rfl, a1, h⟩ := fit_cons h
  obtain ⟨_, _, rfl, a2, h⟩ := fit_cons h
  obtain ⟨_, _, rfl, a3, h⟩ := fit_cons h
  obtain ⟨_, _, rfl, a4, h⟩ := fit_cons h
  obtain rfl := fit_nil h
  obtain ⟨b1, rfl, c1⟩ := fit_str a1
  obtain ⟨b2, rfl, c2⟩ := fit_str a2
  obtain ⟨b3, rfl, c3⟩ := fit_str a3
  obtain ⟨b4, rfl, c4⟩ := fit_int a4
  exact ⟨⟨⟨b1, b2, b3⟩, b4⟩, rfl, ⟨c1, c2, c3⟩, c4⟩
theorem fit_any {cs : List D} (h : FitLs (.int .i64 :: (podLs ++ poolLs ++ claimLs ++ cmdLs ++ coolLs)) cs) : ∃ x, .agg cs = anyD x ∧ FAny x := by
  obtain ⟨_, _, rfl, a1, h⟩ := fit_cons h
  obtain ⟨_, _, rfl, h, a6⟩ := fit_app h
  obtain ⟨_, _, rfl, h, a5⟩ := fit_app h
  obtain ⟨_, _, rfl, h, a4⟩ := fit_app h
  obtain ⟨_, _, rfl, a2, a3⟩ := fit_app h
  obtain ⟨b1, rfl, c1⟩ := fit_int a1
  obtain ⟨b2, rfl, c2⟩ := fit_pod a2
  obtain ⟨b3, rfl, c3⟩ := fit_pool a3
  obtain ⟨b4, rfl, c4⟩ := fit_claim a4
  obtain ⟨b5, rfl, c5⟩ := fit_cmd a5
  obtain ⟨b6, rfl, c6⟩ := fit_cool a6
  exact ⟨⟨b1, b2, b3, b4, b5, b6⟩, rfl, c1, c2, c3, c4, c5, c6⟩
end Go.Proofs.AM
namespace Go.Proofs.YtococcgeoknmjabGreatDoor
open Go Go.ChangeShapes Go.WideShapes Go.ChangeAt Go.WideMaps Go.WideElems Go.RowKit Go.Proofs.AM
set_option maxRecDepth 100000
theorem own : ownKnob Tryz.prog.godebug = none := by kernel_rfl
theorem laidOut : laidOutB Tryz.prog = true := by kernel_rfl
abbrev laid5 : List (String × DataW Unit) := [("math/bits.deBruijn32tab", Rows.laid_math_bits_deBruijn32tab), ("math/bits.deBruijn64tab", Rows.laid_math_bits_deBruijn64tab), ("internal/strconv.uint64pow10", Rows.laid_internal_strconv_uint64pow10), ("strconv.ErrRange", Rows.laid_strconv_ErrRange), ("strconv.ErrSyntax", Rows.laid_strconv_ErrSyntax)]
theorem door_met (os : Os) (args : Array Value) : laidMetH Tryz.prog laid5 ((World.doorLaid Tryz.prog 62 os).forCall (fun _ _ => 0) ⟨#[], args, []⟩).memory :=
  laidMetH_of_parts3 (fuel := 8) (laidMet_of_run' 8 (by kernel_rfl) (by kernel_rfl)) (by kernel_rfl) (by kernel_rfl)
theorem star : "*" ++ "errors.errorString" = "*errors.errorString" := by decide
theorem rowErr (u : TypeId) (h : Tryz.prog.typeName? 3 u = some "*errors.errorString") : u = 149 :=
  typeName_ptr_named (nm := "errors.errorString") (by rw [star]; kernel_rfl) (by kernel_rfl) (by decide) u (by rw [star]; exact h)
theorem of_laid {W : World} (h : laidMetH Tryz.prog laid5 W) : Gd Tryz.prog W := by
  rw [MakeChecks.laidMetH_plain _ _ _ (by kernel_rfl)] at h
  have h2 := h.tail.tail
  have h3 := h2.tail
  have h4 := h3.tail
  obtain ⟨a0, s0, hv0, -, -, -⟩ := laid_sentinel h3 (show Tryz.prog.globalNamed "strconv.ErrRange" = some 2 by kernel_rfl) (show (Tryz.prog.globals[2]?).map (·.type) = some 83 by kernel_rfl) Tryz.underlying83 rowErr Tryz.underlying149 Tryz.underlying151 rfl rfl Tryz.underlying9 (by kernel_rfl) (by kernel_rfl)
  obtain ⟨a1, s1, hv1, -, -, -⟩ := laid_sentinel h4 (show Tryz.prog.globalNamed "strconv.ErrSyntax" = some 1 by kernel_rfl) (show (Tryz.prog.globals[1]?).map (·.type) = some 83 by kernel_rfl) Tryz.underlying83 rowErr Tryz.underlying149 Tryz.underlying151 rfl rfl Tryz.underlying9 (by kernel_rfl) (by kernel_rfl)
  exact ⟨⟨_, _, hv1⟩, ⟨_, _, hv0⟩, Lib.tabIs_of_head (show Tryz.prog.globalNamed "internal/strconv.uint64pow10" = some 3 by kernel_rfl) (show (Tryz.prog.globals[3]?).map (·.type) = some 139 by kernel_rfl) Tryz.underlying139 Tryz.underlying104 (by kernel_rfl) (by kernel_rfl) h2⟩
theorem joined_split {P : Program} {f : FuncId} {fn : Func} {s : ChangeSpec} {c : OpenClaim}
    (k1 : (c.wf (OpenSpec.ofChange s) && laidOutB P && mapsRowed P && fn.params.all (P.readableRec ·) && namedTie P c.named s.vars && (c.stops == []) && (P.stops == []) && (c.knobs == []) && (P.stopKnobs == [])) = true)
    (k2 : (c.inPlace == P.inPlace f) = true) (k3 : (c.unfollowed == P.unfollowed f) = true) (k4 : (c.recurses == P.recurses f) = true) (k5 : (c.named == P.varsNamed f) = true)
    (k6 : ((c.maps == (fn.params.toList ++ s.plain.varTypes P).any (P.mapsRec ·)) && (c.ifaces == (fn.params.toList ++ s.plain.varTypes P).any (P.ifacesRec ·)) && (c.mapsOut == P.mapsAmong fn.resultTypes.toList) && (c.loops == (fn.params.toList ++ s.plain.varTypes P).any (P.loopsFrom ·)) && (c.wideKeys == (fn.params.toList ++ s.plain.varTypes P ++ fn.resultTypes.toList).any (P.wideKeysFrom ·))) = true)
    (k7 : (s.vars.all (P.varReadable ·) && fn.resultTypes.all (fun t => P.readableRec t && decide (t < P.types.size)) && (c.ifacesOut == fn.resultTypes.toList.any (P.ifacesRec ·)) && (c.loopsOut == fn.resultTypes.toList.any (P.loopsFrom ·))) = true)
    (k8 : (c.plainKeys == P.plainKeys) = true) (k9 : (c.shortTexts.isNone && P.stopsHeard && P.mayEnter) = true) (k10 : (c.lifted == P.liftsFinal) = true) (k11 : (P.make == some c.make) = true)
    (k12 : ((c.kinds == (if c.domain.isEmpty then [] else fn.params.toList.map fun t => match P.underlying t with | some (.int k) => some k | _ => none)) && (c.pinned == c.pinnedBy)) = true)
    (k13 : ((c.veiled == (fn.params.toList ++ s.plain.varTypes P ++ fn.resultTypes.toList).any (P.veiledRec ·)) && c.veiledFits P fn.params.toList (fn.params.toList ++ s.plain.varTypes P ++ fn.resultTypes.toList)) = true) : joinedFacts P f fn s c = true := by
  unfold joinedFacts
  simp only [Bool.and_eq_true] at k1 k6 k7 k9 k12 k13 ⊢
  obtain ⟨⟨⟨⟨⟨⟨⟨⟨a1, a2⟩, a3⟩, a4⟩, a5⟩, a6⟩, a7⟩, a8⟩, a9⟩ := k1
  obtain ⟨⟨⟨⟨b1, b2⟩, b3⟩, b4⟩, b5⟩ := k6
  obtain ⟨⟨⟨c1, c2⟩, c3⟩, c4⟩ := k7
  obtain ⟨⟨d1, d2⟩, d3⟩ := k9
  refine ⟨⟨⟨⟨⟨⟨⟨⟨⟨⟨⟨⟨⟨⟨⟨⟨⟨⟨⟨⟨⟨⟨⟨⟨⟨⟨⟨⟨⟨⟨⟨a1, a2⟩, a3⟩, a4⟩, a5⟩, a6⟩, a7⟩, a8⟩, a9⟩, k2⟩, k3⟩, k4⟩, k5⟩, b1⟩, b2⟩, b3⟩, b4⟩, b5⟩, c1⟩, c2⟩, c3⟩, c4⟩, k8⟩, d1⟩, d2⟩, d3⟩, k10⟩, k11⟩, k12.1⟩, k12.2⟩, k13.1⟩, k13.2⟩
abbrev Fits (t : TypeId) (x : D) : Prop := ∃ ls g cs, lfT Tryz.prog 20 t = some ls ∧ aggT Tryz.prog t = some g ∧ mkD g cs = some x ∧ FitLs ls cs
theorem fits_agg {t : TypeId} {ls : List Lf} (h1 : lfT Tryz.prog 20 t = some ls) (h2 : aggT Tryz.prog t = some true) {x : D} (h : Fits t x) : ∃ cs, x = .agg cs ∧ FitLs ls cs := by
  obtain ⟨ls', g, cs, a1, a2, a3, a4⟩ := h
  obtain rfl := Option.some.inj (h1.symm.trans a1)
  obtain rfl := Option.some.inj (h2.symm.trans a2)
  simp only [mkD, Option.some.injEq] at a3
  exact ⟨cs, a3.symm, a4⟩
theorem fits_one {t : TypeId} {l : Lf} (h1 : lfT Tryz.prog 20 t = some [l]) (h2 : aggT Tryz.prog t = some false) {x : D} (h : Fits t x) : FitL l x := by
  obtain ⟨ls', g, cs, a1, a2, a3, a4⟩ := h
  obtain rfl := Option.some.inj (h1.symm.trans a1)
  obtain rfl := Option.some.inj (h2.symm.trans a2)
  obtain ⟨d, _, rfl, b1, b2⟩ := fit_cons a4
  obtain rfl := fit_nil b2
  simp only [mkD, Option.some.injEq] at a3
  rwa [a3] at b1
theorem fits_int {x : D} (h : Fits 3 x) : ∃ n, x = .int .i64 n ∧ FI n := fit_int (fits_one (l := .int .i64) (by kernel_rfl) (by kernel_rfl) h)
theorem fits_str {x : D} (h : Fits 9 x) : ∃ s, x = mkS s ∧ SL s := fit_str (fits_one (l := .str) (by kernel_rfl) (by kernel_rfl) h)
theorem args_cons {t : TypeId} {ts : List TypeId} {xs : List D} (h : ArgsFit Tryz.prog (t :: ts) xs) : ∃ x r, xs = x :: r ∧ Fits t x ∧ ArgsFit Tryz.prog ts r := h
theorem args_nil {xs : List D} (h : ArgsFit Tryz.prog [] xs) : xs = [] := h
end Go.Proofs.YtococcgeoknmjabGreatDoor
namespace Go.Proofs.YtococcgeoknmjabGreatDoor
open Go Go.ChangeShapes Go.WideShapes Go.ChangeAt Go.WideMaps Go.WideElems Go.RowKit Go.Proofs.AM
set_option maxRecDepth 100000
theorem fits_reqs {x : D} (h : Fits 22 x) : ∃ l, x = .sl 4 false (l.map reqD) ∧ FLs FR l := fit_reqs (fits_one (l := .sl 4 56 true reqLs) (by kernel_rfl) (by kernel_rfl) h)
theorem fits_labs {x : D} (h : Fits 23 x) : ∃ l, x = .sl 2 false (l.map labD) ∧ FLs FLab l := fit_labs (fits_one (l := .sl 2 32 true [.str, .str]) (by kernel_rfl) (by kernel_rfl) h)
end Go.Proofs.YtococcgeoknmjabGreatDoor
