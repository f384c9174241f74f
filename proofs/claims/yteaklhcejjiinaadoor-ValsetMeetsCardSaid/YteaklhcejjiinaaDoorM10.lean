/- Part 10 of the lemmas: VVo, VVp, VVq, VVr, VVs, VVt, VVu, VVv, VVw, VVx, GLc, GLd, GLe, PVj. -/
import Derived.Test.YteaklhcejjiinaaDoorM08
import Derived.Test.YteaklhcejjiinaaDoorM06
import Derived.Test.YteaklhcejjiinaaDoorM07
import Derived.Test.YteaklhcejjiinaaDoorM09
import Derived.Test.YteaklhcejjiinaaDoorCards
import Derived.Test.YteaklhcejjiinaaDoorTie
import Derived.ProofKit
import Derived.LaidMore
import Derived.OpenShut
import Derived.Stop.Joined
import Derived.Stop.LaidErr
import Derived.SevenTiedAt
namespace Go.Proofs.AM
open Go Go.Lib Cd
theorem risingS_snoc (l : List Str) (z : Str) : risingS (l ++ [z]) = putS z (risingS l) := by unfold risingS; rw [List.foldl_append]; rfl
set_option maxRecDepth 100000 in
set_option maxHeartbeats 8000000 in
theorem numbers40_ok (R : Ans) (h15 : ∀ s, SL s → ∀ v b, NumR s v b → R.v 15 [mkS s] (.tup [.int .i64 v, .bool b])) (h37 : ∀ n, FI n → R.v 37 [.int .i64 n] (mkS (itoa n)))
    (h45 : ∀ (l : List Str) (x : Str), l.length < 4611686018427387904 → R.v 45 [.sl 1 false (l.map mkS), mkS x] (.bool (decide (x ∈ l))))
    (h54 : ∀ (l : List Str) (x : Str), l.length < 8796093022208 → R.v 54 [.sl 1 false (l.map mkS), mkS x] (.sl 1 false ((putS x l).map mkS)))
    (lo0 hi0 : Int) (hb1 : least ≤ lo0) (hb2 : lo0 ≤ most + 1) (hb3 : hi0 ≤ most) (hb4 : least - 1 ≤ hi0) (K : List Str) (hK : FL K) :
    ∃ S b, AnsF R c40 [.int .i64 lo0, .int .i64 hi0, .sl 1 false (K.map mkS)] (.tup [setD S, .bool b]) ∧ NumsR lo0 hi0 K S b ∧ (b = false → S = ⟨false, false, false, [], 0, 0⟩) := by
  have hKl := hK.len
  have hKs := hK.all
  clear hK
  unfold least at hb1 hb4
  unfold most at hb2 hb3
  obtain ⟨S, b, hS, hSz⟩ : ∃ S b, NumsR lo0 hi0 K S b ∧ (b = false → S = ⟨false, false, false, [], 0, 0⟩) := by
    cases h : numbersS lo0 hi0 K with
    | none => exact ⟨_, false, .inr ⟨rfl, h⟩, fun _ => rfl⟩
    | some S => exact ⟨S, true, .inl ⟨rfl, h⟩, by simp⟩
  refine ⟨S, b, ?_, hS, hSz⟩
  obtain ⟨xs, hxs⟩ : ∃ xs, xs = K.map mkS := ⟨_, rfl⟩
  have hcx : CleanL xs := cleanL_map clean_S hxs
  obtain ⟨r, hrr⟩ : ∃ r, r = D.tup [setD S, .bool b] := ⟨_, rfl⟩
  rw [← hxs, ← hrr]
  refine wpF_sound ⟨rfl, by decide⟩ fun O hO V hV => ?_
  subst hV
  have hlen : O .len xs = K.length := by rw [o_len hO, hxs]; simp
  have fmt : ∀ x : Int, FI x → ∃ z : Str, V.v 37 [.int .i64 x] (.str ⟨⟨z⟩⟩) ∧ z = itoa x := fun x hx => ⟨_, h37 x hx, rfl⟩
  have isin : ∀ z : Str, ∃ q, V.v 45 [.sl 1 false xs, .str ⟨⟨z⟩⟩] (.bool q) ∧ (q = true → z ∈ K) ∧ (q = false → z ∉ K) := fun z => ⟨_, by rw [hxs]; exact h45 K z (by omega), by simp, by simp⟩
  conv => cbv
  refine join_of (fun d => ∃ x : Int, d = ⟨[(0, .int .i64 x), (1, .int .i64 hi0), (2, .sl 1 false xs), (6, .ptr 6 1 0)], [(6, ⟨1, .rw, .var, [.bool false, .bool false, .bool false, .sl 1 true [], .int .i64 0, .int .i64 0]⟩)], false⟩ ∧ x = upS hi0 K lo0) (fun M upm => ?_) ?_
  · conv => cbv
    refine loop_of (fun n d => ∃ x : Int, d = ⟨[(0, .int .i64 x), (1, .int .i64 hi0), (2, .sl 1 false xs), (6, .ptr 6 1 0)], [(6, ⟨1, .rw, .var, [.bool false, .bool false, .bool false, .sl 1 true [], .int .i64 0, .int .i64 0]⟩)], false⟩ ∧ n = (hi0 + 1 - x).toNat ∧ (x ≤ hi0 + 1 ∨ x = lo0) ∧ lo0 ≤ x ∧ upS hi0 K x = upS hi0 K lo0) ⟨_, _, ⟨_, rfl, rfl, .inr rfl, Int.le_refl _, rfl⟩, ⟨⟨rfl, rfl, rfl, rfl, trivial⟩, ⟨rfl, trivial⟩, rfl⟩⟩ ?_
    rintro J up n d ⟨x, rfl, rfl, hx1, hx2, hx3⟩
    conv => cbv
    rintro (_ | _) h1
    · replace h1 := f_leq hO h1
      conv => cbv
      exact ⟨_, upm _ ⟨x, rfl, by rw [← hx3, upS_stop (fun h => by omega)]⟩, ⟨⟨rfl, rfl, rfl, rfl, trivial⟩, ⟨rfl, trivial⟩, rfl⟩⟩
    · replace h1 := t_leq hO h1
      conv => cbv
      obtain ⟨z, hz, hzi⟩ := fmt x (by unfold FI; omega)
      refine ⟨_, hz, ?_⟩
      conv => cbv
      obtain ⟨q, hq, hqt, hqf⟩ := isin z
      refine ⟨hcx, _, hq, ?_⟩
      cases q with
      | true =>
        have hm := hqt rfl
        conv => cbv
        refine ⟨_, _, up _ _ ⟨_, rfl, rfl, ?_, ?_, ?_⟩, ⟨⟨rfl, rfl, rfl, rfl, trivial⟩, ⟨rfl, trivial⟩, rfl⟩, ?_⟩
        all_goals rw [o_add64 hO (by omega) (by omega)]
        · omega
        · omega
        · rw [← hx3, ← upS_step ⟨h1, by rw [← hzi]; exact hm⟩]
        · omega
      | false =>
        have hm := hqf rfl
        conv => cbv
        exact ⟨_, upm _ ⟨x, rfl, by rw [← hx3, upS_stop (fun h => hm (by rw [hzi]; exact h.2))]⟩, ⟨⟨rfl, rfl, rfl, rfl, trivial⟩, ⟨rfl, trivial⟩, rfl⟩⟩
  rintro d ⟨x, rfl, hx⟩
  have hxb := upS_ge (hi := hi0) (K := K) _ lo0 (Nat.le_refl _)
  rw [← hx] at hxb
  conv => cbv
  refine join_of (fun d => ∃ y : Int, d = ⟨[(0, .int .i64 x), (1, .int .i64 y), (2, .sl 1 false xs), (6, .ptr 6 1 0)], [(6, ⟨1, .rw, .var, [.bool false, .bool false, .bool false, .sl 1 true [], .int .i64 0, .int .i64 0]⟩)], false⟩ ∧ y = dnS x K hi0) (fun M upm => ?_) ?_
  · conv => cbv
    refine loop_of (fun n d => ∃ y : Int, d = ⟨[(0, .int .i64 x), (1, .int .i64 y), (2, .sl 1 false xs), (6, .ptr 6 1 0)], [(6, ⟨1, .rw, .var, [.bool false, .bool false, .bool false, .sl 1 true [], .int .i64 0, .int .i64 0]⟩)], false⟩ ∧ n = (y + 1 - x).toNat ∧ (x - 1 ≤ y ∨ y = hi0) ∧ y ≤ hi0 ∧ dnS x K y = dnS x K hi0) ⟨_, _, ⟨_, rfl, rfl, .inr rfl, Int.le_refl _, rfl⟩, ⟨⟨rfl, rfl, rfl, rfl, trivial⟩, ⟨rfl, trivial⟩, rfl⟩⟩ ?_
    rintro J up n d ⟨y, rfl, rfl, hx1, hx2, hx3⟩
    conv => cbv
    rintro (_ | _) h1
    · replace h1 := f_leq hO h1
      conv => cbv
      exact ⟨_, upm _ ⟨y, rfl, by rw [← hx3, dnS_stop (fun h => by omega)]⟩, ⟨⟨rfl, rfl, rfl, rfl, trivial⟩, ⟨rfl, trivial⟩, rfl⟩⟩
    · replace h1 := t_leq hO h1
      conv => cbv
      obtain ⟨z, hz, hzi⟩ := fmt y (by unfold FI; omega)
      refine ⟨_, hz, ?_⟩
      conv => cbv
      obtain ⟨q, hq, hqt, hqf⟩ := isin z
      refine ⟨hcx, _, hq, ?_⟩
      cases q with
      | true =>
        have hm := hqt rfl
        conv => cbv
        refine ⟨_, _, up _ _ ⟨_, rfl, rfl, ?_, ?_, ?_⟩, ⟨⟨rfl, rfl, rfl, rfl, trivial⟩, ⟨rfl, trivial⟩, rfl⟩, ?_⟩
        all_goals rw [o_sub64 hO (by omega) (by omega)]
        · omega
        · omega
        · rw [← hx3, ← dnS_step ⟨h1, by rw [← hzi]; exact hm⟩]
        · omega
      | false =>
        have hm := hqf rfl
        conv => cbv
        exact ⟨_, upm _ ⟨y, rfl, by rw [← hx3, dnS_stop (fun h => hm (by rw [hzi]; exact h.2))]⟩, ⟨⟨rfl, rfl, rfl, rfl, trivial⟩, ⟨rfl, trivial⟩, rfl⟩⟩
  rintro d ⟨y, rfl, hy⟩
  have hyb := dnS_le (lo := x) (K := K) _ hi0 (Nat.le_refl _)
  rw [← hy] at hyb
  conv => cbv
  refine join_of (fun d => ∃ (nl : Bool) (vs : List D), d = ⟨[(0, .int .i64 x), (1, .int .i64 y), (6, .ptr 6 1 0), (12, .sl 1 nl vs)], [(6, ⟨1, .rw, .var, [.bool false, .bool false, .bool false, .sl 1 true [], .int .i64 0, .int .i64 0]⟩)], false⟩ ∧ vs = (valsN x y K).map mkS) (fun M upm => ?_) ?_
  · conv => cbv
    refine loop_of (fun n d => ∃ (i : Int) (k : Nat) (nl : Bool) (vs : List D), d = ⟨[(0, .int .i64 x), (1, .int .i64 y), (2, .sl 1 false xs), (6, .ptr 6 1 0), (12, .sl 1 nl vs), (13, .int .i64 i)], [(6, ⟨1, .rw, .var, [.bool false, .bool false, .bool false, .sl 1 true [], .int .i64 0, .int .i64 0]⟩)], false⟩ ∧ i = k ∧ k ≤ K.length ∧ n = K.length - k ∧ vs = (risingS ((K.take k).filter (inR x y))).map mkS) ⟨_, _, ⟨_, 0, _, _, rfl, rfl, by omega, rfl, by simp [risingS]⟩, ⟨⟨rfl, rfl, rfl, rfl, rfl, rfl, trivial⟩, ⟨rfl, trivial⟩, rfl⟩⟩ ?_
    rintro J up n d ⟨i, k, nl, vs, rfl, hi, hk, rfl, hvs⟩
    have hcv : CleanL vs := cleanL_map clean_S hvs
    conv => cbv
    rintro (_ | _) h1
    · replace h1 := f_lss hO h1
      rw [hlen] at h1
      conv => cbv
      exact ⟨_, upm _ ⟨nl, vs, rfl, by rw [hvs, List.take_of_length_le (by omega)]; rfl⟩, ⟨⟨rfl, rfl, rfl, rfl, trivial⟩, ⟨rfl, trivial⟩, rfl⟩⟩
    · replace h1 := t_lss hO h1
      rw [hlen] at h1
      conv => cbv
      obtain ⟨z, hz⟩ : ∃ z, K[k]? = some z := ⟨_, List.getElem?_eq_getElem (by omega)⟩
      obtain ⟨v, bb, hvb⟩ := NumR.ex z
      have hv := h15 z (hKs z (List.mem_of_getElem? hz)) v bb hvb
      have hadd : O .iop .add .i64 i 1 = ((k + 1 : Nat) : Int) := by rw [o_add64 hO (by omega) (by omega)]; omega
      have hno : inR x y z = false → vs = (risingS ((K.take (k + 1)).filter (inR x y))).map mkS := fun h => by rw [hvs, List.take_add_one, hz, List.filter_append]; simp [h]
      have hyes : inR x y z = true → (risingS ((K.take (k + 1)).filter (inR x y))) = putS z (risingS ((K.take k).filter (inR x y))) := fun h => by
        rw [List.take_add_one, hz, List.filter_append, ← risingS_snoc]; simp [h]
      have hbad : (¬ ∃ n, numS z = some n ∧ x < n ∧ n < y) → inR x y z = false := fun h => by
        cases hi : inR x y z with
        | false => rfl
        | true => exact absurd (inR_iff.1 hi) h
      refine ⟨mkS z, atX_map hz hxs hi, ?_⟩
      conv => cbv
      refine ⟨_, hv, ?_⟩
      cases bb with
      | false =>
        conv => cbv
        exact ⟨_, _, up _ _ ⟨_, k + 1, nl, vs, rfl, hadd, by omega, rfl, hno (hbad fun ⟨n, hn, _⟩ => by have := (hvb.of hn).1; simp at this)⟩, ⟨⟨rfl, rfl, rfl, rfl, rfl, rfl, trivial⟩, ⟨rfl, trivial⟩, rfl⟩, by omega⟩
      | true =>
        have hnum : numS z = some v := by
          rcases hvb with ⟨_, h⟩ | ⟨h, _⟩
          · exact h
          · simp at h
        conv => cbv
        rintro (_ | _) h2
        · replace h2 := f_gtr hO h2
          conv => cbv
          exact ⟨_, _, up _ _ ⟨_, k + 1, nl, vs, rfl, hadd, by omega, rfl, hno (hbad fun ⟨n, hn, h8, h9⟩ => by rw [hnum] at hn; simp only [Option.some.injEq] at hn; omega)⟩, ⟨⟨rfl, rfl, rfl, rfl, rfl, rfl, trivial⟩, ⟨rfl, trivial⟩, rfl⟩, by omega⟩
        · replace h2 := t_gtr hO h2
          conv => cbv
          rintro (_ | _) h3
          · replace h3 := f_lss hO h3
            conv => cbv
            exact ⟨_, _, up _ _ ⟨_, k + 1, nl, vs, rfl, hadd, by omega, rfl, hno (hbad fun ⟨n, hn, h8, h9⟩ => by rw [hnum] at hn; simp only [Option.some.injEq] at hn; omega)⟩, ⟨⟨rfl, rfl, rfl, rfl, rfl, rfl, trivial⟩, ⟨rfl, trivial⟩, rfl⟩, by omega⟩
          · replace h3 := t_lss hO h3
            conv => cbv
            have hin : inR x y z = true := inR_iff.2 ⟨v, hnum, h2, h3⟩
            have hll : (risingS ((K.take k).filter (inR x y))).length < 8796093022208 := by
              have e1 := risingS_len ((K.take k).filter (inR x y))
              have e2 := List.length_filter_le (inR x y) (K.take k)
              have e3 : (K.take k).length ≤ k := by simp; omega
              omega
            have hp := h54 (risingS ((K.take k).filter (inR x y))) z hll
            rw [← hvs, ← hyes hin] at hp
            obtain ⟨vs2, hvs2⟩ : ∃ vs2, vs2 = (risingS ((K.take (k + 1)).filter (inR x y))).map mkS := ⟨_, rfl⟩
            rw [← hvs2] at hp
            refine ⟨mkS z, atX_map hz hxs hi, ?_⟩
            conv => cbv
            refine ⟨hcv, _, hp, ?_⟩
            conv => cbv
            exact ⟨_, _, up _ _ ⟨_, k + 1, false, vs2, rfl, hadd, by omega, rfl, hvs2⟩, ⟨⟨rfl, rfl, rfl, rfl, rfl, rfl, trivial⟩, ⟨rfl, trivial⟩, rfl⟩, by omega⟩
  rintro d ⟨nl, vs, rfl, hvs⟩
  have hcv : CleanL vs := cleanL_map clean_S hvs
  have hlv : O .len vs = (valsN x y K).length := by rw [o_len hO, hvs]; simp
  have hvl : (valsN x y K).length ≤ K.length := Nat.le_trans (risingS_len _) (List.length_filter_le _ _)
  have hans : numbersS lo0 hi0 K = numbersN x y K := by unfold numbersS; rw [← hx, ← hy]
  have hspan : O .iop .sub .i64 (O .iop .add .i64 (O .iop .sub .i64 y x) 1) (O .len vs) = y - x + 1 - (valsN x y K).length := by
    have e1 : O .iop .sub .i64 y x = y - x := o_sub64 hO (by omega) (by omega)
    rw [e1, o_add64 hO (by omega) (by omega), hlv, o_sub64 hO (by omega) (by omega)]
  have isin2 : ∀ z : Str, ∃ q, V.v 45 [.sl 1 false vs, .str ⟨⟨z⟩⟩] (.bool q) ∧ (q = true → z ∈ valsN x y K) ∧ (q = false → z ∉ valsN x y K) := fun z => ⟨_, by rw [hvs]; exact h45 (valsN x y K) z (by omega), by simp, by simp⟩
  conv => cbv
  rintro (_ | _) h1
  · replace h1 := f_leq hO h1
    rw [hspan] at h1
    conv => cbv
    rintro (_ | _) h2
    · replace h2 := f_gtr hO h2
      rw [hlv] at h2
      have hN : numbersN x y K = some ⟨false, true, true, valsN x y K, x, y⟩ := by unfold numbersN; rw [if_neg (by omega), if_neg (by omega)]
      conv => cbv
      refine ⟨hcv, ?_⟩
      conv => cbv
      rcases hS with ⟨rfl, hS⟩ | ⟨rfl, hS⟩
      · rw [hans, hN] at hS
        simp only [Option.some.injEq] at hS
        subst hS
        rw [hrr]
        simp only [setD]
        rw [← hvs]
      · rw [hans, hN] at hS
        simp at hS
    · replace h2 := t_gtr hO h2
      rw [hlv] at h2
      have hN : numbersN x y K = none := by unfold numbersN; rw [if_neg (by omega), if_pos (by omega)]
      conv => cbv
      rcases hS with ⟨rfl, hS⟩ | ⟨rfl, hS⟩
      · rw [hans, hN] at hS
        simp at hS
      · rw [hrr, hSz rfl]
        exact ⟨⟨rfl, rfl⟩, rfl⟩
  · replace h1 := t_leq hO h1
    rw [hspan] at h1
    conv => cbv
    refine loop_of (fun n d => ∃ (v : Int) (j : Nat) (nl2 : Bool) (ac : List D), d = ⟨[(1, .int .i64 y), (6, .ptr 6 1 0), (12, .sl 1 nl vs), (16, .sl 1 nl2 ac), (17, .int .i64 v)], [(6, ⟨1, .rw, .var, [.bool false, .bool false, .bool false, .sl 1 true [], .int .i64 0, .int .i64 0]⟩)], false⟩ ∧ v = x + j ∧ (j = 0 ∨ v ≤ y + 1) ∧ n = (y + 1 - v).toNat ∧ ac = (risingS ((upTo x j).filter fun s => decide (s ∉ valsN x y K))).map mkS) ⟨_, _, ⟨x, 0, _, _, rfl, by omega, .inl rfl, rfl, rfl⟩, ⟨⟨rfl, rfl, rfl, rfl, rfl, trivial⟩, ⟨rfl, trivial⟩, rfl⟩⟩ ?_
    rintro J up n d ⟨v, j, nl2, ac, rfl, hv, hvj, rfl, hac⟩
    have hcac : CleanL ac := cleanL_map clean_S hac
    conv => cbv
    rintro (_ | _) h2
    · replace h2 := f_leq hO h2
      have hj : upTo x j = upTo x (y + 1 - x).toNat := by
        rcases hvj with h | h
        · subst h; rw [show (y + 1 - x).toNat = 0 by omega]
        · rw [show (y + 1 - x).toNat = j by omega]
      have hN : numbersN x y K = some ⟨false, false, false, risingS (listN x y (valsN x y K)), 0, 0⟩ := by unfold numbersN; rw [if_pos (by omega)]
      rw [hj] at hac
      conv => cbv
      refine ⟨hcac, ?_⟩
      conv => cbv
      rcases hS with ⟨rfl, hS⟩ | ⟨rfl, hS⟩
      · rw [hans, hN] at hS
        simp only [Option.some.injEq] at hS
        subst hS
        rw [hrr]
        simp only [setD]
        rw [hac]
        rfl
      · rw [hans, hN] at hS
        simp at hS
    · replace h2 := t_leq hO h2
      conv => cbv
      obtain ⟨z, hz, hzi⟩ := fmt v (by unfold FI; omega)
      refine ⟨_, hz, ?_⟩
      conv => cbv
      obtain ⟨q, hq, hqt, hqf⟩ := isin2 z
      have hadd : O .iop .add .i64 v 1 = v + 1 := o_add64 hO (by omega) (by omega)
      refine ⟨hcv, _, hq, ?_⟩
      cases q with
      | true =>
        have hm := hqt rfl
        conv => cbv
        rw [hadd]
        refine ⟨_, _, up _ _ ⟨v + 1, j + 1, nl2, ac, rfl, by omega, .inr (by omega), rfl, ?_⟩, ⟨⟨rfl, rfl, rfl, rfl, rfl, trivial⟩, ⟨rfl, trivial⟩, rfl⟩, by omega⟩
        rw [hac, upTo_get, List.filter_append, ← hv, ← hzi]
        simp [hm]
      | false =>
        have hm := hqf rfl
        have hll : (risingS ((upTo x j).filter fun s => decide (s ∉ valsN x y K))).length < 8796093022208 := by
          have e1 := risingS_len ((upTo x j).filter fun s => decide (s ∉ valsN x y K))
          have e2 := List.length_filter_le (fun s => decide (s ∉ valsN x y K)) (upTo x j)
          rw [upTo_len] at e2
          omega
        have hp := h54 _ z hll
        rw [← hac] at hp
        obtain ⟨ac3, hac3⟩ : ∃ ac3, ac3 = (putS z (risingS ((upTo x j).filter fun s => decide (s ∉ valsN x y K)))).map mkS := ⟨_, rfl⟩
        rw [← hac3] at hp
        conv => cbv
        refine ⟨hcac, _, hp, ?_⟩
        conv => cbv
        rw [hadd]
        refine ⟨_, _, up _ _ ⟨v + 1, j + 1, false, ac3, rfl, by omega, .inr (by omega), rfl, ?_⟩, ⟨⟨rfl, rfl, rfl, rfl, rfl, trivial⟩, ⟨rfl, trivial⟩, rfl⟩, by omega⟩
        rw [hac3, ← risingS_snoc, upTo_get, List.filter_append, ← hv, ← hzi]
        simp [hm]
end Go.Proofs.AM
namespace Go.Proofs.AM
open Go Go.Lib Cd
set_option maxRecDepth 100000 in
set_option maxHeartbeats 8000000 in
theorem wrong38_ok (R : Ans) (q : ReqV) (hq : FR q) (h16 : ∀ s, SL s → R.v 16 [mkS s] (.bool (nameB s))) (h17 : ∀ s, SL s → R.v 17 [mkS s] (.bool (valueB s)))
    (h45 : ∀ (l : List Str) (x : Str), l.length < 4611686018427387904 → R.v 45 [.sl 1 false (l.map mkS), mkS x] (.bool (decide (x ∈ l)))) : AnsF R c38 [reqD q] (.int .i64 (wrongE q)) := by
  obtain ⟨r, hr⟩ : ∃ r, r = wrongE q := ⟨_, rfl⟩
  rw [← hr]
  unfold wrongE at hr
  have hall := hq.l.all
  have hl1 := hq.l.len
  have hn := h16 q.key hq.key
  obtain ⟨key, op, l, n⟩ := q
  unfold BadOp at hr
  simp only at hr hall hl1 hn
  obtain ⟨b, hb⟩ : ∃ b, b = nameB key := ⟨_, rfl⟩
  rw [← hb] at hr hn
  unfold reqD
  simp only
  obtain ⟨xs, hxs⟩ : ∃ xs, xs = l.map mkS := ⟨_, rfl⟩
  rw [← hxs]
  refine wpF_sound ⟨rfl, by decide⟩ fun O hO V hV => ?_
  subst hV
  have hlen : O .len xs = l.length := by rw [o_len hO, hxs]; simp
  conv => cbv
  refine ⟨_, hn, ?_⟩
  cases b with
  | false =>
    conv => cbv
    rw [hr]
    rfl
  | true =>
    simp only [Bool.true_eq_false, if_false] at hr
    conv => cbv
    refine join_of (fun d => ∃ v : Bool, d = ⟨[(1, .ptr 1 1 0), (4, .bool v)], [(1, ⟨1, .rw, .var, [mkS key, .int .i64 op, .sl 1 false xs, .int .i64 n]⟩)], false⟩ ∧ (v = true ↔ op = 1 ∨ op = 2)) (fun M upm => ?_) ?_
    · repeat' ((conv => cbv); rintro (_ | _) _)
      all_goals (conv => cbv)
      all_goals simp only [o_eql hO, true_eq_decide_iff, false_eq_decide_iff] at *
      all_goals exact ⟨_, upm _ ⟨_, rfl, by simp [*]⟩, ⟨⟨rfl, rfl, trivial⟩, ⟨rfl, trivial⟩, rfl⟩⟩
    rintro d ⟨v, rfl, hv⟩
    conv => cbv
    refine join_of (fun d => ∃ w : Bool, d = ⟨[(1, .ptr 1 1 0), (4, .bool v), (5, .bool w)], [(1, ⟨1, .rw, .var, [mkS key, .int .i64 op, .sl 1 false xs, .int .i64 n]⟩)], false⟩ ∧ (w = true ↔ op = 5 ∨ op = 6)) (fun M upm => ?_) ?_
    · repeat' ((conv => cbv); rintro (_ | _) _)
      all_goals (conv => cbv)
      all_goals simp only [o_eql hO, true_eq_decide_iff, false_eq_decide_iff] at *
      all_goals exact ⟨_, upm _ ⟨_, rfl, by simp [*]⟩, ⟨⟨rfl, rfl, rfl, trivial⟩, ⟨rfl, trivial⟩, rfl⟩⟩
    rintro d ⟨w, rfl, hw⟩
    conv => cbv
    refine join_of (fun d => d = ⟨[(1, .ptr 1 1 0)], [(1, ⟨1, .rw, .var, [mkS key, .int .i64 op, .sl 1 false xs, .int .i64 n]⟩)], false⟩ ∧ ¬ (op < 1 ∨ 6 < op ∨ ((op = 1 ∨ op = 2) ∧ l.length = 0) ∨ (¬ (op = 1 ∨ op = 2) ∧ 0 < l.length) ∨ (¬ (op = 5 ∨ op = 6) ∧ n ≠ 0) ∨ n < -2147483648 ∨ 2147483648 < n)) (fun M upm => ?_) ?_
    · cases v <;> cases w <;> simp only [Bool.false_eq_true, false_iff, true_iff] at hv hw
      all_goals repeat' ((conv => cbv); rintro (_ | _) _)
      all_goals (conv => cbv)
      all_goals simp only [o_lss hO, o_gtr hO, o_neq hO, o_beq hO, hlen, true_eq_decide_iff, false_eq_decide_iff] at *
      all_goals first
        | (exfalso; omega)
        | (exact ⟨_, upm _ ⟨rfl, by omega⟩, ⟨⟨rfl, trivial⟩, ⟨rfl, trivial⟩, rfl⟩⟩)
        | (rw [hr, if_pos (by omega)]; done)
        | (exfalso; simp at *; done)
    · rintro d ⟨rfl, hok⟩
      rw [if_neg hok] at hr
      conv => cbv
      rintro (_ | _) h1
      · replace h1 := f_gtr hO h1
        rw [hlen] at h1
        rw [if_neg (by omega)] at hr
        conv => cbv
        refine loop_of (fun c d => ∃ (i : Int) (k : Nat), d = ⟨[(1, .ptr 1 1 0), (6, .int .i64 i)], [(1, ⟨1, .rw, .var, [mkS key, .int .i64 op, .sl 1 false xs, .int .i64 n]⟩)], false⟩ ∧ i = k ∧ k ≤ l.length ∧ c = l.length - k ∧ ∀ j x, j < k → l[j]? = some x → valueB x = true) ⟨_, _, ⟨_, 0, rfl, rfl, by omega, rfl, by simp⟩, ⟨⟨rfl, rfl, trivial⟩, ⟨rfl, trivial⟩, rfl⟩⟩ ?_
        rintro J up c d ⟨i, k, rfl, hi, hk, rfl, hno⟩
        conv => cbv
        rintro (_ | _) h2
        · replace h2 := f_lss hO h2
          rw [hlen] at h2
          have hval : ¬ ∃ v ∈ l, valueB v = false := fun ⟨v, hv, hf⟩ => by
            obtain ⟨j, hj⟩ := List.getElem?_of_mem hv
            rw [hno j v (by have := (List.getElem?_eq_some_iff.1 hj).1; omega) hj] at hf
            simp at hf
          rw [if_neg hval] at hr
          conv => cbv
          refine loop_of (fun c d => ∃ (i : Int) (k : Nat), d = ⟨[(1, .ptr 1 1 0), (8, .int .i64 i)], [(1, ⟨1, .rw, .var, [mkS key, .int .i64 op, .sl 1 false xs, .int .i64 n]⟩)], false⟩ ∧ i = k ∧ k ≤ l.length ∧ c = l.length - k ∧ ∀ j x, j < k → l[j]? = some x → x ∉ l.take j) ⟨_, _, ⟨_, 0, rfl, rfl, by omega, rfl, by simp⟩, ⟨⟨rfl, rfl, trivial⟩, ⟨rfl, trivial⟩, rfl⟩⟩ ?_
          rintro J2 up2 c2 d ⟨i, k, rfl, hi, hk, rfl, hno2⟩
          conv => cbv
          rintro (_ | _) h3
          · replace h3 := f_lss hO h3
            rw [hlen] at h3
            conv => cbv
            rw [hr, if_neg (by simpa using nodup_at fun j x hx => hno2 j x (by have := (List.getElem?_eq_some_iff.1 hx).1; omega) hx)]
          · replace h3 := t_lss hO h3
            rw [hlen] at h3
            conv => cbv
            obtain ⟨y, hy⟩ : ∃ y, l[k]? = some y := ⟨_, List.getElem?_eq_getElem (by omega)⟩
            have hin := h45 (l.take k) y (by simp; omega)
            have htk : O .subL xs 0 i = (l.take k).map mkS := by rw [o_subL hO, hxs, hi, ← List.map_take]; simp
            have hct : CleanL (O .subL xs 0 i) := cleanL_map clean_S htk
            rw [← htk] at hin
            obtain ⟨p, hp⟩ : ∃ p, p = decide (y ∈ l.take k) := ⟨_, rfl⟩
            rw [← hp] at hin
            refine ⟨⟨by omega⟩, ⟨by omega⟩, ⟨by omega⟩, ?_⟩
            conv => cbv
            refine ⟨mkS y, atX_map hy hxs hi, ?_⟩
            conv => cbv
            refine ⟨hct, _, hin, ?_⟩
            cases p with
            | true =>
              have hm : y ∈ l.take k := by simpa using hp.symm
              conv => cbv
              rw [hr, if_pos (not_nodup_at hy hm)]
            | false =>
              have hm : y ∉ l.take k := by simpa using hp.symm
              conv => cbv
              refine ⟨_, _, up2 _ _ ⟨_, k + 1, rfl, ?_, by omega, rfl, ?_⟩, ⟨⟨rfl, rfl, trivial⟩, ⟨rfl, trivial⟩, rfl⟩, by omega⟩
              · rw [o_add64 hO (by omega) (by omega)]; omega
              · intro j x hj hx
                by_cases e : j = k
                · subst e; rw [hy] at hx; simp only [Option.some.injEq] at hx; subst hx; exact hm
                · exact hno2 j x (by omega) hx
        · replace h2 := t_lss hO h2
          rw [hlen] at h2
          conv => cbv
          obtain ⟨y, hy⟩ : ∃ y, l[k]? = some y := ⟨_, List.getElem?_eq_getElem (by omega)⟩
          have hv := h17 y (hall y (List.mem_of_getElem? hy))
          obtain ⟨p, hp⟩ : ∃ p, p = valueB y := ⟨_, rfl⟩
          rw [← hp] at hv
          refine ⟨mkS y, atX_map hy hxs hi, ?_⟩
          conv => cbv
          refine ⟨_, hv, ?_⟩
          cases p with
          | false =>
            conv => cbv
            rw [hr, if_pos ⟨y, List.mem_of_getElem? hy, hp.symm⟩]
          | true =>
            conv => cbv
            refine ⟨_, _, up _ _ ⟨_, k + 1, rfl, ?_, by omega, rfl, ?_⟩, ⟨⟨rfl, rfl, trivial⟩, ⟨rfl, trivial⟩, rfl⟩, by omega⟩
            · rw [o_add64 hO (by omega) (by omega)]; omega
            · intro j x hj hx
              by_cases e : j = k
              · subst e; rw [hy] at hx; simp only [Option.some.injEq] at hx; subst hx; exact hp.symm
              · exact hno j x (by omega) hx
      · replace h1 := t_gtr hO h1
        rw [hlen] at h1
        rw [if_pos (by omega)] at hr
        conv => cbv
        rw [hr]
end Go.Proofs.AM
namespace Go.Proofs.AM
open Go Go.Lib Cd
theorem not48_ok (R : Ans) (s : Str) (h19 : R.v 19 [mkS s] (.bool (valueB s))) : AnsF R c48 [mkS s] (.bool (!valueB s)) := by
  obtain ⟨q, hq⟩ : ∃ q, q = valueB s := ⟨_, rfl⟩
  rw [← hq] at h19 ⊢
  refine wpF_sound ⟨rfl, by decide⟩ fun O hO V hV => ?_
  subst hV
  conv => cbv
  refine ⟨_, h19, ?_⟩
  cases q <;> (conv => cbv) <;> trivial
theorem first_p (p : Str → Bool) : ∀ (l : List Str), (∀ y ∈ l, p y = false) ∨ ∃ (k : Nat) (x : Str), l[k]? = some x ∧ p x = true ∧ ∀ j y, j < k → l[j]? = some y → p y = false
  | [] => .inl (by simp)
  | x :: r => by
    cases hx : p x with
    | true => exact .inr ⟨0, x, rfl, hx, fun j y hj => by omega⟩
    | false =>
      rcases first_p p r with h | ⟨k, y, h1, h2, h3⟩
      · refine .inl fun y hy => ?_
        rcases List.mem_cons.1 hy with rfl | hy
        · exact hx
        · exact h y hy
      · refine .inr ⟨k + 1, y, by simpa using h1, h2, fun j z hj hz => ?_⟩
        cases j with
        | zero => simp at hz; subst hz; exact hx
        | succ j => exact h3 j z (by omega) (by simpa using hz)
theorem indexf56_ok (R : Ans) (f : Nat) (p : Str → Bool) (l : List Str) (hl : l.length ≤ 8796093022208) (hp : ∀ y ∈ l, R.v f [mkS y] (.bool (p y))) : ∃ n : Int, AnsF R c56 [.sl 1 false (l.map mkS), .fn f [] []] (.int .i64 n) ∧ ((∃ y ∈ l, p y = true) → 0 ≤ n) ∧ ((∀ y ∈ l, p y = false) → n = -1) := by
  obtain ⟨xs, hxs⟩ : ∃ xs, xs = l.map mkS := ⟨_, rfl⟩
  obtain ⟨r, hr⟩ : ∃ r : Int, ((∀ y ∈ l, p y = false) ∧ r = -1) ∨ ∃ k : Nat, r = k ∧ (∃ x, l[k]? = some x ∧ p x = true) ∧ ∀ j y, j < k → l[j]? = some y → p y = false := by
    rcases first_p p l with h | ⟨k, x, h1, h2, h3⟩
    · exact ⟨-1, .inl ⟨h, rfl⟩⟩
    · exact ⟨k, .inr ⟨k, rfl, ⟨x, h1, h2⟩, h3⟩⟩
  refine ⟨r, ?_, ?_, ?_⟩
  · rw [← hxs]
    refine wpF_sound ⟨rfl, by decide⟩ fun O hO V hV => ?_
    subst hV
    have hlen : O .len xs = l.length := by rw [o_len hO, hxs]; simp
    conv => cbv
    refine loop_of (fun n d => ∃ (i : Int) (k : Nat), d = ⟨[(0, .sl 1 false xs), (1, .fn f [] []), (7, .int .i64 (O .len xs)), (8, .int .i64 i)], [], false⟩ ∧ i = k ∧ k ≤ l.length ∧ n = l.length - k ∧ ∀ j y, j < k → l[j]? = some y → p y = false) ⟨_, _, ⟨_, 0, rfl, rfl, by omega, rfl, by simp⟩, ⟨⟨rfl, rfl, rfl, rfl, trivial⟩, trivial, rfl⟩⟩ ?_
    rintro J up n d ⟨i, k, rfl, hi, hk, rfl, hno⟩
    conv => cbv
    rintro (_ | _) h1
    · replace h1 := f_lss hO h1
      rw [hlen] at h1
      conv => cbv
      rcases hr with ⟨_, rfl⟩ | ⟨j, _, ⟨x, hj, hpx⟩, _⟩
      · rfl
      · rw [hno j x (by have := (List.getElem?_eq_some_iff.1 hj).1; omega) hj] at hpx
        simp at hpx
    · replace h1 := t_lss hO h1
      rw [hlen] at h1
      conv => cbv
      obtain ⟨y, hy⟩ : ∃ y, l[k]? = some y := ⟨_, List.getElem?_eq_getElem (by omega)⟩
      have hc := hp y (List.mem_of_getElem? hy)
      obtain ⟨q, hq⟩ : ∃ q, q = p y := ⟨_, rfl⟩
      rw [← hq] at hc
      refine ⟨mkS y, atX_map hy hxs hi, ?_⟩
      conv => cbv
      refine ⟨_, hc, ?_⟩
      cases q with
      | false =>
        conv => cbv
        refine ⟨_, _, up _ _ ⟨_, k + 1, rfl, ?_, by omega, rfl, ?_⟩, ⟨⟨rfl, rfl, rfl, rfl, trivial⟩, trivial, rfl⟩, by omega⟩
        · rw [o_add64 hO (by omega) (by omega)]; omega
        · intro j z hj hz
          by_cases e : j = k
          · subst e; rw [hy] at hz; simp only [Option.some.injEq] at hz; subst hz; exact hq.symm
          · exact hno j z (by omega) hz
      | true =>
        conv => cbv
        rcases hr with ⟨h, _⟩ | ⟨j, rfl, ⟨x, hj, hpx⟩, hmin⟩
        · rw [h y (List.mem_of_getElem? hy)] at hq
          simp at hq
        · have : j = k := by
            rcases Nat.lt_trichotomy j k with h | h | h
            · rw [hno j x h hj] at hpx; simp at hpx
            · exact h
            · rw [hmin k y h hy] at hq; simp at hq
          rw [hi, this]
  · rintro ⟨y, hy, hpy⟩
    rcases hr with ⟨h, _⟩ | ⟨k, rfl, _⟩
    · rw [h y hy] at hpy; simp at hpy
    · omega
  · intro h
    rcases hr with ⟨_, h'⟩ | ⟨k, _, ⟨x, hk, hpx⟩, _⟩
    · exact h'
    · rw [h x (List.mem_of_getElem? hk)] at hpx; simp at hpx
theorem containsf47_ok (R : Ans) (f : Nat) (p : Str → Bool) (l : List Str) (q : Bool) (hq : q = true ↔ ∃ y ∈ l, p y = true) (h56 : ∃ n : Int, R.v 56 [.sl 1 false (l.map mkS), .fn f [] []] (.int .i64 n) ∧ ((∃ y ∈ l, p y = true) → 0 ≤ n) ∧ ((∀ y ∈ l, p y = false) → n = -1)) : AnsF R c47 [.sl 1 false (l.map mkS), .fn f [] []] (.bool q) := by
  obtain ⟨n, hn, h1, h2⟩ := h56
  have hc : CleanL (l.map mkS) := cleanL_map clean_S rfl
  obtain ⟨xs, hxs⟩ : ∃ xs, xs = l.map mkS := ⟨_, rfl⟩
  rw [← hxs] at hn hc ⊢
  refine wpF_sound ⟨rfl, by decide⟩ fun O hO V hV => ?_
  subst hV
  conv => cbv
  refine ⟨hc, _, hn, ?_⟩
  conv => cbv
  rintro (_ | _) h3
  · replace h3 := f_geq hO h3
    conv => cbv
    cases q with
    | false => rfl
    | true => have := h1 (hq.1 rfl); omega
  · replace h3 := t_geq hO h3
    conv => cbv
    cases q with
    | true => rfl
    | false =>
      have : ∀ y ∈ l, p y = false := fun y hy => by
        cases hp : p y with
        | false => rfl
        | true => have := hq.2 ⟨y, hy, hp⟩; simp at this
      have := h2 this
      omega
end Go.Proofs.AM
namespace Go.Proofs.AM
open Go Go.Lib Cd
set_option maxRecDepth 100000 in
set_option maxHeartbeats 8000000 in
theorem wrong31_ok (R : Ans) (q : ReqV) (hq : FR q) (h18 : ∀ s, SL s → R.v 18 [mkS s] (.bool (nameB s)))
    (h47 : ∀ b : Bool, (b = true ↔ ∃ y ∈ q.l, (!valueB y) = true) → R.v 47 [.sl 1 false (q.l.map mkS), .fn 48 [] []] (.bool b))
    (h33 : R.v 33 [.sl 1 false ([q.l].map lD)] (.mapv ((groupS [q.l]).map ent))) : AnsF R c31 [reqD q] (.int .i64 (wrongE q)) := by
  obtain ⟨r, hr⟩ : ∃ r, r = wrongE q := ⟨_, rfl⟩
  rw [← hr]
  unfold wrongE at hr
  have hl1 := hq.l.len
  have hn := h18 q.key hq.key
  obtain ⟨key, op, l, n⟩ := q
  unfold BadOp at hr
  simp only at hr hl1 hn h47 h33
  obtain ⟨b, hb⟩ : ∃ b, b = nameB key := ⟨_, rfl⟩
  rw [← hb] at hr hn
  unfold reqD
  simp only
  simp only [List.map_cons, List.map_nil, lD] at h33
  obtain ⟨xs, hxs⟩ : ∃ xs, xs = l.map mkS := ⟨_, rfl⟩
  have hcx : CleanL xs := cleanL_map clean_S hxs
  have hcy : CleanL [.sl 1 false xs] := ⟨by simp [closedL, closed, hcx.c], by simp [stripL, strip, hcx.s]⟩
  obtain ⟨es, hes⟩ : ∃ es, es = (groupS [l]).map ent := ⟨_, rfl⟩
  rw [← hxs] at h47 h33 ⊢
  rw [← hes] at h33
  refine wpF_sound ⟨rfl, by decide⟩ fun O hO V hV => ?_
  subst hV
  have hlen : O .len xs = l.length := by rw [o_len hO, hxs]; simp
  have hlee : O .len es = (groupS [l]).length := by rw [o_len hO, hes]; simp
  conv => cbv
  refine join_of (fun d => ∃ v : Bool, d = ⟨[(1, .ptr 1 1 0), (3, .bool v)], [(1, ⟨1, .rw, .var, [mkS key, .int .i64 op, .sl 1 false xs, .int .i64 n]⟩)], false⟩ ∧ (v = true ↔ op = 1 ∨ op = 2)) (fun M upm => ?_) ?_
  · repeat' ((conv => cbv); rintro (_ | _) _)
    all_goals (conv => cbv)
    all_goals simp only [o_eql hO, true_eq_decide_iff, false_eq_decide_iff] at *
    all_goals exact ⟨_, upm _ ⟨_, rfl, by simp [*]⟩, ⟨⟨rfl, rfl, trivial⟩, ⟨rfl, trivial⟩, rfl⟩⟩
  rintro d ⟨v, rfl, hv⟩
  conv => cbv
  refine join_of (fun d => ∃ w : Bool, d = ⟨[(1, .ptr 1 1 0), (3, .bool v), (4, .bool w)], [(1, ⟨1, .rw, .var, [mkS key, .int .i64 op, .sl 1 false xs, .int .i64 n]⟩)], false⟩ ∧ (w = true ↔ op = 5 ∨ op = 6)) (fun M upm => ?_) ?_
  · repeat' ((conv => cbv); rintro (_ | _) _)
    all_goals (conv => cbv)
    all_goals simp only [o_eql hO, true_eq_decide_iff, false_eq_decide_iff] at *
    all_goals exact ⟨_, upm _ ⟨_, rfl, by simp [*]⟩, ⟨⟨rfl, rfl, rfl, trivial⟩, ⟨rfl, trivial⟩, rfl⟩⟩
  rintro d ⟨w, rfl, hw⟩
  conv => cbv
  refine ⟨_, hn, ?_⟩
  cases b with
  | false =>
    conv => cbv
    rw [hr]
    rfl
  | true =>
    simp only [Bool.true_eq_false, if_false] at hr
    conv => cbv
    refine join_of (fun d => ∃ bad : Bool, d = ⟨[(1, .ptr 1 1 0), (26, .bool bad)], [(1, ⟨1, .rw, .var, [mkS key, .int .i64 op, .sl 1 false xs, .int .i64 n]⟩)], false⟩ ∧ (bad = true ↔ (op < 1 ∨ 6 < op ∨ ((op = 1 ∨ op = 2) ∧ l.length = 0) ∨ (¬ (op = 1 ∨ op = 2) ∧ 0 < l.length) ∨ (¬ (op = 5 ∨ op = 6) ∧ n ≠ 0) ∨ n < -2147483648 ∨ 2147483648 < n))) (fun M upm => ?_) ?_
    · cases v <;> cases w <;> simp only [Bool.false_eq_true, false_iff, true_iff] at hv hw
      all_goals repeat' ((conv => cbv); rintro (_ | _) _)
      all_goals (conv => cbv)
      all_goals simp only [o_lss hO, o_gtr hO, o_neq hO, o_beq hO, hlen, true_eq_decide_iff, false_eq_decide_iff] at *
      all_goals first
        | (exfalso; omega)
        | (refine ⟨_, upm _ ⟨_, rfl, ?_⟩, ⟨⟨rfl, rfl, trivial⟩, ⟨rfl, trivial⟩, rfl⟩⟩
           constructor <;> intro h <;> first | rfl | (simp at h; done) | (exfalso; omega) | omega)
        | (exfalso; simp at *; done)
    rintro d ⟨bad, rfl, hbad⟩
    cases bad with
    | true =>
      rw [if_pos (hbad.1 rfl)] at hr
      conv => cbv
      rw [hr]
    | false =>
      rw [if_neg (fun h => by have := hbad.2 h; simp at this)] at hr
      conv => cbv
      rintro (_ | _) h1
      · replace h1 := f_gtr hO h1
        rw [hlen] at h1
        rw [if_neg (by omega)] at hr
        conv => cbv
        by_cases hval : ∃ v ∈ l, valueB v = false
        · rw [if_pos hval] at hr
          have hc := h47 true (by
            obtain ⟨y, hy, hf⟩ := hval
            exact ⟨fun _ => ⟨y, hy, by simp [hf]⟩, fun _ => rfl⟩)
          refine ⟨hcx, _, hc, ?_⟩
          conv => cbv
          rw [hr]
        · rw [if_neg hval] at hr
          have hc := h47 false (by
            constructor
            · intro h; simp at h
            · rintro ⟨y, hy, hf⟩
              exact absurd ⟨y, hy, by simpa using hf⟩ hval)
          refine ⟨hcx, _, hc, ?_⟩
          conv => cbv
          refine ⟨⟨hcy.c⟩, ?_⟩
          conv => cbv
          refine ⟨hcy, _, h33, ?_⟩
          conv => cbv
          rintro (_ | _) h2
          · replace h2 := f_lss hO h2
            rw [hlen, hlee] at h2
            conv => cbv
            rw [hr, if_neg (fun h => by have := group_lt.2 h; omega)]
          · replace h2 := t_lss hO h2
            rw [hlen, hlee] at h2
            conv => cbv
            rw [hr, if_pos (group_lt.1 (by omega))]
      · replace h1 := t_gtr hO h1
        rw [hlen] at h1
        rw [if_pos (by omega)] at hr
        conv => cbv
        rw [hr]
end Go.Proofs.AM
namespace Go.Proofs.AM
open Go Go.Lib Cd
theorem NumsR.yes {lo hi : Int} {S T : SetV} {b : Bool} (h : NumsR lo hi [] S b) (hT : numbersS lo hi [] = some T) : b = true ∧ S = T := by
  rcases h with ⟨h1, h2⟩ | ⟨_, h2⟩
  · rw [h2] at hT; simp only [Option.some.injEq] at hT; exact ⟨h1, hT⟩
  · rw [h2] at hT; simp at hT
set_option maxRecDepth 100000 in
set_option maxHeartbeats 8000000 in
theorem of20_ok (R : Ans) (q : ReqV) (_hq : FR q) (h38 : R.v 38 [reqD q] (.int .i64 (wrongE q))) (h39 : R.v 39 [.sl 1 false (q.l.map mkS)] (.sl 1 false ((risingS q.l).map mkS)))
    (h40 : ∀ lo hi : Int, least ≤ lo → lo ≤ most + 1 → hi ≤ most → least - 1 ≤ hi → ∃ S b, R.v 40 [.int .i64 lo, .int .i64 hi, .sl 1 false []] (.tup [setD S, .bool b]) ∧ NumsR lo hi [] S b) :
    AnsF R c20 [reqD q] (.tup [setD (ofSet q), .int .i64 (wrongE q)]) := by
  obtain ⟨A, hA⟩ : ∃ A, A = ofSet q := ⟨_, rfl⟩
  obtain ⟨e, he⟩ : ∃ e, e = wrongE q := ⟨_, rfl⟩
  have hok : e = 0 → ¬ BadOp q := fun h => (wrongE_0 (by rw [← he, h])).2.1
  obtain ⟨r, hrr⟩ : ∃ r, r = D.tup [setD (ofSet q), .int .i64 (wrongE q)] := ⟨_, rfl⟩
  rw [← hrr]
  unfold ofSet at hrr
  rw [← he] at hrr h38
  clear he hA A _hq
  obtain ⟨key, op, l, n⟩ := q
  unfold BadOp at hok
  unfold ofS at hrr
  unfold reqD at h38 ⊢
  simp only at h38 h39 hrr hok ⊢
  obtain ⟨xs, hxs⟩ : ∃ xs, xs = l.map mkS := ⟨_, rfl⟩
  have hcx : CleanL xs := cleanL_map clean_S hxs
  obtain ⟨rs, hrs⟩ : ∃ rs, rs = (risingS l).map mkS := ⟨_, rfl⟩
  have hcr : CleanL rs := cleanL_map clean_S hrs
  rw [← hxs] at h38 h39 ⊢
  rw [← hrs] at h39
  refine wpF_sound ⟨rfl, by decide⟩ fun O hO V hV => ?_
  subst hV
  conv => cbv
  refine ⟨hcx, _, h38, ?_⟩
  conv => cbv
  rintro (_ | _) h1
  · replace h1 := f_neq hO h1
    subst h1
    have hop := hok rfl
    simp only [if_true] at hrr
    conv => cbv
    rintro (_ | _) h2
    · replace h2 := f_eql hO h2
      rw [if_neg h2] at hrr
      conv => cbv
      rintro (_ | _) h3
      · replace h3 := f_eql hO h3
        rw [if_neg h3] at hrr
        conv => cbv
        rintro (_ | _) h4
        · replace h4 := f_eql hO h4
          rw [if_neg h4] at hrr
          conv => cbv
          rintro (_ | _) h5
          · replace h5 := f_eql hO h5
            rw [if_neg h5] at hrr
            conv => cbv
            rintro (_ | _) h6
            · replace h6 := f_eql hO h6
              rw [if_neg h6] at hrr
              obtain ⟨S, b, hS, hN⟩ := h40 least (n - 1) (by unfold least; omega) (by unfold least most; omega) (by unfold most; omega) (by unfold least; omega)
              obtain ⟨T, hT⟩ := numbersS_nil least (n - 1)
              obtain ⟨rfl, rfl⟩ := hN.yes hT
              rw [hT] at hrr
              simp only [Option.getD_some] at hrr
              have hsub : O .iop .sub .i64 n 1 = n - 1 := o_sub64 hO (by omega) (by omega)
              have hcS : CleanL (S.l.map mkS) := cleanL_map clean_S rfl
              obtain ⟨m', n', u', l', lo', hi'⟩ := S
              unfold setD at hS hrr
              simp only at hS hrr hcS
              obtain ⟨ys, hys⟩ : ∃ ys, ys = l'.map mkS := ⟨_, rfl⟩
              rw [← hys] at hS hrr hcS
              conv => cbv
              rw [hsub]
              refine ⟨⟨rfl, rfl⟩, _, hS, ?_⟩
              conv => cbv
              refine ⟨hcS, ?_⟩
              conv => cbv
              rw [hrr]
            · replace h6 := t_eql hO h6
              rw [if_pos h6] at hrr
              obtain ⟨S, b, hS, hN⟩ := h40 (n + 1) most (by unfold least; omega) (by unfold most; omega) (by unfold most; omega) (by unfold least most; omega)
              obtain ⟨T, hT⟩ := numbersS_nil (n + 1) most
              obtain ⟨rfl, rfl⟩ := hN.yes hT
              rw [hT] at hrr
              simp only [Option.getD_some] at hrr
              have hadd : O .iop .add .i64 n 1 = n + 1 := o_add64 hO (by omega) (by omega)
              have hcS : CleanL (S.l.map mkS) := cleanL_map clean_S rfl
              obtain ⟨m', n', u', l', lo', hi'⟩ := S
              unfold setD at hS hrr
              simp only at hS hrr hcS
              obtain ⟨ys, hys⟩ : ∃ ys, ys = l'.map mkS := ⟨_, rfl⟩
              rw [← hys] at hS hrr hcS
              conv => cbv
              rw [hadd]
              refine ⟨⟨rfl, rfl⟩, _, hS, ?_⟩
              conv => cbv
              refine ⟨hcS, ?_⟩
              conv => cbv
              rw [hrr]
          · replace h5 := t_eql hO h5
            rw [if_pos h5] at hrr
            conv => cbv
            rw [hrr]
            exact ⟨⟨rfl, rfl⟩, rfl⟩
        · replace h4 := t_eql hO h4
          rw [if_pos h4] at hrr
          conv => cbv
          rw [hrr]
          exact ⟨⟨rfl, rfl⟩, rfl⟩
      · replace h3 := t_eql hO h3
        rw [if_pos h3] at hrr
        conv => cbv
        refine ⟨hcx, _, h39, ?_⟩
        conv => cbv
        refine ⟨hcr, ?_⟩
        conv => cbv
        rw [hrr, setD, ← hrs]
    · replace h2 := t_eql hO h2
      rw [if_pos h2] at hrr
      conv => cbv
      refine ⟨hcx, _, h39, ?_⟩
      conv => cbv
      refine ⟨hcr, ?_⟩
      conv => cbv
      rw [hrr, setD, ← hrs]
  · replace h1 := t_neq hO h1
    rw [if_neg h1] at hrr
    conv => cbv
    rw [hrr]
    exact ⟨⟨rfl, rfl⟩, rfl⟩
end Go.Proofs.AM
namespace Go.Proofs.AM
open Go Go.Lib Cd
set_option maxRecDepth 100000 in
set_option maxHeartbeats 8000000 in
theorem of12_ok (R : Ans) (q : ReqV) (hq : FR q) (h31 : R.v 31 [reqD q] (.int .i64 (wrongE q))) (h33 : ∀ L : List (List Str), L.length ≤ 8796093022208 → (∀ l ∈ L, l.length ≤ 8796093022208) → R.v 33 [.sl 1 false (L.map lD)] (.mapv ((groupS L).map ent)))
    (h32 : ∀ K : List Str, K.Nodup → (∀ s ∈ K, SL s) → K.length ≤ 8796093022208 → R.v 32 [.mapv (K.map ent)] (.sl 1 false ((risingS K).map mkS)))
    (h34 : ∀ lo hi : Int, least ≤ lo → lo ≤ most + 1 → hi ≤ most → least - 1 ≤ hi → ∃ S b, R.v 34 [.int .i64 lo, .int .i64 hi, .mapv []] (.tup [setD S, .bool b]) ∧ NumsR lo hi [] S b) :
    AnsF R c12 [reqD q] (.tup [setD (ofSet q), .int .i64 (wrongE q)]) := by
  obtain ⟨e, he⟩ : ∃ e, e = wrongE q := ⟨_, rfl⟩
  have hok : e = 0 → ¬ BadOp q := fun h => (wrongE_0 (by rw [← he, h])).2.1
  obtain ⟨r, hrr⟩ : ∃ r, r = D.tup [setD (ofSet q), .int .i64 (wrongE q)] := ⟨_, rfl⟩
  rw [← hrr]
  unfold ofSet at hrr
  rw [← he] at hrr h31
  have hl1 := hq.l.len
  have hall := hq.l.all
  clear he hq
  obtain ⟨key, op, l, n⟩ := q
  unfold BadOp at hok
  unfold ofS at hrr
  unfold reqD at h31 ⊢
  simp only at h31 hrr hok hl1 hall ⊢
  have hg := h33 [l] (by simp) (by simpa using hl1)
  have hge := h33 [] (by simp) (by simp)
  have hri := h32 (groupS [l]) (groupS_nodup _) (fun s hs => by rw [groupS_mem] at hs; exact hall s (by simpa using hs)) (by have := groupS_len [l]; simp at this; omega)
  have hsame : risingS (groupS [l]) = risingS l := risingS_congr fun z => by rw [groupS_mem]; simp
  rw [hsame] at hri
  simp only [List.map_cons, List.map_nil, lD] at hg hge
  rw [show groupS [] = [] from rfl, List.map_nil] at hge
  obtain ⟨es, hes⟩ : ∃ es, es = (groupS [l]).map ent := ⟨_, rfl⟩
  have hce : CleanL es := cleanL_map clean_ent hes
  obtain ⟨xs, hxs⟩ : ∃ xs, xs = l.map mkS := ⟨_, rfl⟩
  have hcx : CleanL xs := cleanL_map clean_S hxs
  have hcy : CleanL [.sl 1 false xs] := ⟨by simp [closedL, closed, hcx.c], by simp [stripL, strip, hcx.s]⟩
  obtain ⟨rs, hrs⟩ : ∃ rs, rs = (risingS l).map mkS := ⟨_, rfl⟩
  have hcr : CleanL rs := cleanL_map clean_S hrs
  rw [← hxs] at h31 hg ⊢
  rw [← hes] at hg hri
  rw [← hrs] at hri
  clear h33 h32
  refine wpF_sound ⟨rfl, by decide⟩ fun O hO V hV => ?_
  subst hV
  conv => cbv
  refine ⟨hcx, _, h31, ?_⟩
  conv => cbv
  rintro (_ | _) h1
  · replace h1 := f_neq hO h1
    subst h1
    have hop := hok rfl
    simp only [if_true] at hrr
    conv => cbv
    refine ⟨hcy, _, hg, ?_⟩
    conv => cbv
    refine ⟨hce, _, hri, ?_⟩
    conv => cbv
    refine join_of (fun d => ∃ (S : SetV) (nl : Bool) (ys : List D), d = ⟨[(2, .ptr 2 1 0), (5, .ptr 5 1 0)], [(2, ⟨1, .rw, .var, [.bool false, .bool false, .bool false, .sl 1 true [], .int .i64 0, .int .i64 0]⟩), (5, ⟨1, .rw, .var, [.bool S.m, .bool S.n, .bool S.u, .sl 1 nl ys, .int .i64 S.lo, .int .i64 S.hi]⟩)], false⟩ ∧ ys = S.l.map mkS ∧ r = .tup [setD S, .int .i64 0]) (fun M upm => ?_) ?_
    · conv => cbv
      rintro (_ | _) h3
      · replace h3 := f_eql hO h3
        conv => cbv
        rintro (_ | _) h4
        · replace h4 := f_eql hO h4
          conv => cbv
          rintro (_ | _) h5
          · replace h5 := f_eql hO h5
            conv => cbv
            rintro (_ | _) h6
            · replace h6 := f_eql hO h6
              conv => cbv
              rintro (_ | _) h7
              · replace h7 := f_eql hO h7
                have h2 : op = 1 := by omega
                rw [if_pos h2] at hrr
                conv => cbv
                exact ⟨_, upm _ ⟨⟨false, false, false, risingS l, 0, 0⟩, _, rs, rfl, hrs, hrr⟩, ⟨⟨rfl, rfl, trivial⟩, ⟨rfl, rfl, trivial⟩, rfl⟩⟩
              · replace h7 := t_eql hO h7
                rw [if_neg (by omega), if_neg h3, if_neg h4, if_neg h5, if_neg h6] at hrr
                obtain ⟨S, b, hS, hN⟩ := h34 least (n - 1) (by unfold least; omega) (by unfold least most; omega) (by unfold most; omega) (by unfold least; omega)
                obtain ⟨T, hT⟩ := numbersS_nil least (n - 1)
                obtain ⟨rfl, rfl⟩ := hN.yes hT
                rw [hT] at hrr
                simp only [Option.getD_some] at hrr
                have hsub : O .iop .sub .i64 n 1 = n - 1 := o_sub64 hO (by omega) (by omega)
                obtain ⟨ys, hys⟩ : ∃ ys, ys = S.l.map mkS := ⟨_, rfl⟩
                unfold setD at hS
                rw [← hys] at hS
                obtain ⟨m', n', u', l', lo', hi'⟩ := S
                simp only at hS hys
                conv => cbv
                refine ⟨⟨rfl, rfl⟩, _, hge, ?_⟩
                conv => cbv
                rw [hsub]
                refine ⟨⟨rfl, rfl⟩, _, hS, ?_⟩
                conv => cbv
                exact ⟨_, upm _ ⟨⟨m', n', u', l', lo', hi'⟩, _, ys, rfl, hys, hrr⟩, ⟨⟨rfl, rfl, trivial⟩, ⟨rfl, rfl, trivial⟩, rfl⟩⟩
            · replace h6 := t_eql hO h6
              rw [if_neg (by omega), if_neg h3, if_neg h4, if_neg h5, if_pos h6] at hrr
              obtain ⟨S, b, hS, hN⟩ := h34 (n + 1) most (by unfold least; omega) (by unfold most; omega) (by unfold most; omega) (by unfold least most; omega)
              obtain ⟨T, hT⟩ := numbersS_nil (n + 1) most
              obtain ⟨rfl, rfl⟩ := hN.yes hT
              rw [hT] at hrr
              simp only [Option.getD_some] at hrr
              have hadd : O .iop .add .i64 n 1 = n + 1 := o_add64 hO (by omega) (by omega)
              obtain ⟨ys, hys⟩ : ∃ ys, ys = S.l.map mkS := ⟨_, rfl⟩
              unfold setD at hS
              rw [← hys] at hS
              obtain ⟨m', n', u', l', lo', hi'⟩ := S
              simp only at hS hys
              conv => cbv
              refine ⟨⟨rfl, rfl⟩, _, hge, ?_⟩
              conv => cbv
              rw [hadd]
              refine ⟨⟨rfl, rfl⟩, _, hS, ?_⟩
              conv => cbv
              exact ⟨_, upm _ ⟨⟨m', n', u', l', lo', hi'⟩, _, ys, rfl, hys, hrr⟩, ⟨⟨rfl, rfl, trivial⟩, ⟨rfl, rfl, trivial⟩, rfl⟩⟩
          · replace h5 := t_eql hO h5
            rw [if_neg (by omega), if_neg h3, if_neg h4, if_pos h5] at hrr
            have hl0 : l = [] := List.length_eq_zero_iff.1 (by omega)
            conv => cbv
            exact ⟨_, upm _ ⟨⟨true, false, false, [], 0, 0⟩, _, rs, rfl, by rw [hrs, hl0]; rfl, hrr⟩, ⟨⟨rfl, rfl, trivial⟩, ⟨rfl, rfl, trivial⟩, rfl⟩⟩
        · replace h4 := t_eql hO h4
          rw [if_neg (by omega), if_neg h3, if_pos h4] at hrr
          have hl0 : l = [] := List.length_eq_zero_iff.1 (by omega)
          conv => cbv
          exact ⟨_, upm _ ⟨⟨false, true, false, [], 0, 0⟩, _, rs, rfl, by rw [hrs, hl0]; rfl, hrr⟩, ⟨⟨rfl, rfl, trivial⟩, ⟨rfl, rfl, trivial⟩, rfl⟩⟩
      · replace h3 := t_eql hO h3
        rw [if_neg (by omega), if_pos h3] at hrr
        conv => cbv
        exact ⟨_, upm _ ⟨⟨true, true, false, risingS l, 0, 0⟩, _, rs, rfl, hrs, hrr⟩, ⟨⟨rfl, rfl, trivial⟩, ⟨rfl, rfl, trivial⟩, rfl⟩⟩
    · rintro d ⟨S, nl, ys, rfl, hys, hr2⟩
      have hcS : CleanL ys := cleanL_map clean_S hys
      obtain ⟨m', n', u', l', lo', hi'⟩ := S
      simp only at hys
      conv => cbv
      refine ⟨hcS, ?_⟩
      conv => cbv
      rw [hr2, setD, ← hys]
  · replace h1 := t_neq hO h1
    rw [if_neg h1] at hrr
    conv => cbv
    rw [hrr]
    exact ⟨⟨rfl, rfl⟩, rfl⟩
end Go.Proofs.AM
namespace Go.Proofs.AM
open Go Go.Lib Cd
set_option maxRecDepth 100000 in
set_option maxHeartbeats 4000000 in
theorem listed44_ok (R : Ans) (l : List Str) (hl : FL l) (s : SetV) (h28 : ∀ x, SL x → R.v 28 [setD s, mkS x] (.bool (hasB s x))) : AnsF R c44 [.sl 1 false (l.map mkS), setD s] (setD ⟨false, false, false, l.filter (hasB s), 0, 0⟩) := by
  have hl1 := hl.len
  have hall := hl.all
  obtain ⟨xs, hxs⟩ : ∃ xs, xs = l.map mkS := ⟨_, rfl⟩
  obtain ⟨p, hp⟩ : ∃ p, p = hasB s := ⟨_, rfl⟩
  obtain ⟨r, hr⟩ : ∃ r, r = setD ⟨false, false, false, l.filter (hasB s), 0, 0⟩ := ⟨_, rfl⟩
  rw [← hxs, ← hr]
  unfold setD at hr h28 ⊢
  simp only at hr
  rw [← hp] at hr h28
  obtain ⟨m, n, u, sl, lo, hi⟩ := s
  simp only at h28 ⊢
  obtain ⟨ys, hys⟩ : ∃ ys, ys = sl.map mkS := ⟨_, rfl⟩
  have hcy : CleanL ys := cleanL_map clean_S hys
  rw [← hys] at h28 ⊢
  refine wpF_sound ⟨rfl, by decide⟩ fun O hO V hV => ?_
  subst hV
  have hlen : O .len xs = l.length := by rw [o_len hO, hxs]; simp
  conv => cbv
  refine loop_of (fun c d => ∃ (i : Int) (k g : Nat) (ac : List D), d = ⟨[(0, .sl 1 false xs), (3, .ptr 3 1 0), (4, .ptr 4 1 0), (5, .ptr 5 1 0), (6, .int .i64 i)], [(3, ⟨1, .rw, .var, [.bool m, .bool n, .bool u, .sl 1 false ys, .int .i64 lo, .int .i64 hi]⟩), (4, ⟨1, .rw, .var, [.bool false, .bool false, .bool false, .sl 1 true [], .int .i64 0, .int .i64 0]⟩), (5, ⟨1, .rw, .var, [.bool false, .bool false, .bool false, .own 99 g, .int .i64 0, .int .i64 0]⟩), (99, ⟨g, .rw, .arr 1 9, ac⟩)], false⟩ ∧ i = k ∧ k ≤ l.length ∧ c = l.length - k ∧ ac = ((l.take k).filter p).map mkS) ⟨_, _, ⟨_, 0, _, _, rfl, rfl, by omega, rfl, by simp⟩, ⟨⟨rfl, rfl, rfl, rfl, rfl, trivial⟩, ⟨rfl, rfl, rfl, rfl, trivial⟩, rfl⟩⟩ ?_
  rintro J up c d ⟨i, k, g, ac, rfl, hi', hk, rfl, hac⟩
  have hca : CleanL ac := cleanL_map clean_S hac
  conv => cbv
  rintro (_ | _) h1
  · replace h1 := f_lss hO h1
    rw [hlen] at h1
    have : ac = (l.filter p).map mkS := by rw [hac, List.take_of_length_le (by omega)]
    conv => cbv
    refine ⟨hca, ?_⟩
    conv => cbv
    rw [hr, this]
  · replace h1 := t_lss hO h1
    rw [hlen] at h1
    conv => cbv
    obtain ⟨y, hy⟩ : ∃ y, l[k]? = some y := ⟨_, List.getElem?_eq_getElem (by omega)⟩
    have hv := h28 y (hall y (List.mem_of_getElem? hy))
    obtain ⟨q, hq⟩ : ∃ q, q = p y := ⟨_, rfl⟩
    rw [← hq] at hv
    have hadd : O .iop .add .i64 i 1 = ((k + 1 : Nat) : Int) := by rw [o_add64 hO (by omega) (by omega)]; omega
    refine ⟨mkS y, atX_map hy hxs hi', ?_⟩
    conv => cbv
    refine ⟨hcy, _, hv, ?_⟩
    cases q with
    | false =>
      conv => cbv
      exact ⟨_, _, up _ _ ⟨_, k + 1, g, ac, rfl, hadd, by omega, rfl, by rw [hac, List.take_add_one, hy, List.filter_append]; simp [← hq]⟩, ⟨⟨rfl, rfl, rfl, rfl, rfl, trivial⟩, ⟨rfl, rfl, rfl, rfl, trivial⟩, rfl⟩, by omega⟩
    | true =>
      conv => cbv
      refine ⟨mkS y, atX_map hy hxs hi', ?_⟩
      conv => cbv
      have hla : O .len ac ≤ k := by
        have := List.length_filter_le p (l.take k)
        rw [o_len hO, hac]
        simp at this ⊢
        omega
      have hl1' : O .len [D.str ⟨⟨y⟩⟩] = 1 := by rw [o_len hO]; rfl
      obtain ⟨ac2, hac2⟩ : ∃ ac2, ac2 = O .app ac [D.str ⟨⟨y⟩⟩] := ⟨_, rfl⟩
      refine ⟨⟨rfl⟩, ?_⟩
      conv => cbv
      refine ⟨⟨rfl⟩, ⟨by show (O .len ac + O .len [D.str ⟨⟨y⟩⟩]) * ((16 : Nat) : Int) ≤ _; rw [hl1']; omega⟩, ?_⟩
      rw [← hac2]
      conv => cbv
      exact ⟨_, _, up _ _ ⟨_, k + 1, g + 1, ac2, rfl, hadd, by omega, rfl, by rw [hac2, o_app hO, hac, List.take_add_one, hy, List.filter_append]; simp [← hq, mkS]⟩, ⟨⟨rfl, rfl, rfl, rfl, rfl, trivial⟩, ⟨rfl, rfl, rfl, rfl, trivial⟩, rfl⟩, by omega⟩
end Go.Proofs.AM
namespace Go.Proofs.AM
open Go Go.Lib Cd
set_option maxRecDepth 100000 in
set_option maxHeartbeats 16000000 in
theorem meet25_ok (R : Ans) (a b : SetV) (ha : FS a) (hb : FS b) (h22 : ∀ s, FS s → R.v 22 [setD s] (.int .i64 (checkE s))) (h39 : ∀ l : List Str, l.length ≤ 8796093022208 → R.v 39 [.sl 1 false (l.map mkS)] (.sl 1 false ((risingS l).map mkS)))
    (h44 : ∀ l s, FL l → FS s → R.v 44 [.sl 1 false (l.map mkS), setD s] (setD ⟨false, false, false, l.filter (hasB s), 0, 0⟩))
    (h40 : ∀ (lo hi : Int) (K : List Str), least ≤ lo → lo ≤ most + 1 → hi ≤ most → least - 1 ≤ hi → FL K → ∃ S b, R.v 40 [.int .i64 lo, .int .i64 hi, .sl 1 false (K.map mkS)] (.tup [setD S, .bool b]) ∧ NumsR lo hi K S b) :
    AnsF R c25 [setD a, setD b] (.tup [setD (meetS a b).1, .int .i64 (meetS a b).2]) := by
  have ka := h22 a ha
  have kb := h22 b hb
  have k1 := h44 a.l b ha.l hb
  have k2 := h44 b.l a hb.l ha
  have ca : checkE a = 0 → CheckP a := checkE_iff.1
  have cb : checkE b = 0 → CheckP b := checkE_iff.1
  have hla := ha.l.len
  have hlb := hb.l.len
  have hFL : FL a.l → FL b.l → a.l.length ≤ 64 → b.l.length ≤ 64 → FL (a.l ++ b.l) := fun h1 h2 h3 h4 => ⟨by simp; omega, fun s hs => by
    rcases List.mem_append.1 hs with hs | hs
    · exact h1.all s hs
    · exact h2.all s hs⟩
  have hFL := hFL ha.l hb.l
  obtain ⟨N, hN⟩ : ∃ N, N = meetN a b := ⟨_, rfl⟩
  obtain ⟨r, hr⟩ : ∃ r, r = D.tup [setD (meetS a b).1, .int .i64 (meetS a b).2] := ⟨_, rfl⟩
  rw [← hr]
  unfold meetS at hr
  rw [← hN] at hr
  obtain ⟨ea, hea⟩ : ∃ e, e = checkE a := ⟨_, rfl⟩
  obtain ⟨eb, heb⟩ : ∃ e, e = checkE b := ⟨_, rfl⟩
  rw [← hea, ← heb] at hr
  rw [← hea] at ka ca
  rw [← heb] at kb cb
  obtain ⟨fa, hfa⟩ : ∃ f, f = (a.l.filter (hasB b)).map mkS := ⟨_, rfl⟩
  obtain ⟨fb, hfb⟩ : ∃ f, f = (b.l.filter (hasB a)).map mkS := ⟨_, rfl⟩
  unfold meetN at hN
  rw [show setD ⟨false, false, false, a.l.filter (hasB b), 0, 0⟩ = .agg [.bool false, .bool false, .bool false, .sl 1 false fa, .int .i64 0, .int .i64 0] by rw [hfa]; rfl] at k1
  rw [show setD ⟨false, false, false, b.l.filter (hasB a), 0, 0⟩ = .agg [.bool false, .bool false, .bool false, .sl 1 false fb, .int .i64 0, .int .i64 0] by rw [hfb]; rfl] at k2
  obtain ⟨FA, hFA⟩ : ∃ F, F = a.l.filter (hasB b) := ⟨_, rfl⟩
  obtain ⟨FB, hFB⟩ : ∃ F, F = b.l.filter (hasB a) := ⟨_, rfl⟩
  rw [← hFA] at hfa hN
  rw [← hFB] at hfb hN
  clear hea heb hFA hFB ha hb h22 h44
  obtain ⟨m, n, u, l, lo, hi⟩ := a
  obtain ⟨m', n', u', l', lo', hi'⟩ := b
  unfold setD at ka kb k1 k2 ⊢
  simp only at ka kb k1 k2 ca cb hla hlb hFL hr hN ⊢
  obtain ⟨xs, hxs⟩ : ∃ xs, xs = l.map mkS := ⟨_, rfl⟩
  obtain ⟨ys, hys⟩ : ∃ ys, ys = l'.map mkS := ⟨_, rfl⟩
  have hcx : CleanL xs := cleanL_map clean_S hxs
  have hcy : CleanL ys := cleanL_map clean_S hys
  rw [← hxs] at ka k1 k2 ⊢
  rw [← hys] at kb k1 k2 ⊢
  refine wpF_sound ⟨rfl, by decide⟩ fun O hO V hV => ?_
  subst hV
  have hlx : O .len xs = l.length := by rw [o_len hO, hxs]; simp
  have hly : O .len ys = l'.length := by rw [o_len hO, hys]; simp
  conv => cbv
  refine ⟨hcx, _, ka, ?_⟩
  conv => cbv
  rintro (_ | _) h1
  · replace h1 := f_neq hO h1
    have ca := ca h1
    simp only [h1, ne_eq, not_true_eq_false, if_false] at hr
    conv => cbv
    refine ⟨hcy, _, kb, ?_⟩
    conv => cbv
    rintro (_ | _) h2
    · replace h2 := f_neq hO h2
      have cb := cb h2
      simp only [h2, not_true_eq_false, if_false] at hr
      have a1 : l.length ≤ 64 := ca.ord.1
      have b1 : l'.length ≤ 64 := cb.ord.1
      have hF := hFL a1 b1
      have hri := h39 (l ++ l') (by simp; omega)
      have happ : O .app xs ys = (l ++ l').map mkS := by rw [o_app hO, hxs, hys]; simp
      rw [← happ] at hri
      have hcap : CleanL (O .app xs ys) := cleanL_map clean_S happ
      obtain ⟨K, hK⟩ : ∃ K, K = risingS (l ++ l') := ⟨_, rfl⟩
      have hFK : FL K := by rw [hK]; exact hF.rising
      rw [← hK] at hri hN
      obtain ⟨ks, hks⟩ : ∃ ks, ks = K.map mkS := ⟨_, rfl⟩
      have hck : CleanL ks := cleanL_map clean_S hks
      rw [← hks] at hri
      have hlk : O .len ks = K.length := by rw [o_len hO, hks]; simp
      conv => cbv
      refine ⟨hcx.x, ⟨by rw [hlx]; omega⟩, ?_⟩
      conv => cbv
      refine ⟨hcy.x, ⟨by show (O .len xs + O .len ys) * ((16 : Nat) : Int) ≤ _; rw [hlx, hly]; omega⟩, ?_⟩
      conv => cbv
      refine ⟨hcap, _, hri, ?_⟩
      conv => cbv
      refine join_of (fun d => ∃ (S : SetV) (nl : Bool) (ss : List D) (ok : Bool), d = ⟨[(2, .ptr 2 1 0), (3, .ptr 3 1 0), (4, .ptr 4 1 0), (8, .ptr 8 1 0), (9, .bool ok)], [(2, ⟨1, .rw, .var, [.bool m, .bool n, .bool u, .sl 1 false xs, .int .i64 lo, .int .i64 hi]⟩), (3, ⟨1, .rw, .var, [.bool m', .bool n', .bool u', .sl 1 false ys, .int .i64 lo', .int .i64 hi']⟩), (4, ⟨1, .rw, .var, [.bool false, .bool false, .bool false, .sl 1 true [], .int .i64 0, .int .i64 0]⟩), (8, ⟨1, .rw, .var, [.bool S.m, .bool S.n, .bool S.u, .sl 1 nl ss, .int .i64 S.lo, .int .i64 S.hi]⟩)], false⟩ ∧ ss = S.l.map mkS ∧ ((ok = true ∧ N = some S) ∨ (ok = false ∧ N = none))) (fun M upm => ?_) ?_
      · cases n with
        | false =>
          rw [if_pos rfl] at hN
          conv => cbv
          refine ⟨hcx, hcy, _, k1, ?_⟩
          conv => cbv
          exact ⟨_, upm _ ⟨⟨false, false, false, FA, 0, 0⟩, _, fa, true, rfl, hfa, .inl ⟨rfl, hN⟩⟩, ⟨⟨rfl, rfl, rfl, rfl, rfl, trivial⟩, ⟨rfl, rfl, rfl, rfl, trivial⟩, rfl⟩⟩
        | true =>
          rw [if_neg (by simp)] at hN
          cases n' with
          | false =>
            rw [if_pos rfl] at hN
            conv => cbv
            refine ⟨hcy, hcx, _, k2, ?_⟩
            conv => cbv
            exact ⟨_, upm _ ⟨⟨false, false, false, FB, 0, 0⟩, _, fb, true, rfl, hfb, .inl ⟨rfl, hN⟩⟩, ⟨⟨rfl, rfl, rfl, rfl, rfl, trivial⟩, ⟨rfl, rfl, rfl, rfl, trivial⟩, rfl⟩⟩
          | true =>
            rw [if_neg (by simp)] at hN
            cases u with
            | false =>
              cases u' with
              | false =>
                rw [if_pos ⟨rfl, rfl⟩] at hN
                conv => cbv
                rintro (_ | _) h3
                · replace h3 := f_leq hO h3
                  rw [hlk] at h3
                  rw [if_neg (by omega)] at hN
                  conv => cbv
                  exact ⟨_, upm _ ⟨⟨false, true, false, K, 0, 0⟩, _, ks, false, rfl, hks, .inr ⟨rfl, hN⟩⟩, ⟨⟨rfl, rfl, rfl, rfl, rfl, trivial⟩, ⟨rfl, rfl, rfl, rfl, trivial⟩, rfl⟩⟩
                · replace h3 := t_leq hO h3
                  rw [hlk] at h3
                  rw [if_pos (by omega)] at hN
                  conv => cbv
                  exact ⟨_, upm _ ⟨⟨false, true, false, K, 0, 0⟩, _, ks, true, rfl, hks, .inl ⟨rfl, hN⟩⟩, ⟨⟨rfl, rfl, rfl, rfl, rfl, trivial⟩, ⟨rfl, rfl, rfl, rfl, trivial⟩, rfl⟩⟩
              | true =>
                rw [if_neg (by simp), if_pos rfl] at hN
                have cu := cb.u rfl
                simp only at cu
                obtain ⟨S, bb, hS, hNr⟩ := h40 lo' hi' K (by omega) (by unfold most least at *; omega) (by omega) (by unfold most least at *; omega) hFK
                obtain ⟨ss, hss⟩ : ∃ ss, ss = S.l.map mkS := ⟨_, rfl⟩
                unfold setD at hS
                rw [← hss, ← hks] at hS
                have hrel : (bb = true ∧ N = some S) ∨ (bb = false ∧ N = none) := by
                  rcases hNr with ⟨h, h'⟩ | ⟨h, h'⟩
                  · exact .inl ⟨h, by rw [hN, h']⟩
                  · exact .inr ⟨h, by rw [hN, h']⟩
                obtain ⟨sm, sn, su, sl, slo, shi⟩ := S
                simp only at hS hss
                conv => cbv
                refine ⟨hck, _, hS, ?_⟩
                conv => cbv
                exact ⟨_, upm _ ⟨⟨sm, sn, su, sl, slo, shi⟩, _, ss, bb, rfl, hss, hrel⟩, ⟨⟨rfl, rfl, rfl, rfl, rfl, trivial⟩, ⟨rfl, rfl, rfl, rfl, trivial⟩, rfl⟩⟩
            | true =>
              have cu := ca.u rfl
              simp only at cu
              cases u' with
              | false =>
                rw [if_neg (by simp), if_neg (by simp), if_pos rfl] at hN
                obtain ⟨S, bb, hS, hNr⟩ := h40 lo hi K (by omega) (by unfold most least at *; omega) (by omega) (by unfold most least at *; omega) hFK
                obtain ⟨ss, hss⟩ : ∃ ss, ss = S.l.map mkS := ⟨_, rfl⟩
                unfold setD at hS
                rw [← hss, ← hks] at hS
                have hrel : (bb = true ∧ N = some S) ∨ (bb = false ∧ N = none) := by
                  rcases hNr with ⟨h, h'⟩ | ⟨h, h'⟩
                  · exact .inl ⟨h, by rw [hN, h']⟩
                  · exact .inr ⟨h, by rw [hN, h']⟩
                obtain ⟨sm, sn, su, sl, slo, shi⟩ := S
                simp only at hS hss
                conv => cbv
                refine ⟨hck, _, hS, ?_⟩
                conv => cbv
                exact ⟨_, upm _ ⟨⟨sm, sn, su, sl, slo, shi⟩, _, ss, bb, rfl, hss, hrel⟩, ⟨⟨rfl, rfl, rfl, rfl, rfl, trivial⟩, ⟨rfl, rfl, rfl, rfl, trivial⟩, rfl⟩⟩
              | true =>
                rw [if_neg (by simp), if_neg (by simp), if_neg (by simp)] at hN
                have cu' := cb.u rfl
                simp only at cu'
                obtain ⟨lo2, hlo2⟩ : ∃ x : Int, x = max lo lo' := ⟨_, rfl⟩
                obtain ⟨hi2, hhi2⟩ : ∃ x : Int, x = min hi hi' := ⟨_, rfl⟩
                rw [← hlo2, ← hhi2] at hN
                conv => cbv
                rintro (_ | _) h3
                · replace h3 := f_gtr hO h3
                  have e1 : lo2 = lo := by omega
                  rw [e1] at hN
                  conv => cbv
                  rintro (_ | _) h4
                  · replace h4 := f_lss hO h4
                    have e2 : hi2 = hi := by omega
                    rw [e2] at hN
                    obtain ⟨S, bb, hS, hNr⟩ := h40 lo hi K (by omega) (by unfold most least at *; omega) (by omega) (by unfold most least at *; omega) hFK
                    obtain ⟨ss, hss⟩ : ∃ ss, ss = S.l.map mkS := ⟨_, rfl⟩
                    unfold setD at hS
                    rw [← hss, ← hks] at hS
                    have hrel : (bb = true ∧ N = some S) ∨ (bb = false ∧ N = none) := by
                      rcases hNr with ⟨h, h'⟩ | ⟨h, h'⟩
                      · exact .inl ⟨h, by rw [hN, h']⟩
                      · exact .inr ⟨h, by rw [hN, h']⟩
                    obtain ⟨sm, sn, su, sl, slo, shi⟩ := S
                    simp only at hS hss
                    conv => cbv
                    refine ⟨hck, _, hS, ?_⟩
                    conv => cbv
                    exact ⟨_, upm _ ⟨⟨sm, sn, su, sl, slo, shi⟩, _, ss, bb, rfl, hss, hrel⟩, ⟨⟨rfl, rfl, rfl, rfl, rfl, trivial⟩, ⟨rfl, rfl, rfl, rfl, trivial⟩, rfl⟩⟩
                  · replace h4 := t_lss hO h4
                    have e2 : hi2 = hi' := by omega
                    rw [e2] at hN
                    obtain ⟨S, bb, hS, hNr⟩ := h40 lo hi' K (by omega) (by unfold most least at *; omega) (by omega) (by unfold most least at *; omega) hFK
                    obtain ⟨ss, hss⟩ : ∃ ss, ss = S.l.map mkS := ⟨_, rfl⟩
                    unfold setD at hS
                    rw [← hss, ← hks] at hS
                    have hrel : (bb = true ∧ N = some S) ∨ (bb = false ∧ N = none) := by
                      rcases hNr with ⟨h, h'⟩ | ⟨h, h'⟩
                      · exact .inl ⟨h, by rw [hN, h']⟩
                      · exact .inr ⟨h, by rw [hN, h']⟩
                    obtain ⟨sm, sn, su, sl, slo, shi⟩ := S
                    simp only at hS hss
                    conv => cbv
                    refine ⟨hck, _, hS, ?_⟩
                    conv => cbv
                    exact ⟨_, upm _ ⟨⟨sm, sn, su, sl, slo, shi⟩, _, ss, bb, rfl, hss, hrel⟩, ⟨⟨rfl, rfl, rfl, rfl, rfl, trivial⟩, ⟨rfl, rfl, rfl, rfl, trivial⟩, rfl⟩⟩
                · replace h3 := t_gtr hO h3
                  have e1 : lo2 = lo' := by omega
                  rw [e1] at hN
                  conv => cbv
                  rintro (_ | _) h4
                  · replace h4 := f_lss hO h4
                    have e2 : hi2 = hi := by omega
                    rw [e2] at hN
                    obtain ⟨S, bb, hS, hNr⟩ := h40 lo' hi K (by omega) (by unfold most least at *; omega) (by omega) (by unfold most least at *; omega) hFK
                    obtain ⟨ss, hss⟩ : ∃ ss, ss = S.l.map mkS := ⟨_, rfl⟩
                    unfold setD at hS
                    rw [← hss, ← hks] at hS
                    have hrel : (bb = true ∧ N = some S) ∨ (bb = false ∧ N = none) := by
                      rcases hNr with ⟨h, h'⟩ | ⟨h, h'⟩
                      · exact .inl ⟨h, by rw [hN, h']⟩
                      · exact .inr ⟨h, by rw [hN, h']⟩
                    obtain ⟨sm, sn, su, sl, slo, shi⟩ := S
                    simp only at hS hss
                    conv => cbv
                    refine ⟨hck, _, hS, ?_⟩
                    conv => cbv
                    exact ⟨_, upm _ ⟨⟨sm, sn, su, sl, slo, shi⟩, _, ss, bb, rfl, hss, hrel⟩, ⟨⟨rfl, rfl, rfl, rfl, rfl, trivial⟩, ⟨rfl, rfl, rfl, rfl, trivial⟩, rfl⟩⟩
                  · replace h4 := t_lss hO h4
                    have e2 : hi2 = hi' := by omega
                    rw [e2] at hN
                    obtain ⟨S, bb, hS, hNr⟩ := h40 lo' hi' K (by omega) (by unfold most least at *; omega) (by omega) (by unfold most least at *; omega) hFK
                    obtain ⟨ss, hss⟩ : ∃ ss, ss = S.l.map mkS := ⟨_, rfl⟩
                    unfold setD at hS
                    rw [← hss, ← hks] at hS
                    have hrel : (bb = true ∧ N = some S) ∨ (bb = false ∧ N = none) := by
                      rcases hNr with ⟨h, h'⟩ | ⟨h, h'⟩
                      · exact .inl ⟨h, by rw [hN, h']⟩
                      · exact .inr ⟨h, by rw [hN, h']⟩
                    obtain ⟨sm, sn, su, sl, slo, shi⟩ := S
                    simp only at hS hss
                    conv => cbv
                    refine ⟨hck, _, hS, ?_⟩
                    conv => cbv
                    exact ⟨_, upm _ ⟨⟨sm, sn, su, sl, slo, shi⟩, _, ss, bb, rfl, hss, hrel⟩, ⟨⟨rfl, rfl, rfl, rfl, rfl, trivial⟩, ⟨rfl, rfl, rfl, rfl, trivial⟩, rfl⟩⟩
      · rintro d ⟨S, nl, ss, ok, rfl, hss, hrel⟩
        have hcs : CleanL ss := cleanL_map clean_S hss
        obtain ⟨sm, sn, su, sl, slo, shi⟩ := S
        simp only at hss
        rcases hrel with ⟨rfl, hNs⟩ | ⟨rfl, hNs⟩
        · rw [hNs] at hr
          cases m <;> cases m' <;> (conv => cbv) <;> refine ⟨hcs, ?_⟩ <;> (conv => cbv) <;> (rw [hr]; simp only [setD]; rw [← hss]; rfl)
        · rw [hNs] at hr
          conv => cbv
          rw [hr]
          exact ⟨⟨rfl, rfl⟩, rfl⟩
    · replace h2 := t_neq hO h2
      conv => cbv
      rw [hr, if_pos h2]
      exact ⟨⟨rfl, rfl⟩, rfl⟩
  · replace h1 := t_neq hO h1
    conv => cbv
    rw [hr, if_pos h1]
    exact ⟨⟨rfl, rfl⟩, rfl⟩
end Go.Proofs.AM
namespace Go.Proofs.AM
open Go Go.Lib Cd
set_option maxRecDepth 100000 in
set_option maxHeartbeats 16000000 in
theorem meet24_ok (R : Ans) (a b : SetV) (ha : FS a) (hb : FS b) (h23 : ∀ s, FS s → R.v 23 [setD s] (.int .i64 (checkE s))) (h43 : ∀ s x, FS s → SL x → R.v 43 [setD s, mkS x] (.bool (hasRaw s x)))
    (h32 : ∀ K : List Str, K.Nodup → (∀ s ∈ K, SL s) → K.length ≤ 8796093022208 → R.v 32 [.mapv (K.map ent)] (.sl 1 false ((risingS K).map mkS)))
    (h33 : ∀ L : List (List Str), L.length ≤ 8796093022208 → (∀ l ∈ L, l.length ≤ 8796093022208) → SCall R 300 33 [.sl 1 false (L.map lD)] [] (fun r kn => ∃ g c, r = .mapr 308 g ∧ kn = [(308, ⟨g, .rw, .map, .int .i64 c :: (groupS L).map ent⟩)]))
    (h34 : ∀ (lo hi : Int) (K : List Str) (gm : Nat) (c0 : Int), least ≤ lo → lo ≤ most + 1 → hi ≤ most → least - 1 ≤ hi → K.Nodup → (∀ s ∈ K, SL s) → K.length ≤ 8796093022208 → SCall R 600 34 [.int .i64 lo, .int .i64 hi, .mapr 308 gm] [(308, ⟨gm, .rw, .map, .int .i64 c0 :: K.map ent⟩)] (fun r _ => ∃ S b, r = .tup [setD S, .bool b] ∧ NumsR lo hi K S b)) :
    AnsF R c24 [setD a, setD b] (.tup [setD (meetS a b).1, .int .i64 (meetS a b).2]) := by
  have ka := h23 a ha
  have kb := h23 b hb
  have ca : checkE a = 0 → CheckP a := checkE_iff.1
  have cb : checkE b = 0 → CheckP b := checkE_iff.1
  obtain ⟨N, hN⟩ : ∃ N, N = meetN a b := ⟨_, rfl⟩
  obtain ⟨r, hr⟩ : ∃ r, r = D.tup [setD (meetS a b).1, .int .i64 (meetS a b).2] := ⟨_, rfl⟩
  rw [← hr]
  unfold meetS at hr
  rw [← hN] at hr
  obtain ⟨ea, hea⟩ : ∃ e, e = checkE a := ⟨_, rfl⟩
  obtain ⟨eb, heb⟩ : ∃ e, e = checkE b := ⟨_, rfl⟩
  rw [← hea, ← heb] at hr
  rw [← hea] at ka ca
  rw [← heb] at kb cb
  clear hea heb h23
  obtain ⟨xa, hxa⟩ : ∃ xs, xs = a.l.map mkS := ⟨_, rfl⟩
  obtain ⟨xb, hxb⟩ : ∃ xs, xs = b.l.map mkS := ⟨_, rfl⟩
  have hca : CleanL xa := cleanL_map clean_S hxa
  have hcb : CleanL xb := cleanL_map clean_S hxb
  unfold setD at ka kb ⊢
  rw [← hxa] at ka ⊢
  rw [← hxb] at kb ⊢
  have key : ∀ A B : SetV, (swB a b = false ∧ A = a ∧ B = b) ∨ (swB a b = true ∧ A = b ∧ B = a) → True := fun _ _ _ => trivial
  refine wpF_sound ⟨rfl, by decide⟩ fun O hO V hV => ?_
  subst hV
  conv => cbv
  refine ⟨hca, _, ka, ?_⟩
  conv => cbv
  rintro (_ | _) h1
  · replace h1 := f_neq hO h1
    have ca := ca h1
    simp only [h1, ne_eq, not_true_eq_false, if_false] at hr
    conv => cbv
    refine ⟨hcb, _, kb, ?_⟩
    conv => cbv
    rintro (_ | _) h2
    · replace h2 := f_neq hO h2
      have cb := cb h2
      simp only [h2, not_true_eq_false, if_false] at hr
      have la : a.l.length ≤ 64 := ca.ord.1
      have lb : b.l.length ≤ 64 := cb.ord.1
      conv => cbv
      refine join_of (fun d => ∃ (A B : SetV) (xs ys : List D), d = ⟨[(2, .ptr 2 1 0), (3, .ptr 3 1 0), (4, .ptr 4 1 0)], [(2, ⟨1, .rw, .var, [.bool A.m, .bool A.n, .bool A.u, .sl 1 false xs, .int .i64 A.lo, .int .i64 A.hi]⟩), (3, ⟨1, .rw, .var, [.bool B.m, .bool B.n, .bool B.u, .sl 1 false ys, .int .i64 B.lo, .int .i64 B.hi]⟩), (4, ⟨1, .rw, .var, [.bool false, .bool false, .bool false, .sl 1 true [], .int .i64 0, .int .i64 0]⟩)], false⟩ ∧ xs = A.l.map mkS ∧ ys = B.l.map mkS ∧ ((swB a b = false ∧ A = a ∧ B = b) ∨ (swB a b = true ∧ A = b ∧ B = a))) (fun M upm => ?_) ?_
      · obtain ⟨m, n, u, l, lo, hi⟩ := a
        obtain ⟨m', n', u', l', lo', hi'⟩ := b
        have yes : swB ⟨m, n, u, l, lo, hi⟩ ⟨m', n', u', l', lo', hi'⟩ = true → ∃ d, M d ∧ d = ⟨[(2, .ptr 2 1 0), (3, .ptr 3 1 0), (4, .ptr 4 1 0)], [(2, ⟨1, .rw, .var, [.bool m', .bool n', .bool u', .sl 1 false xb, .int .i64 lo', .int .i64 hi']⟩), (3, ⟨1, .rw, .var, [.bool m, .bool n, .bool u, .sl 1 false xa, .int .i64 lo, .int .i64 hi]⟩), (4, ⟨1, .rw, .var, [.bool false, .bool false, .bool false, .sl 1 true [], .int .i64 0, .int .i64 0]⟩)], false⟩ := fun h => ⟨_, upm _ ⟨_, _, xb, xa, rfl, hxb, hxa, .inr ⟨h, rfl, rfl⟩⟩, rfl⟩
        have no : swB ⟨m, n, u, l, lo, hi⟩ ⟨m', n', u', l', lo', hi'⟩ = false → ∃ d, M d ∧ d = ⟨[(2, .ptr 2 1 0), (3, .ptr 3 1 0), (4, .ptr 4 1 0)], [(2, ⟨1, .rw, .var, [.bool m, .bool n, .bool u, .sl 1 false xa, .int .i64 lo, .int .i64 hi]⟩), (3, ⟨1, .rw, .var, [.bool m', .bool n', .bool u', .sl 1 false xb, .int .i64 lo', .int .i64 hi']⟩), (4, ⟨1, .rw, .var, [.bool false, .bool false, .bool false, .sl 1 true [], .int .i64 0, .int .i64 0]⟩)], false⟩ := fun h => ⟨_, upm _ ⟨_, _, xa, xb, rfl, hxa, hxb, .inl ⟨h, rfl, rfl⟩⟩, rfl⟩
        cases n <;> cases n' <;> cases u <;> cases u' <;> (conv => cbv)
        all_goals first
          | (obtain ⟨d, h3, h4⟩ := yes rfl; exact ⟨d, h3, by subst h4; exact ⟨⟨rfl, rfl, rfl, trivial⟩, ⟨rfl, rfl, rfl, trivial⟩, rfl⟩⟩)
          | (obtain ⟨d, h3, h4⟩ := no rfl; exact ⟨d, h3, by subst h4; exact ⟨⟨rfl, rfl, rfl, trivial⟩, ⟨rfl, rfl, rfl, trivial⟩, rfl⟩⟩)
      · rintro d ⟨A, B, xs, ys, rfl, hxs, hys, hsw⟩
        have hN2 := meetN_prog ca cb hsw
        rw [← hN] at hN2
        have hFA : FS A ∧ A.l.length ≤ 64 ∧ CheckP A := by rcases hsw with ⟨_, rfl, rfl⟩ | ⟨_, rfl, rfl⟩ <;> exact ⟨by assumption, by assumption, by assumption⟩
        have hFB : FS B ∧ B.l.length ≤ 64 ∧ CheckP B := by rcases hsw with ⟨_, rfl, rfl⟩ | ⟨_, rfl, rfl⟩ <;> exact ⟨by assumption, by assumption, by assumption⟩
        have hmm : (a.m && b.m) = (A.m && B.m) := by rcases hsw with ⟨_, rfl, rfl⟩ | ⟨_, rfl, rfl⟩ <;> simp [Bool.and_comm]
        rw [hmm] at hr
        clear hsw hmm hN ka kb ca cb la lb hca hcb hxa hxb ha hb
        obtain ⟨hFA, la, cA⟩ := hFA
        obtain ⟨hFB, lb, cB⟩ := hFB
        have hcx : CleanL xs := cleanL_map clean_S hxs
        have hcy : CleanL ys := cleanL_map clean_S hys
        have hlx : O .len xs = A.l.length := by rw [o_len hO, hxs]; simp
        have h33' := h33 [A.l, B.l] (by simp) (by simp; omega)
        obtain ⟨K, hK⟩ : ∃ K, K = groupS [A.l, B.l] := ⟨_, rfl⟩
        have hKn : K.Nodup := by rw [hK]; exact groupS_nodup _
        have hKm : ∀ s, s ∈ K → s ∈ A.l ∨ s ∈ B.l := fun s hs => by rw [hK, groupS_mem] at hs; simpa using hs
        have hKs : ∀ s ∈ K, SL s := fun s hs => by
          rcases hKm s hs with h | h
          · exact hFA.l.all s h
          · exact hFB.l.all s h
        have hKl : K.length ≤ 128 := by
          have := groupS_len [A.l, B.l]
          rw [hK]
          simp at this
          omega
        rw [← hK] at h33' hN2
        have k32 := h32 K hKn hKs (by omega)
        have k43 := fun x hx => h43 B x hFB hx
        obtain ⟨hRaw, hhR⟩ : ∃ p, p = hasRaw B := ⟨_, rfl⟩
        rw [← hhR] at k43 hN2
        have hAall := hFA.l.all
        have cuA := cA.u
        have cuB := cB.u
        obtain ⟨ks, hks⟩ : ∃ ks, ks = K.map ent := ⟨_, rfl⟩
        have hck : CleanL ks := cleanL_map clean_ent hks
        have hlk : O .len ks = K.length := by rw [o_len hO, hks]; simp
        obtain ⟨rs, hrs⟩ : ∃ rs, rs = (risingS K).map mkS := ⟨_, rfl⟩
        have hcr : CleanL rs := cleanL_map clean_S hrs
        have hL33 : [A.l, B.l].map lD = [.sl 1 false xs, .sl 1 false ys] := by simp [lD, hxs, hys]
        rw [hL33, ← hks] at h33'
        rw [← hks, ← hrs] at k32
        clear h33 h32 h43 hL33 hFA hFB cA cB
        obtain ⟨m, n, u, l, lo, hi⟩ := A
        obtain ⟨m', n', u', l', lo', hi'⟩ := B
        unfold setD at k43
        simp only at hxs hys hlx la lb hN2 hr k43 hAall cuA cuB ⊢
        rw [← hys] at k43
        conv => cbv
        intro g8
        conv => cbv
        refine join_of (fun d => ∃ (S : SetV) (nl : Bool) (ss : List D) (ok : Bool) (sv : D) (g9 : Nat) (tl : List (Nat × Box)), d = ⟨[(2, .ptr 2 1 0), (3, .ptr 3 1 0), (4, .ptr 4 1 0), (8, .ptr 8 g8 0), (9, .bool ok)], [(2, ⟨1, .rw, .var, [.bool m, .bool n, .bool u, .sl 1 false xs, .int .i64 lo, .int .i64 hi]⟩), (3, ⟨1, .rw, .var, [.bool m', .bool n', .bool u', .sl 1 false ys, .int .i64 lo', .int .i64 hi']⟩), (4, ⟨1, .rw, .var, [.bool false, .bool false, .bool false, .sl 1 true [], .int .i64 0, .int .i64 0]⟩), (8, ⟨g8, .rw, .var, [.bool S.m, .bool S.n, .bool S.u, sv, .int .i64 S.lo, .int .i64 S.hi]⟩)] ++ tl, false⟩ ∧ ((sv = .sl 1 nl ss ∧ tl = []) ∨ (sv = .own 150 g9 ∧ tl = [(150, ⟨g9, .rw, .arr 1 9, ss⟩)])) ∧ ss = S.l.map mkS ∧ ((ok = true ∧ N = some S) ∨ (ok = false ∧ N = none))) (fun M upm => ?_) ?_
        · conv => cbv
          refine ⟨⟨by simp [closedL, closed, hcx.c, hcy.c]⟩, ?_⟩
          conv => cbv
          refine shared_of h33' (by decide) trivial ?_
          rintro r33 kn33 ⟨g33, c33, rfl, rfl⟩
          conv => cbv
          cases n with
          | false =>
            rw [if_pos rfl] at hN2
            conv => cbv
            intro g9
            conv => cbv
            refine loop_of (fun c d => ∃ (i : Int) (k g : Nat) (ac : List D), d = ⟨[(2, .ptr 2 1 0), (3, .ptr 3 1 0), (4, .ptr 4 1 0), (8, .ptr 8 g8 0), (9, .bool true), (73, .sl 1 false xs), (74, .int .i64 (O .len xs)), (75, .int .i64 i)], [(2, ⟨1, .rw, .var, [.bool m, .bool false, .bool u, .sl 1 false xs, .int .i64 lo, .int .i64 hi]⟩), (3, ⟨1, .rw, .var, [.bool m', .bool n', .bool u', .sl 1 false ys, .int .i64 lo', .int .i64 hi']⟩), (4, ⟨1, .rw, .var, [.bool false, .bool false, .bool false, .sl 1 true [], .int .i64 0, .int .i64 0]⟩), (8, ⟨g8, .rw, .var, [.bool false, .bool false, .bool false, .own 150 g, .int .i64 0, .int .i64 0]⟩), (150, ⟨g, .rw, .arr 1 9, ac⟩)], false⟩ ∧ i = k ∧ k ≤ l.length ∧ c = l.length - k ∧ ac = ((l.take k).filter hRaw).map mkS) ⟨_, _, ⟨_, 0, _, _, rfl, rfl, by omega, rfl, by simp⟩, ⟨⟨rfl, rfl, rfl, rfl, rfl, rfl, rfl, rfl, trivial⟩, ⟨rfl, rfl, rfl, rfl, rfl, trivial⟩, rfl⟩⟩ ?_
            rintro J up c d ⟨i, k, g, ac, rfl, hi', hk, rfl, hac⟩
            conv => cbv
            rintro (_ | _) h3
            · replace h3 := f_lss hO h3
              rw [hlx] at h3
              have : ac = (l.filter hRaw).map mkS := by rw [hac, List.take_of_length_le (by omega)]
              conv => cbv
              exact ⟨_, upm _ ⟨⟨false, false, false, l.filter hRaw, 0, 0⟩, false, ac, true, _, _, _, rfl, .inr ⟨rfl, rfl⟩, this, .inl ⟨rfl, hN2⟩⟩, ⟨⟨rfl, rfl, rfl, rfl, rfl, trivial⟩, ⟨rfl, rfl, rfl, rfl, rfl, trivial⟩, rfl⟩⟩
            · replace h3 := t_lss hO h3
              rw [hlx] at h3
              obtain ⟨y, hy⟩ : ∃ y, l[k]? = some y := ⟨_, List.getElem?_eq_getElem (by omega)⟩
              have hv := k43 y (hAall y (List.mem_of_getElem? hy))
              obtain ⟨q, hq⟩ : ∃ q, q = hRaw y := ⟨_, rfl⟩
              rw [← hq] at hv
              have hadd : O .iop .add .i64 i 1 = ((k + 1 : Nat) : Int) := by rw [o_add64 hO (by omega) (by omega)]; omega
              conv => cbv
              refine ⟨mkS y, atX_map hy hxs hi', ?_⟩
              conv => cbv
              refine ⟨hcy, _, hv, ?_⟩
              cases q with
              | false =>
                conv => cbv
                exact ⟨_, _, up _ _ ⟨_, k + 1, g, ac, rfl, hadd, by omega, rfl, by rw [hac, List.take_add_one, hy, List.filter_append]; simp [← hq]⟩, ⟨⟨rfl, rfl, rfl, rfl, rfl, rfl, rfl, rfl, trivial⟩, ⟨rfl, rfl, rfl, rfl, rfl, trivial⟩, rfl⟩, by omega⟩
              | true =>
                conv => cbv
                have hla : O .len ac ≤ k := by
                  have := List.length_filter_le hRaw (l.take k)
                  rw [o_len hO, hac]
                  simp at this ⊢
                  omega
                have hl1' : O .len [D.str ⟨⟨y⟩⟩] = 1 := by rw [o_len hO]; rfl
                obtain ⟨ac2, hac2⟩ : ∃ ac2, ac2 = O .app ac [D.str ⟨⟨y⟩⟩] := ⟨_, rfl⟩
                intro g85
                conv => cbv
                refine ⟨⟨rfl⟩, ⟨by show (O .len ac + O .len [D.str ⟨⟨y⟩⟩]) * ((16 : Nat) : Int) ≤ _; rw [hl1']; omega⟩, ?_⟩
                rw [← hac2]
                conv => cbv
                exact ⟨_, _, up _ _ ⟨_, k + 1, g + 1, ac2, rfl, hadd, by omega, rfl, by rw [hac2, o_app hO, hac, List.take_add_one, hy, List.filter_append]; simp [← hq, mkS]⟩, ⟨⟨rfl, rfl, rfl, rfl, rfl, rfl, rfl, rfl, trivial⟩, ⟨rfl, rfl, rfl, rfl, rfl, trivial⟩, rfl⟩, by omega⟩
          | true =>
            rw [if_neg (by simp)] at hN2
            cases u' with
            | false =>
              rw [if_pos rfl] at hN2
              conv => cbv
              refine ⟨hck, _, k32, ?_⟩
              conv => cbv
              rintro (_ | _) h3
              · replace h3 := f_leq hO h3
                rw [hlk] at h3
                rw [if_neg (by omega)] at hN2
                conv => cbv
                exact ⟨_, upm _ ⟨⟨false, true, false, risingS K, 0, 0⟩, _, rs, false, _, 0, _, rfl, .inl ⟨rfl, rfl⟩, hrs, .inr ⟨rfl, hN2⟩⟩, ⟨⟨rfl, rfl, rfl, rfl, rfl, trivial⟩, ⟨rfl, rfl, rfl, rfl, trivial⟩, rfl⟩⟩
              · replace h3 := t_leq hO h3
                rw [hlk] at h3
                rw [if_pos (by omega)] at hN2
                conv => cbv
                exact ⟨_, upm _ ⟨⟨false, true, false, risingS K, 0, 0⟩, _, rs, true, _, 0, _, rfl, .inl ⟨rfl, rfl⟩, hrs, .inl ⟨rfl, hN2⟩⟩, ⟨⟨rfl, rfl, rfl, rfl, rfl, trivial⟩, ⟨rfl, rfl, rfl, rfl, trivial⟩, rfl⟩⟩
            | true =>
              rw [if_neg (by simp)] at hN2
              have cu := cuB rfl
              cases u with
              | false =>
                rw [if_pos rfl] at hN2
                have h34' := h34 lo' hi' K g33 c33 (by omega) (by unfold most least at *; omega) (by omega) (by unfold most least at *; omega) hKn hKs (by omega)
                rw [← hks] at h34'
                conv => cbv
                refine shared_of0 h34' (by decide) ⟨rfl, trivial⟩ ?_
                rintro r34 ⟨S, bb, rfl, hNr⟩
                obtain ⟨ss, hss⟩ : ∃ ss, ss = S.l.map mkS := ⟨_, rfl⟩
                have hrel : (bb = true ∧ N = some S) ∨ (bb = false ∧ N = none) := by
                  rcases hNr with ⟨h, h'⟩ | ⟨h, h'⟩
                  · exact .inl ⟨h, by rw [hN2, h']⟩
                  · exact .inr ⟨h, by rw [hN2, h']⟩
                unfold setD
                rw [← hss]
                obtain ⟨sm, sn, su, sl, slo, shi⟩ := S
                simp only at hss
                conv => cbv
                exact ⟨_, upm _ ⟨⟨sm, sn, su, sl, slo, shi⟩, _, ss, bb, _, 0, _, rfl, .inl ⟨rfl, rfl⟩, hss, hrel⟩, ⟨⟨rfl, rfl, rfl, rfl, rfl, trivial⟩, ⟨rfl, rfl, rfl, rfl, trivial⟩, rfl⟩⟩
              | true =>
                rw [if_neg (by simp)] at hN2
                have cu' := cuA rfl
                obtain ⟨lo2, hlo2⟩ : ∃ x : Int, x = max lo lo' := ⟨_, rfl⟩
                obtain ⟨hi2, hhi2⟩ : ∃ x : Int, x = min hi hi' := ⟨_, rfl⟩
                rw [← hlo2, ← hhi2] at hN2
                have hmx : O .mx true lo lo' = lo2 := by rw [o_max hO, hlo2]
                have hmn : O .mx false hi hi' = hi2 := by rw [o_min hO, hhi2]
                have h34' := h34 lo2 hi2 K g33 c33 (by omega) (by unfold most least at *; omega) (by omega) (by unfold most least at *; omega) hKn hKs (by omega)
                rw [← hks] at h34'
                conv => cbv
                rw [hmx, hmn]
                refine shared_of0 h34' (by decide) ⟨rfl, trivial⟩ ?_
                rintro r34 ⟨S, bb, rfl, hNr⟩
                obtain ⟨ss, hss⟩ : ∃ ss, ss = S.l.map mkS := ⟨_, rfl⟩
                have hrel : (bb = true ∧ N = some S) ∨ (bb = false ∧ N = none) := by
                  rcases hNr with ⟨h, h'⟩ | ⟨h, h'⟩
                  · exact .inl ⟨h, by rw [hN2, h']⟩
                  · exact .inr ⟨h, by rw [hN2, h']⟩
                unfold setD
                rw [← hss]
                obtain ⟨sm, sn, su, sl, slo, shi⟩ := S
                simp only at hss
                conv => cbv
                exact ⟨_, upm _ ⟨⟨sm, sn, su, sl, slo, shi⟩, _, ss, bb, _, 0, _, rfl, .inl ⟨rfl, rfl⟩, hss, hrel⟩, ⟨⟨rfl, rfl, rfl, rfl, rfl, trivial⟩, ⟨rfl, rfl, rfl, rfl, trivial⟩, rfl⟩⟩
        · rintro d ⟨S, nl, ss, ok, sv, g9, tl, rfl, hsv, hss, hrel⟩
          have hcs : CleanL ss := cleanL_map clean_S hss
          obtain ⟨sm, sn, su, sl, slo, shi⟩ := S
          simp only at hss
          rcases hrel with ⟨rfl, hNs⟩ | ⟨rfl, hNs⟩
          · rw [hNs] at hr
            rcases hsv with ⟨rfl, rfl⟩ | ⟨rfl, rfl⟩
            · cases m <;> cases m' <;> (conv => cbv) <;> refine ⟨hcs, ?_⟩ <;> (conv => cbv) <;> (rw [hr]; simp only [setD]; rw [← hss]; rfl)
            · cases m <;> cases m' <;> (conv => cbv) <;> refine ⟨hcs, ?_⟩ <;> (conv => cbv) <;> (rw [hr]; simp only [setD]; rw [← hss]; rfl)
          · rw [hNs] at hr
            rcases hsv with ⟨rfl, rfl⟩ | ⟨rfl, rfl⟩
            · conv => cbv
              rw [hr]
              exact ⟨⟨rfl, rfl⟩, rfl⟩
            · conv => cbv
              rw [hr]
              exact ⟨⟨rfl, rfl⟩, rfl⟩
    · replace h2 := t_neq hO h2
      conv => cbv
      rw [hr, if_pos h2]
      exact ⟨⟨rfl, rfl⟩, rfl⟩
  · replace h1 := t_neq hO h1
    conv => cbv
    rw [hr, if_pos h1]
    exact ⟨⟨rfl, rfl⟩, rfl⟩
end Go.Proofs.AM
namespace Go.Proofs.AM
open Go Go.Lib Cd
set_option maxRecDepth 100000 in
set_option maxHeartbeats 4000000 in
theorem live14_ok (R : Ans) (h12 : ∀ q, FR q → R.v 12 [reqD q] (.tup [setD (ofSet q), .int .i64 (wrongE q)])) (h24 : ∀ a b, FS a → FS b → R.v 24 [setD a, setD b] (.tup [setD (meetS a b).1, .int .i64 (meetS a b).2]))
    (h21 : ∀ a b, FS a → FS b → R.v 21 [setD a, setD b] (.bool (decide (a = b)))) (h26 : ∀ s x, FS s → SL x → R.v 26 [setD s, mkS x] (.bool (hasB s x)))
    (h19 : ∀ s, SL s → R.v 19 [mkS s] (.bool (valueB s))) (h18 : ∀ s, SL s → R.v 18 [mkS s] (.bool (nameB s))) : AnsF R c14 [] (.bool true) := by
  have k1 := h12 _ fr_zone
  have k2 := h12 _ fr_above
  have k3 := h12 _ fr_below
  have k4 := h12 _ fr_none
  rw [set_zone, wrong_zone] at k1
  rw [set_above, wrong_above] at k2
  rw [set_below, wrong_below] at k3
  rw [set_none, wrong_none] at k4
  have k5 := h24 _ _ fs_above fs_below
  rw [meet_live] at k5
  have k6 := h21 _ _ fs_AB fs_AB
  have k7 := h21 _ _ fs_45 fs_45
  have k8 := h26 sAbove [52] fs_above (by unfold SL; decide)
  rw [has_4] at k8
  have k9 := h26 sAbove [48, 52] fs_above (by unfold SL; decide)
  rw [has_04] at k9
  have k10 := h19 [120, 45, 49] (by unfold SL; decide)
  rw [value_x1] at k10
  have k11 := h18 [53] (by unfold SL; decide)
  rw [name_5] at k11
  simp only [decide_true] at k6 k7
  clear h12 h24 h21 h26 h19 h18
  conv at k1 => cbv
  conv at k2 => cbv
  conv at k3 => cbv
  conv at k4 => cbv
  conv at k5 => cbv
  conv at k6 => cbv
  conv at k7 => cbv
  conv at k8 => cbv
  conv at k9 => cbv
  conv at k10 => cbv
  conv at k11 => cbv
  refine wpF_sound ⟨rfl, by decide⟩ fun O hO V hV => ?_
  subst hV
  conv => cbv
  repeat refine ⟨⟨rfl, rfl⟩, ?_⟩
  refine ⟨_, k1, ?_⟩
  conv => cbv
  repeat refine ⟨⟨rfl, rfl⟩, ?_⟩
  refine ⟨_, k2, ?_⟩
  conv => cbv
  repeat refine ⟨⟨rfl, rfl⟩, ?_⟩
  refine ⟨_, k3, ?_⟩
  conv => cbv
  repeat refine ⟨⟨rfl, rfl⟩, ?_⟩
  refine ⟨_, k5, ?_⟩
  conv => cbv
  repeat refine ⟨⟨rfl, rfl⟩, ?_⟩
  refine ⟨_, k4, ?_⟩
  conv => cbv
  rintro (_ | _) h
  · conv => cbv
    exfalso; exact f_eql hO h rfl
  clear h
  conv => cbv
  rintro (_ | _) h
  · conv => cbv
    exfalso; exact f_eql hO h rfl
  clear h
  conv => cbv
  rintro (_ | _) h
  · conv => cbv
    exfalso; exact f_eql hO h rfl
  clear h
  conv => cbv
  rintro (_ | _) h
  · conv => cbv
    exfalso; exact f_eql hO h rfl
  clear h
  conv => cbv
  rintro (_ | _) h
  · conv => cbv
    exfalso; exact f_eql hO h rfl
  clear h
  conv => cbv
  repeat refine ⟨⟨rfl, rfl⟩, ?_⟩
  refine ⟨_, k6, ?_⟩
  conv => cbv
  repeat refine ⟨⟨rfl, rfl⟩, ?_⟩
  refine ⟨_, k7, ?_⟩
  conv => cbv
  repeat refine ⟨⟨rfl, rfl⟩, ?_⟩
  refine ⟨_, k8, ?_⟩
  conv => cbv
  repeat refine ⟨⟨rfl, rfl⟩, ?_⟩
  refine ⟨_, k9, ?_⟩
  conv => cbv
  repeat refine ⟨⟨rfl, rfl⟩, ?_⟩
  refine ⟨_, k10, ?_⟩
  conv => cbv
  repeat refine ⟨⟨rfl, rfl⟩, ?_⟩
  refine ⟨_, k11, ?_⟩
  conv => cbv
  trivial
end Go.Proofs.AM
namespace Go.Proofs.AM
open Go Go.Lib Cd
abbrev PR3 : Ans := PR Tryd.prog (Gd Tryd.prog)
theorem pr3 {sh : List Nat} {f : Nat} {fn : Go.Func} {af : Func} (he : Enters Tryd.prog f) (hf : Tryd.prog.funcs[f]? = some fn) (hT : funcT Tryd.prog sh fn = some af.erase) {args : List D} {r : D} (h : AnsF PR3 af args r) : PR3.v f args r :=
  PR_of (Gd.grows _) follows_mixed he hf hT h
theorem k18 (s : Str) (hs : SL s) : PR3.v 18 [mkS s] (.bool (nameB s)) := pr3 E18 Tryd.func18 T18 (name18_ok _ s hs)
theorem k16 (s : Str) (hs : SL s) : PR3.v 16 [mkS s] (.bool (nameB s)) := pr3 E16 Tryd.func16 T16 (name16_ok _ s hs)
theorem k37 (n : Int) (hn : FI n) : PR3.v 37 [.int .i64 n] (mkS (itoa n)) := pr3 E37 Tryd.func37 T37 (decimal37_ok _ n hn)
theorem k15 (s : Str) (hs : SL s) (v : Int) (b : Bool) (h : NumR s v b) : PR3.v 15 [mkS s] (.tup [.int .i64 v, .bool b]) := pr3 E15 Tryd.func15 T15 (number15_ok _ k37 s hs v b h)
theorem k13 (s : Str) (hs : SL s) (v : Int) (b : Bool) (h : NumR s v b) : PR3.v 13 [mkS s] (.tup [.int .i64 v, .bool b]) := pr3 E13 Tryd.func13 T13 (number13_ok _ parse35 fmt36 s hs v b h)
theorem k17 (s : Str) (hs : SL s) : PR3.v 17 [mkS s] (.bool (valueB s)) := pr3 E17 Tryd.func17 T17 (value17_ok _ k16 k15 s hs)
theorem k19 (s : Str) (hs : SL s) : PR3.v 19 [mkS s] (.bool (valueB s)) := pr3 E19 Tryd.func19 T19 (value19_ok _ k18 k13 s hs)
theorem k45 (l : List Str) (x : Str) (hl : l.length < 4611686018427387904) : PR3.v 45 [.sl 1 false (l.map mkS), mkS x] (.bool (decide (x ∈ l))) := pr3 E45 Tryd.func45 T45 (in45_ok _ l hl x)
theorem k69 (l : List Str) (hl : l.length < 4611686018427387904) (x : Str) : ∃ n : Int, PR3.v 69 [.sl 1 false (l.map mkS), mkS x] (.int .i64 n) ∧ (x ∈ l → 0 ≤ n) ∧ (x ∉ l → n = -1) := by
  obtain ⟨n, h1, h2⟩ := index69_ok PR3 l hl x
  exact ⟨n, pr3 E69 Tryd.func69 T69 h1, h2⟩
theorem k55 (l : List Str) (hl : l.length < 4611686018427387904) (x : Str) : PR3.v 55 [.sl 1 false (l.map mkS), mkS x] (.bool (decide (x ∈ l))) := pr3 E55 Tryd.func55 T55 (contains55_ok _ l x (k69 l hl x))
theorem k46 (l l' : List Str) (hl : FL l) (hl' : FL l') : PR3.v 46 [.sl 1 false (l.map mkS), .sl 1 false (l'.map mkS)] (.bool (decide (l = l'))) := pr3 E46 Tryd.func46 T46 (equal46_ok _ l l' hl hl')
theorem k41 (a b : SetV) (ha : FS a) (hb : FS b) : PR3.v 41 [setD a, setD b] (.bool (decide (a = b))) := pr3 E41 Tryd.func41 T41 (same41_ok _ a b ha hb)
theorem k30 (a b : SetV) (ha : FS a) (hb : FS b) : PR3.v 30 [setD a, setD b] (.bool (decide (a = b))) := pr3 E30 Tryd.func30 T30 (same30_ok _ a b (k46 _ _ ha.l hb.l))
theorem k21 (a b : SetV) (ha : FS a) (hb : FS b) : PR3.v 21 [setD a, setD b] (.bool (decide (a = b))) := pr3 E21 Tryd.func21 T21 (same21_ok _ a b (k41 a b ha hb))
theorem k54 (l : List Str) (x : Str) (hl : l.length < 8796093022208) : PR3.v 54 [.sl 1 false (l.map mkS), mkS x] (.sl 1 false ((putS x l).map mkS)) := pr3 E54 Tryd.func54 T54 (put54_ok _ l hl x)
theorem k39 (l : List Str) (hl : l.length ≤ 8796093022208) : PR3.v 39 [.sl 1 false (l.map mkS)] (.sl 1 false ((risingS l).map mkS)) := pr3 E39 Tryd.func39 T39 (rising39_ok _ k54 l hl)
theorem k42 (l : List Str) (hl : FL l) : PR3.v 42 [.sl 1 false (l.map mkS)] (.bool (ordB l)) := pr3 E42 Tryd.func42 T42 (ordered42_ok _ k17 l hl)
theorem k22 (s : SetV) (hs : FS s) : PR3.v 22 [setD s] (.int .i64 (checkE s)) := pr3 E22 Tryd.func22 T22 (check22_ok _ s hs (k42 _ hs.l) k15)
theorem k23 (s : SetV) (hs : FS s) : PR3.v 23 [setD s] (.int .i64 (checkE s)) := pr3 E23 Tryd.func23 T23 (check23_ok _ s hs k19 k13)
theorem fl_lt {l : List Str} (h : FL l) : l.length < 4611686018427387904 := by have := h.len; omega
theorem k43 (s : SetV) (x : Str) (hs : FS s) (hx : SL x) : PR3.v 43 [setD s, mkS x] (.bool (hasRaw s x)) := pr3 E43 Tryd.func43 T43 (has43_ok _ s x hx (k55 _ (fl_lt hs.l) x) k13)
theorem k26 (s : SetV) (x : Str) (hs : FS s) (hx : SL x) : PR3.v 26 [setD s, mkS x] (.bool (hasB s x)) := pr3 E26 Tryd.func26 T26 (has26_ok _ s x (k23 s hs) (k19 x hx) (k43 s x hs hx))
theorem k28 (s : SetV) (x : Str) (hs : FS s) (hx : SL x) : PR3.v 28 [setD s, mkS x] (.bool (hasB s x)) := pr3 E28 Tryd.func28 T28 (has28_ok _ s x (k22 s hs) (k17 x hx) (k45 _ x (fl_lt hs.l)) (k15 x hx))
theorem k27 (s : SetV) (hs : FS s) : PR3.v 27 [setD s] (.bool (emptyB s)) := pr3 E27 Tryd.func27 T27 (empty27_ok _ s (k23 s hs))
theorem k29 (s : SetV) (hs : FS s) : PR3.v 29 [setD s] (.bool (emptyB s)) := pr3 E29 Tryd.func29 T29 (empty29_ok _ s (k22 s hs))
theorem k33 (L : List (List Str)) (hL : L.length ≤ 8796093022208) (hl : ∀ l ∈ L, l.length ≤ 8796093022208) : PR3.v 33 [.sl 1 false (L.map lD)] (.mapv ((groupS L).map ent)) := pr3 E33 Tryd.func33 T33 (group33_ok _ L hL hl)
theorem k33s (L : List (List Str)) (hL : L.length ≤ 8796093022208) (hl : ∀ l ∈ L, l.length ≤ 8796093022208) : SCall PR3 300 33 [.sl 1 false (L.map lD)] [] (fun r kn => ∃ g c, r = .mapr 308 g ∧ kn = [(308, ⟨g, .rw, .map, .int .i64 c :: (groupS L).map ent⟩)]) :=
  SCall.of (Gd.grows _) follows_mixed E33 Tryd.func33 T33 ⟨rfl, by decide⟩ (group33_shared _ L hL hl)
theorem k34 (lo hi : Int) (h1 : least ≤ lo) (h2 : lo ≤ most + 1) (h3 : hi ≤ most) (h4 : least - 1 ≤ hi) : ∃ S b, PR3.v 34 [.int .i64 lo, .int .i64 hi, .mapv []] (.tup [setD S, .bool b]) ∧ NumsR lo hi [] S b := by
  obtain ⟨S, hS⟩ := numbersS_nil lo hi
  exact ⟨S, true, pr3 E34 Tryd.func34 T34 (numbers34_ok _ k13 fmt36 rising32 lo hi h1 h2 h3 h4 [] rfl (by simp) S true (.inl ⟨rfl, hS⟩)), .inl ⟨rfl, hS⟩⟩
theorem k34s (lo hi : Int) (K : List Str) (gm : Nat) (c0 : Int) (h1 : least ≤ lo) (h2 : lo ≤ most + 1) (h3 : hi ≤ most) (h4 : least - 1 ≤ hi) (hn : K.Nodup) (hs : ∀ s ∈ K, SL s) (hl : K.length ≤ 8796093022208) :
    SCall PR3 600 34 [.int .i64 lo, .int .i64 hi, .mapr 308 gm] [(308, ⟨gm, .rw, .map, .int .i64 c0 :: K.map ent⟩)] (fun r _ => ∃ S b, r = .tup [setD S, .bool b] ∧ NumsR lo hi K S b) :=
  SCall.of (Gd.grows _) follows_mixed E34 Tryd.func34 T34 ⟨rfl, by decide⟩ (numbers34_shared _ k13 fmt36 rising32 lo hi h1 h2 h3 h4 K hn hs hl gm c0)
theorem k40 (lo hi : Int) (K : List Str) (h1 : least ≤ lo) (h2 : lo ≤ most + 1) (h3 : hi ≤ most) (h4 : least - 1 ≤ hi) (hK : FL K) : ∃ S b, PR3.v 40 [.int .i64 lo, .int .i64 hi, .sl 1 false (K.map mkS)] (.tup [setD S, .bool b]) ∧ NumsR lo hi K S b := by
  obtain ⟨S, b, h, h', _⟩ := numbers40_ok PR3 k15 k37 k45 k54 lo hi h1 h2 h3 h4 K hK
  exact ⟨S, b, pr3 E40 Tryd.func40 T40 h, h'⟩
theorem k38 (q : ReqV) (hq : FR q) : PR3.v 38 [reqD q] (.int .i64 (wrongE q)) := pr3 E38 Tryd.func38 T38 (wrong38_ok _ q hq k16 k17 k45)
theorem k48 (s : Str) (hs : SL s) : PR3.v 48 [mkS s] (.bool (!valueB s)) := pr3 E48 Tryd.func48 T48 (not48_ok _ s (k19 s hs))
theorem k56 (l : List Str) (hl : FL l) : ∃ n : Int, PR3.v 56 [.sl 1 false (l.map mkS), .fn 48 [] []] (.int .i64 n) ∧ ((∃ y ∈ l, (!valueB y) = true) → 0 ≤ n) ∧ ((∀ y ∈ l, (!valueB y) = false) → n = -1) := by
  obtain ⟨n, h1, h2⟩ := indexf56_ok PR3 48 (fun y => !valueB y) l hl.len fun y hy => k48 y (hl.all y hy)
  exact ⟨n, pr3 E56 Tryd.func56 T56 h1, h2⟩
theorem k47 (l : List Str) (hl : FL l) (b : Bool) (hb : b = true ↔ ∃ y ∈ l, (!valueB y) = true) : PR3.v 47 [.sl 1 false (l.map mkS), .fn 48 [] []] (.bool b) := pr3 E47 Tryd.func47 T47 (containsf47_ok PR3 48 (fun y => !valueB y) l b hb (k56 l hl))
theorem k31 (q : ReqV) (hq : FR q) : PR3.v 31 [reqD q] (.int .i64 (wrongE q)) := pr3 E31 Tryd.func31 T31 (wrong31_ok _ q hq k18 (fun b hb => k47 _ hq.l b hb) (k33 [q.l] (by simp) (by simpa using hq.l.len)))
theorem k20 (q : ReqV) (hq : FR q) : PR3.v 20 [reqD q] (.tup [setD (ofSet q), .int .i64 (wrongE q)]) := pr3 E20 Tryd.func20 T20 (of20_ok _ q hq (k38 q hq) (k39 _ hq.l.len) fun lo hi h1 h2 h3 h4 => k40 lo hi [] h1 h2 h3 h4 ⟨by simp, by simp⟩)
theorem k12 (q : ReqV) (hq : FR q) : PR3.v 12 [reqD q] (.tup [setD (ofSet q), .int .i64 (wrongE q)]) := pr3 E12 Tryd.func12 T12 (of12_ok _ q hq (k31 q hq) k33 rising32 k34)
theorem k44 (l : List Str) (s : SetV) (hl : FL l) (hs : FS s) : PR3.v 44 [.sl 1 false (l.map mkS), setD s] (setD ⟨false, false, false, l.filter (hasB s), 0, 0⟩) := pr3 E44 Tryd.func44 T44 (listed44_ok _ l hl s fun x hx => k28 s x hs hx)
theorem k25 (a b : SetV) (ha : FS a) (hb : FS b) : PR3.v 25 [setD a, setD b] (.tup [setD (meetS a b).1, .int .i64 (meetS a b).2]) := pr3 E25 Tryd.func25 T25 (meet25_ok _ a b ha hb k22 k39 k44 k40)
theorem k24 (a b : SetV) (ha : FS a) (hb : FS b) : PR3.v 24 [setD a, setD b] (.tup [setD (meetS a b).1, .int .i64 (meetS a b).2]) := pr3 E24 Tryd.func24 T24 (meet24_ok _ a b ha hb k23 k43 rising32 k33s k34s)
theorem k14 : PR3.v 14 [] (.bool true) := pr3 E14 Tryd.func14 T14 (live14_ok _ k12 k24 k21 k26 k19 k18)
theorem c3_all : C3 PR3 := ⟨k18, k19, k13, k16, k17, k15, k22, k23, k12, k20, k24, k25, k26, k28, k27, k29, k30, k21, k14⟩
end Go.Proofs.AM
namespace Go.Proofs.YteaklhcejjiinaaDoor
open Go Go.ChangeShapes Go.WideShapes Go.ChangeAt Go.WideMaps Go.WideElems Go.RowKit Go.Proofs.AM
set_option maxRecDepth 100000
theorem own : ownKnob Tryd.prog.godebug = none := by kernel_rfl
theorem laidOut : laidOutB Tryd.prog = true := by kernel_rfl
abbrev laid5 : List (String × DataW Unit) := [("math/bits.deBruijn32tab", Rows.laid_math_bits_deBruijn32tab), ("math/bits.deBruijn64tab", Rows.laid_math_bits_deBruijn64tab), ("internal/strconv.uint64pow10", Rows.laid_internal_strconv_uint64pow10), ("strconv.ErrRange", Rows.laid_strconv_ErrRange), ("strconv.ErrSyntax", Rows.laid_strconv_ErrSyntax)]
theorem door_met (os : Os) (args : Array Value) : laidMetH Tryd.prog laid5 ((World.doorLaid Tryd.prog 62 os).forCall (fun _ _ => 0) ⟨#[], args, []⟩).memory :=
  laidMetH_of_parts3 (fuel := 8) (laidMet_of_run' 8 (by kernel_rfl) (by kernel_rfl)) (by kernel_rfl) (by kernel_rfl)
theorem star : "*" ++ "errors.errorString" = "*errors.errorString" := by decide
theorem row112 (u : TypeId) (h : Tryd.prog.typeName? 3 u = some "*errors.errorString") : u = 112 :=
  typeName_ptr_named (nm := "errors.errorString") (by rw [star]; kernel_rfl) (by kernel_rfl) (by decide) u (by rw [star]; exact h)
theorem of_laid {W : World} (h : laidMetH Tryd.prog laid5 W) : Gd Tryd.prog W := by
  rw [MakeChecks.laidMetH_plain _ _ _ (by kernel_rfl)] at h
  have h2 := h.tail.tail
  have h3 := h2.tail
  have h4 := h3.tail
  obtain ⟨a0, s0, hv0, -, -, -⟩ := laid_sentinel h3 (show Tryd.prog.globalNamed "strconv.ErrRange" = some 1 by kernel_rfl) (show (Tryd.prog.globals[1]?).map (·.type) = some 50 by kernel_rfl) Tryd.underlying50 row112 Tryd.underlying112 Tryd.underlying114 rfl rfl Tryd.underlying9 (by kernel_rfl) (by kernel_rfl)
  obtain ⟨a1, s1, hv1, -, -, -⟩ := laid_sentinel h4 (show Tryd.prog.globalNamed "strconv.ErrSyntax" = some 0 by kernel_rfl) (show (Tryd.prog.globals[0]?).map (·.type) = some 50 by kernel_rfl) Tryd.underlying50 row112 Tryd.underlying112 Tryd.underlying114 rfl rfl Tryd.underlying9 (by kernel_rfl) (by kernel_rfl)
  exact ⟨⟨_, _, hv1⟩, ⟨_, _, hv0⟩, Lib.tabIs_of_head (show Tryd.prog.globalNamed "internal/strconv.uint64pow10" = some 2 by kernel_rfl) (show (Tryd.prog.globals[2]?).map (·.type) = some 97 by kernel_rfl) Tryd.underlying97 Tryd.underlying73 (by kernel_rfl) (by kernel_rfl) h2⟩
abbrev Fits (t : TypeId) (x : D) : Prop := ∃ ls g cs, lfT Tryd.prog 20 t = some ls ∧ aggT Tryd.prog t = some g ∧ mkD g cs = some x ∧ FitLs ls cs
theorem reach_le {n : Nat} (h : n ≤ reachBytes) : n ≤ 140737488355328 := by
  have : reachBytes = 140737488351232 := by decide
  omega
theorem fits_str {x : D} (h : Fits 9 x) : ∃ s, x = mkS s ∧ SL s := by
  obtain ⟨ls, g, cs, h1, h2, h3, h4⟩ := h
  obtain rfl : [Lf.str] = ls := Option.some.inj ((show lfT Tryd.prog 20 9 = some [Lf.str] by kernel_rfl).symm.trans h1)
  obtain rfl : false = g := Option.some.inj ((show aggT Tryd.prog 9 = some false by kernel_rfl).symm.trans h2)
  simp only [FitLs, FitL] at h4
  obtain ⟨d, _, rfl, ⟨s, rfl, hs⟩, rfl⟩ := h4
  simp only [mkD, Option.some.injEq] at h3
  exact ⟨s, h3.symm, reach_le hs⟩
theorem fit_list {d : D} (h : FitL (.sl 1 16 false [.str]) d) : ∃ l, d = .sl 1 false (l.map mkS) ∧ FL l := by
  simp only [FitL] at h
  obtain ⟨xs, rfl, hlen, hx⟩ := h
  have : ∀ xs : List D, (∀ x ∈ xs, ∃ cs, mkD false cs = some x ∧ FitLs [.str] cs) → ∃ l : List Str, xs = l.map mkS ∧ ∀ s ∈ l, SL s := by
    intro xs
    induction xs with
    | nil => exact fun _ => ⟨[], rfl, by simp⟩
    | cons x xs ih =>
      intro h
      obtain ⟨l, rfl, hl⟩ := ih fun y hy => h y (by simp [hy])
      obtain ⟨cs, h1, h2⟩ := h x (by simp)
      simp only [FitLs, FitL] at h2
      obtain ⟨d, _, rfl, ⟨s, rfl, hs⟩, rfl⟩ := h2
      simp only [mkD, Option.some.injEq] at h1
      subst h1
      exact ⟨s :: l, rfl, fun y hy => by
        rcases List.mem_cons.1 hy with rfl | hy
        · exact reach_le hs
        · exact hl y hy⟩
  obtain ⟨l, rfl, hl⟩ := this xs hx
  refine ⟨l, rfl, ⟨?_, hl⟩⟩
  have := reach_le hlen
  simp at this
  omega
theorem fit_i64 {d : D} (h : FitL (.int .i64) d) : ∃ n, d = .int .i64 n ∧ FI n := by
  simp only [FitL] at h
  obtain ⟨n, rfl, hw⟩ := h
  have e1 : IntKind.i64.min = -9223372036854775808 := rfl
  have e2 : IntKind.i64.max = 9223372036854775807 := rfl
  simp [Lit.wf, e1, e2] at hw
  exact ⟨n, rfl, by unfold FI; omega⟩
theorem fits_set {x : D} (h : Fits 24 x) : ∃ s, x = setD s ∧ FS s := by
  obtain ⟨ls, g, cs, h1, h2, h3, h4⟩ := h
  obtain rfl : [Lf.bool, .bool, .bool, .sl 1 16 false [.str], .int .i64, .int .i64] = ls := Option.some.inj ((show lfT Tryd.prog 20 24 = some [Lf.bool, .bool, .bool, .sl 1 16 false [.str], .int .i64, .int .i64] by kernel_rfl).symm.trans h1)
  obtain rfl : true = g := Option.some.inj ((show aggT Tryd.prog 24 = some true by kernel_rfl).symm.trans h2)
  simp only [mkD, Option.some.injEq] at h3
  subst h3
  unfold FitLs at h4
  obtain ⟨_, _, rfl, hm, h4⟩ := h4
  unfold FitLs at h4
  obtain ⟨_, _, rfl, kn, h4⟩ := h4
  unfold FitLs at h4
  obtain ⟨_, _, rfl, hu, h4⟩ := h4
  unfold FitLs at h4
  obtain ⟨_, _, rfl, hls, h4⟩ := h4
  unfold FitLs at h4
  obtain ⟨_, _, rfl, klo, h4⟩ := h4
  unfold FitLs at h4
  obtain ⟨_, _, rfl, khi, h4⟩ := h4
  unfold FitLs at h4
  subst h4
  simp only [FitL] at hm kn hu
  obtain ⟨m, rfl⟩ := hm
  obtain ⟨n, rfl⟩ := kn
  obtain ⟨u, rfl⟩ := hu
  obtain ⟨l, rfl, hl⟩ := fit_list hls
  obtain ⟨lo, rfl, hlo⟩ := fit_i64 klo
  obtain ⟨hi, rfl, hhi⟩ := fit_i64 khi
  exact ⟨⟨m, n, u, l, lo, hi⟩, rfl, hl, hlo, hhi⟩
theorem fits_req {x : D} (h : Fits 29 x) : ∃ q, x = reqD q ∧ FR q := by
  obtain ⟨ls, g, cs, h1, h2, h3, h4⟩ := h
  obtain rfl : [Lf.str, .int .i64, .sl 1 16 false [.str], .int .i64] = ls := Option.some.inj ((show lfT Tryd.prog 20 29 = some [Lf.str, .int .i64, .sl 1 16 false [.str], .int .i64] by kernel_rfl).symm.trans h1)
  obtain rfl : true = g := Option.some.inj ((show aggT Tryd.prog 29 = some true by kernel_rfl).symm.trans h2)
  simp only [mkD, Option.some.injEq] at h3
  subst h3
  unfold FitLs at h4
  obtain ⟨_, _, rfl, hk, h4⟩ := h4
  unfold FitLs at h4
  obtain ⟨_, _, rfl, ko, h4⟩ := h4
  unfold FitLs at h4
  obtain ⟨_, _, rfl, hls, h4⟩ := h4
  unfold FitLs at h4
  obtain ⟨_, _, rfl, kn, h4⟩ := h4
  unfold FitLs at h4
  subst h4
  simp only [FitL] at hk
  obtain ⟨k, rfl, hk⟩ := hk
  obtain ⟨o, rfl, ho⟩ := fit_i64 ko
  obtain ⟨l, rfl, hl⟩ := fit_list hls
  obtain ⟨n, rfl, hn⟩ := fit_i64 kn
  exact ⟨⟨k, o, l, n⟩, rfl, reach_le hk, hl, ho, hn⟩
theorem args_cons {t : TypeId} {ts : List TypeId} {xs : List D} (h : ArgsFit Tryd.prog (t :: ts) xs) : ∃ x r, xs = x :: r ∧ Fits t x ∧ ArgsFit Tryd.prog ts r := h
theorem args_nil {xs : List D} (h : ArgsFit Tryd.prog [] xs) : xs = [] := h
end Go.Proofs.YteaklhcejjiinaaDoor
namespace Go.Proofs.AM
open Go Go.Lib Go.RowKit Go.Maps Go.Sort Go.Shelf
theorem spec_own {P : Program} {G : World → Prop} {f k sz e : Nat} {args : List D} {bx : Nat → Box} {xs : List D} {flat : List Value} (h0 : 0 < sz) (hrel : ∀ c : Cx, REl c sz xs flat)
    (hcall : ∀ (B0 : Nat) (S : Nat → Prop) (w0 : World) (lc : Nat → Value) (w : World) (vs : Array Value), G w0 → Mem B0 S w0 lc bx w → RVs (cxOf B0 S bx lc w) args vs.toList →
      Calls P f vs w fun en w' => ∃ v, en = .returned v ∧ w'.ownsRow w.heap.size e sz v xs.length flat ∧ RowKit.Below w.heap.size w w') :
    SpecS P G f args bx fun r bx' => r = .own k ((bx k).gen + 1) ∧ bx' = upd bx k ⟨(bx k).gen + 1, .rw, .arr sz e, xs⟩ := by
  intro B0 S w0 lc w vs hG hm hv
  refine (hcall B0 S w0 lc w vs hG hm hv).mono ?_
  rintro en w' ⟨v, rfl, hrow, hb⟩
  obtain ⟨a, ha1, ha2⟩ : ∃ a : Act, a.tmps = #[Go.undef] ∧ a.defers = [] := ⟨{ tmps := #[Go.undef], defers := [] }, rfl, rfl⟩
  have hrl : Rel B0 1 S w0 lc ⟨fun _ => .undef, bx⟩ a w := ⟨hm.hB0, by rw [ha1]; rfl, ha2, hm.below, fun i => by
    show a.tmps.getD i Go.undef = Go.undef
    rw [ha1]
    cases i with
    | zero => rfl
    | succ i => simp [Array.getD_eq_getD_getElem?], hm.hbx, hm.sep⟩
  have hB : B0 ≤ w.heap.size := by rw [hm.hB0]; exact hm.below.size
  have hone : v.oneCell' = true := by
    rcases hrow.2 with ⟨h, _⟩ | ⟨g, cap, cur, h, _⟩ <;> rw [h] <;> rfl
  obtain ⟨h1, hk⟩ := hrl.newbox (t := 0) (q := k) (by omega) (w' := w') (old := fun _ => False) ⟨(bx k).gen + 1, .rw, .arr sz e, xs⟩ v v (.own k ((bx k).gen + 1)) rfl bx (fun _ => .inl rfl) (fun _ h => h.elim) (fun _ h => h.elim)
    ⟨hb.os, hb.tape, hb.output⟩ hb.size (fun b hb' _ => hb.block b hb') (fun b hbl => by
      rcases hrow.2 with ⟨h, _⟩ | ⟨g, cap, cur, h, hg, _⟩
      · rw [h] at hbl; simp [blockOf] at hbl
      · rw [h] at hbl; simp only [blockOf, Option.some.injEq] at hbl; subst hbl; exact .inl hg)
    (fun c _ h2 h3 => by simp only [RV, h2, h3]; exact ⟨hone, Nat.le_refl _, fun _ => trivial⟩)
    (fun _ => by
      refine BR.arr (sz := sz) (e := e) (xs := flat) (by simp [cxOf, upd]) h0 ?_ ?_
      · have := ownsRow_base_a (base' := B0) hrow hB
        simpa [cxOf, upd] using this
      · have := hrel (cxOf B0 S (upd bx k ⟨(bx k).gen + 1, .rw, .arr sz e, xs⟩) (upd lc k v) w')
        simpa [cxOf, upd] using this)
  refine ⟨_, _, v, upd lc k v, ⟨rfl, rfl⟩, rfl, h1.mem, hk, ?_⟩
  simp only [RV, cxOf, upd_same]
  exact ⟨hone, Nat.le_refl _, fun _ => trivial⟩
theorem scall_own {P : Program} {G : World → Prop} {f k sz e : Nat} {args : List D} {gv : List (Nat × Box)} {xs : List D} (he : Enters P f) (hgv : find gv k = none)
    (hs : ∀ bx : Nat → Box, (∀ j b, find gv j = some b → bx j = b) → SpecS P G f args bx fun r bx' => r = .own k ((bx k).gen + 1) ∧ bx' = upd bx k ⟨(bx k).gen + 1, .rw, .arr sz e, xs⟩) :
    SCall (PR P G) k f args gv fun r kn => ∃ g, r = .own k g ∧ kn = (k, ⟨g, .rw, .arr sz e, xs⟩) :: gv := by
  intro bx hbx
  refine ⟨_, ⟨he, hs bx hbx⟩, ⟨_, _, rfl, rfl⟩, ?_⟩
  rintro r bx' ⟨rfl, rfl⟩
  refine ⟨_, ⟨_, rfl, rfl⟩, fun j b hj => ?_, fun j hj hn => ⟨upd_ne (by omega), ?_⟩⟩
  · simp only [find] at hj
    cases hb : Nat.beq j k with
    | true =>
      rw [hb] at hj
      rw [Nat.beq_eq] at hb
      subst hb
      simp only [Option.some.injEq] at hj
      rw [upd_same]
      exact hj
    | false =>
      rw [hb] at hj
      have hne : j ≠ k := fun e => by subst e; rw [Nat.beq_refl] at hb; simp at hb
      rw [upd_ne hne]
      exact hbx j b hj
  · simp only [find]
    cases hb : Nat.beq j k with
    | true => rw [Nat.beq_eq] at hb; omega
    | false => exact hn
theorem rel_S (c : Cx) : ∀ l : List Str, REl c 1 (l.map mkS) (l.map encStr)
  | [] => rfl
  | s :: l => ⟨.string ⟨⟨s⟩⟩, l.map encStr, rfl, rfl, rfl, by simp [Value.cells, Value.oneCell'], rel_S c l⟩
theorem rising32v (k : Nat) (K : List Str) (hK : K.Nodup) (hKs : ∀ s ∈ K, SL s) (hKl : K.length ≤ 8796093022208) :
    SCall (PR Tryd.prog (Gd Tryd.prog)) k 32 [.mapv (K.map ent)] [] fun r kn => ∃ g, r = .own k g ∧ kn = [(k, ⟨g, .rw, .arr 1 9, (risingS K).map mkS⟩)] :=
  scall_own (enters_of Tryd.func32 (by kernel_rfl) rfl) rfl fun bx _ => spec_own (by decide) (fun c => rel_S c _) fun B0 S w0 lc w vs _ hm hv => by
    simp only [RVs, RV] at hv
    obtain ⟨_, _, e1, ⟨b, mes, clk, rfl, hA, ⟨hb, hst⟩, hes⟩, rfl⟩ := hv
    obtain rfl : vs = #[.map (some b)] := by apply Array.toList_inj.1; rw [e1]
    refine (rising_calls b K hK hKs hKl w mes clk hb hst (keys_of_REs hes)).mono ?_
    rintro e w' ⟨v, rfl, hrow, hbl⟩
    refine ⟨v, rfl, ?_, hbl⟩
    rw [List.length_map, risingS_len_eq hK]
    exact hrow
theorem rising32m (k i gm : Nat) (c0 : Int) (hik : i < k) (K : List Str) (hK : K.Nodup) (hKs : ∀ s ∈ K, SL s) (hKl : K.length ≤ 8796093022208) :
    SCall (PR Tryd.prog (Gd Tryd.prog)) k 32 [.mapr i gm] [(i, ⟨gm, .rw, .map, .int .i64 c0 :: K.map ent⟩)] fun r kn => ∃ g, r = .own k g ∧ kn = [(k, ⟨g, .rw, .arr 1 9, (risingS K).map mkS⟩), (i, ⟨gm, .rw, .map, .int .i64 c0 :: K.map ent⟩)] :=
  scall_own (enters_of Tryd.func32 (by kernel_rfl) rfl) (by
    simp only [find]
    cases hb : Nat.beq k i with
    | true => rw [Nat.beq_eq] at hb; omega
    | false => rfl) fun bx hbx => spec_own (by decide) (fun c => rel_S c _) fun B0 S w0 lc w vs _ hm hv => by
    have hi : bx i = ⟨gm, .rw, .map, .int .i64 c0 :: K.map ent⟩ := hbx i _ (by simp only [find, Nat.beq_refl])
    simp only [RVs, RV] at hv
    obtain ⟨v0, _, e1, ⟨_, _, hlc⟩, rfl⟩ := hv
    have hb := hm.hbx i (by simp [cxOf, hi])
    simp only [cxOf, hi] at hb
    obtain ⟨b, mes, clk, q1, q2, q3, q4, q5, _⟩ := hb
    have hv0 : v0 = .map (some b) := by rw [← q1]; exact hlc (by simp only [cxOf]; rw [hi])
    subst hv0
    obtain rfl : vs = #[.map (some b)] := by apply Array.toList_inj.1; rw [e1]
    refine (rising_calls b K hK hKs hKl w mes clk q3 q5 (keys_of_REs (by simpa using q4))).mono ?_
    rintro e w' ⟨v, rfl, hrow, hbl⟩
    refine ⟨v, rfl, ?_, hbl⟩
    rw [List.length_map, risingS_len_eq hK]
    exact hrow
end Go.Proofs.AM
namespace Go.Proofs.AM
open Go Cd
def c34o : Func :=
⟨3, 95, [.cell 6 6 true, .tmp 7],
 (.seq (.ops [o 6 (.alloc [(.bool false), (.bool false), (.bool false), (.sl 1 true []), (.int .i64 0), (.int .i64 0)]), o 7 (.mov (c (.bool false)))])
 (.join (.block 0 (.loop (.seq (.seq (.ops [o 14 (.mov (t 0)), o 15 (.mov (t 1)), o 16 (.bin .leq (t 14) (t 15)), o 17 (.mov (t 16)), ⟨some 18, .mov (t 2), some (17, true)⟩, ⟨some 19, .mov (t 0), some (17, true)⟩, ⟨some 20, .call false (c (.fn 36 [] [])) [(t 19), (c (.int .i64 10))], some (17, true)⟩, ⟨some 21, .look (false, [(0, .str)]) (.bool false) false (t 18) (t 20), some (17, true)⟩, o 22 (.pick (t 17) (t 21) (c (.bool false)))])
 (.cond (t 22) .skip (.exit 0)))
 (.block 1 (.ops [o 23 (.mov (t 0)), o 24 (.bin .add (t 23) (c (.int .i64 1))), o 0 (.mov (t 24))])))))
 (.join (.block 2 (.loop (.seq (.seq (.ops [o 25 (.mov (t 0)), o 26 (.mov (t 1)), o 27 (.bin .leq (t 25) (t 26)), o 28 (.mov (t 27)), ⟨some 29, .mov (t 2), some (28, true)⟩, ⟨some 30, .mov (t 1), some (28, true)⟩, ⟨some 31, .call false (c (.fn 36 [] [])) [(t 30), (c (.int .i64 10))], some (28, true)⟩, ⟨some 32, .look (false, [(0, .str)]) (.bool false) false (t 29) (t 31), some (28, true)⟩, o 33 (.pick (t 28) (t 32) (c (.bool false)))])
 (.cond (t 33) .skip (.exit 2)))
 (.block 3 (.ops [o 34 (.mov (t 1)), o 35 (.bin .sub (t 34) (c (.int .i64 1))), o 1 (.mov (t 35))])))))
 (.join (.seq (.ops [o 36 (.mov (t 2)), o 37 (.mkIter (t 36))])
 (.block 4 (.loop (.seq (.ops [o 38 (.next (t 37)), o 39 (.ext 0 (t 38))])
 (.seq (.cond (t 39) .skip (.exit 4))
 (.block 5 (.seq (.ops [o 40 (.entry (t 37)), o 41 (.ext 0 (t 40)), o 8 (.mov (t 41))])
 (.seq (.ops [o 43 (.mov (t 8)), o 44 (.call false (c (.fn 13 [] [])) [(t 43)]), o 42 (.mov (t 44)), o 45 (.ext 0 (t 42)), o 46 (.ext 1 (t 42)), o 9 (.mov (t 45)), o 10 (.mov (t 46))])
 (.seq (.ops [o 47 (.mov (t 10)), o 48 (.un .not (t 47)), o 49 (.mov (t 48)), ⟨some 50, .mov (t 9), some (49, false)⟩, ⟨some 51, .mov (t 0), some (49, false)⟩, ⟨some 52, .bin .leq (t 50) (t 51), some (49, false)⟩, o 53 (.pick (t 49) (c (.bool true)) (t 52)), o 54 (.mov (t 53)), ⟨some 55, .mov (t 9), some (54, false)⟩, ⟨some 56, .mov (t 1), some (54, false)⟩, ⟨some 57, .bin .geq (t 55) (t 56), some (54, false)⟩, o 58 (.pick (t 54) (c (.bool true)) (t 57))])
 (.cond (t 58) (.ops [o 59 (.mov (t 2)), o 60 (.mov (t 8)), w (.mdel (false, [(0, .str)]) (t 59) (t 60))]) .skip))))))))))
 (.seq (.seq (.ops [o 61 (.mov (t 1)), o 62 (.mov (t 0)), o 63 (.bin .sub (t 61) (t 62)), o 64 (.bin .add (t 63) (c (.int .i64 1))), o 65 (.mov (t 2)), o 66 (.lenMap (t 65)), o 67 (.bin .sub (t 64) (t 66)), o 68 (.bin .gtr (t 67) (c (.int .i64 64)))])
 (.cond (t 68) (.seq (.ops [o 69 (.mov (t 2)), o 70 (.icall (c (.fn 32 [] [])) [(t 69)]), o 71 (.mov (t 0)), o 72 (.mov (t 1)), o 73 (.build [(.bool false), (.bool false), (.bool false), (.sl 1 true []), (.int .i64 0), (.int .i64 0)] [(1, 1, (c (.bool true))), (2, 1, (c (.bool true))), (3, 1, (t 70)), (4, 1, (t 71)), (5, 1, (t 72))]), o 74 (.mov (t 2)), o 75 (.lenMap (t 74)), o 76 (.bin .leq (t 75) (c (.int .i64 64))), w (.store 6 (t 6) (t 73)), o 7 (.mov (t 76))])
 .ret) .skip))
 (.seq (.ops [o 77 (.mkMap), o 11 (.mov (t 77))])
 (.seq (.seq (.ops [o 78 (.mov (t 0)), o 12 (.mov (t 78))])
 (.block 6 (.loop (.seq (.seq (.ops [o 79 (.mov (t 12)), o 80 (.mov (t 1)), o 81 (.bin .leq (t 79) (t 80))])
 (.cond (t 81) .skip (.exit 6)))
 (.seq (.block 7 (.seq (.ops [o 84 (.mov (t 12)), o 85 (.call false (c (.fn 36 [] [])) [(t 84), (c (.int .i64 10))]), o 13 (.mov (t 85))])
 (.seq (.ops [o 86 (.mov (t 2)), o 87 (.mov (t 13)), o 88 (.look (false, [(0, .str)]) (.bool false) false (t 86) (t 87)), o 89 (.un .not (t 88))])
 (.cond (t 89) (.ops [o 90 (.mov (t 11)), o 91 (.mov (t 13)), w (.mput (false, [(0, .str)]) (t 90) (t 91) (c (.bool true)))]) .skip))))
 (.ops [o 82 (.mov (t 12)), o 83 (.bin .add (t 82) (c (.int .i64 1))), o 12 (.mov (t 83))]))))))
 (.seq (.ops [o 92 (.mov (t 11)), o 93 (.icall (c (.fn 32 [] [])) [(t 92)]), o 94 (.build [(.bool false), (.bool false), (.bool false), (.sl 1 true []), (.int .i64 0), (.int .i64 0)] [(3, 1, (t 93))]), w (.store 6 (t 6) (t 94)), o 7 (.mov (c (.bool true)))])
 .ret))))))))⟩
def c12o : Func :=
⟨1, 51, [.cell 2 6 true, .tmp 3],
 (.seq (.ops [o 1 (.box (t 0)), o 2 (.alloc [(.bool false), (.bool false), (.bool false), (.sl 1 true []), (.int .i64 0), (.int .i64 0)]), o 3 (.mov (c (.int .i64 0)))])
 (.seq (.seq (.ops [o 6 (.load 4 true (t 1)), o 7 (.call false (c (.fn 31 [] [])) [(t 6)]), o 4 (.mov (t 7))])
 (.seq (.ops [o 8 (.mov (t 4)), o 9 (.bin .neq (t 8) (c (.int .i64 0)))])
 (.cond (t 9) (.seq (.ops [o 10 (.build [(.bool false), (.bool false), (.bool false), (.sl 1 true []), (.int .i64 0), (.int .i64 0)] []), o 11 (.mov (t 4)), w (.store 6 (t 2) (t 10)), o 3 (.mov (t 11))])
 .ret) .skip)))
 (.seq (.ops [o 12 (.fAddr 2 (t 1)), o 13 (.load 1 false (t 12)), o 14 (.mkSl false 1 22 (.sl 1 true []) 1 [(0, (t 13))]), o 15 (.call false (c (.fn 33 [] [])) [(t 14)]), o 16 (.icall (c (.fn 32 [] [])) [(t 15)]), o 17 (.build [(.bool false), (.bool false), (.bool false), (.sl 1 true []), (.int .i64 0), (.int .i64 0)] [(3, 1, (t 16))]), o 5 (.alloc [(.bool false), (.bool false), (.bool false), (.sl 1 true []), (.int .i64 0), (.int .i64 0)]), w (.store 6 (t 5) (t 17))])
 (.join (.seq (.ops [o 18 (.fAddr 1 (t 1)), o 19 (.load 1 false (t 18))])
 (.block 0 (.seq (.ops [o 21 (.bin .eql (t 19) (c (.int .i64 2))), o 20 (.mov (t 21))])
 (.cond (t 20) (.ops [o 22 (.fAddr 0 (t 5)), w (.store 1 (t 22) (c (.bool true))), o 23 (.fAddr 1 (t 5)), w (.store 1 (t 23) (c (.bool true)))]) (.seq (.ops [o 25 (.bin .eql (t 19) (c (.int .i64 3))), o 24 (.mov (t 25))])
 (.cond (t 24) (.ops [o 26 (.fAddr 1 (t 5)), w (.store 1 (t 26) (c (.bool true)))]) (.seq (.ops [o 28 (.bin .eql (t 19) (c (.int .i64 4))), o 27 (.mov (t 28))])
 (.cond (t 27) (.ops [o 29 (.fAddr 0 (t 5)), w (.store 1 (t 29) (c (.bool true)))]) (.seq (.ops [o 31 (.bin .eql (t 19) (c (.int .i64 5))), o 30 (.mov (t 31))])
 (.cond (t 30) (.ops [o 33 (.fAddr 3 (t 1)), o 34 (.load 1 false (t 33)), o 35 (.bin .add (t 34) (c (.int .i64 1))), o 36 (.call true (c (.fn 33 [] [])) [(c (.sl 1 true []))]), o 37 (.icall (c (.fn 34 [] [])) [(t 35), (c (.int .i64 2147483648)), (t 36)]), o 32 (.mov (t 37)), o 38 (.ext 0 (t 32)), o 39 (.ext 1 (t 32)), w (.store 6 (t 5) (t 38))]) (.seq (.ops [o 41 (.bin .eql (t 19) (c (.int .i64 6))), o 40 (.mov (t 41))])
 (.cond (t 40) (.ops [o 43 (.fAddr 3 (t 1)), o 44 (.load 1 false (t 43)), o 45 (.bin .sub (t 44) (c (.int .i64 1))), o 46 (.call true (c (.fn 33 [] [])) [(c (.sl 1 true []))]), o 47 (.icall (c (.fn 34 [] [])) [(c (.int .i64 (-2147483648))), (t 45), (t 46)]), o 42 (.mov (t 47)), o 48 (.ext 0 (t 42)), o 49 (.ext 1 (t 42)), w (.store 6 (t 5) (t 48))]) .skip))))))))))))
 (.seq (.ops [o 50 (.load 6 true (t 5)), w (.store 6 (t 2) (t 50)), o 3 (.mov (c (.int .i64 0)))])
 .ret)))))⟩
def c24o : Func :=
⟨2, 123, [.cell 4 6 true, .tmp 5],
 (.seq (.ops [o 2 (.box (t 0)), o 3 (.box (t 1)), o 4 (.alloc [(.bool false), (.bool false), (.bool false), (.sl 1 true []), (.int .i64 0), (.int .i64 0)]), o 5 (.mov (c (.int .i64 0)))])
 (.seq (.seq (.ops [o 13 (.load 6 true (t 2)), o 14 (.call false (c (.fn 23 [] [])) [(t 13)]), o 6 (.mov (t 14))])
 (.seq (.ops [o 15 (.mov (t 6)), o 16 (.bin .neq (t 15) (c (.int .i64 0)))])
 (.cond (t 16) (.seq (.ops [o 17 (.build [(.bool false), (.bool false), (.bool false), (.sl 1 true []), (.int .i64 0), (.int .i64 0)] []), o 18 (.mov (t 6)), w (.store 6 (t 4) (t 17)), o 5 (.mov (t 18))])
 .ret) .skip)))
 (.seq (.seq (.ops [o 19 (.load 6 true (t 3)), o 20 (.call false (c (.fn 23 [] [])) [(t 19)]), o 7 (.mov (t 20))])
 (.seq (.ops [o 21 (.mov (t 7)), o 22 (.bin .neq (t 21) (c (.int .i64 0)))])
 (.cond (t 22) (.seq (.ops [o 23 (.build [(.bool false), (.bool false), (.bool false), (.sl 1 true []), (.int .i64 0), (.int .i64 0)] []), o 24 (.mov (t 7)), w (.store 6 (t 4) (t 23)), o 5 (.mov (t 24))])
 .ret) .skip)))
 (.join (.seq (.ops [o 25 (.fAddr 1 (t 2)), o 26 (.load 1 false (t 25)), o 27 (.mov (t 26)), ⟨some 28, .fAddr 1 (t 3), some (27, true)⟩, ⟨some 29, .load 1 false (t 28), some (27, true)⟩, ⟨some 30, .un .not (t 29), some (27, true)⟩, o 31 (.pick (t 27) (t 30) (c (.bool false))), o 32 (.mov (t 31)), ⟨some 33, .fAddr 2 (t 2), some (32, false)⟩, ⟨some 34, .load 1 false (t 33), some (32, false)⟩, ⟨some 35, .mov (t 34), some (32, false)⟩, ⟨some 36, .fAddr 1 (t 3), some (35, true)⟩, ⟨some 37, .load 1 false (t 36), some (35, true)⟩, ⟨some 38, .pick (t 35) (t 37) (c (.bool false)), some (32, false)⟩, ⟨some 39, .mov (t 38), some (32, false)⟩, ⟨some 40, .fAddr 2 (t 3), some (39, true)⟩, ⟨some 41, .load 1 false (t 40), some (39, true)⟩, ⟨some 42, .un .not (t 41), some (39, true)⟩, ⟨some 43, .pick (t 39) (t 42) (c (.bool false)), some (32, false)⟩, o 44 (.pick (t 32) (c (.bool true)) (t 43))])
 (.cond (t 44) (.ops [o 45 (.load 6 true (t 3)), o 46 (.load 6 true (t 2)), w (.store 6 (t 2) (t 45)), w (.store 6 (t 3) (t 46))]) .skip))
 (.seq (.ops [o 8 (.alloc [(.bool false), (.bool false), (.bool false), (.sl 1 true []), (.int .i64 0), (.int .i64 0)])])
 (.seq (.ops [o 9 (.mov (c (.bool true)))])
 (.join (.seq (.ops [o 47 (.fAddr 3 (t 2)), o 48 (.load 1 false (t 47)), o 49 (.fAddr 3 (t 3)), o 50 (.load 1 false (t 49)), o 51 (.mkSl true 1 22 (.sl 1 true []) 2 [(0, (t 48)), (1, (t 50))]), o 52 (.icall (c (.fn 33 [] [])) [(t 51)]), o 10 (.mov (t 52))])
 (.block 0 (.seq (.ops [o 69 (.fAddr 1 (t 2)), o 70 (.load 1 false (t 69)), o 71 (.un .not (t 70)), o 68 (.mov (t 71))])
 (.cond (t 68) (.seq (.ops [o 72 (.fAddr 3 (t 2)), o 73 (.load 1 false (t 72)), o 74 (.lenSl (t 73)), o 75 (.mov (c (.int .i64 0)))])
 (.gh (.cell 8 150 3 1 9) (.block 1 (.loop (.seq (.ops [o 76 (.bin .lss (t 75) (t 74))])
 (.seq (.cond (t 76) .skip (.exit 1))
 (.seq (.block 2 (.seq (.ops [o 77 (.iAddrS 1 (t 73) (t 75)), o 78 (.load 1 false (t 77)), o 12 (.mov (t 78))])
 (.seq (.ops [o 79 (.load 6 true (t 3)), o 80 (.mov (t 12)), o 81 (.call false (c (.fn 43 [] [])) [(t 79), (t 80)])])
 (.cond (t 81) (.ops [o 82 (.fAddr 3 (t 8)), o 83 (.load 1 false (t 82)), o 84 (.mov (t 12)), o 85 (.mkSl false 1 9 (.str ⟨#[]⟩) 1 [(0, (t 84))]), o 86 (.app 1 9 16 (t 83) (t 85)), o 87 (.fAddr 3 (t 8)), w (.store 1 (t 87) (t 86))]) .skip))))
 (.ops [o 88 (.bin .add (t 75) (c (.int .i64 1))), o 75 (.mov (t 88))])))))))) (.seq (.ops [o 90 (.fAddr 2 (t 3)), o 91 (.load 1 false (t 90)), o 92 (.un .not (t 91)), o 89 (.mov (t 92))])
 (.cond (t 89) (.seq (.ops [o 93 (.mov (t 10)), o 94 (.icall (c (.fn 32 [] [])) [(t 93)]), o 95 (.build [(.bool false), (.bool false), (.bool false), (.sl 1 true []), (.int .i64 0), (.int .i64 0)] [(1, 1, (c (.bool true))), (3, 1, (t 94))]), w (.store 6 (t 8) (t 95))])
 (.ops [o 96 (.mov (t 10)), o 97 (.lenMap (t 96)), o 98 (.bin .leq (t 97) (c (.int .i64 64))), o 9 (.mov (t 98))])) (.seq (.ops [o 100 (.fAddr 2 (t 2)), o 101 (.load 1 false (t 100)), o 102 (.un .not (t 101)), o 99 (.mov (t 102))])
 (.cond (t 99) (.ops [o 104 (.fAddr 4 (t 3)), o 105 (.load 1 false (t 104)), o 106 (.fAddr 5 (t 3)), o 107 (.load 1 false (t 106)), o 108 (.mov (t 10)), o 109 (.icall (c (.fn 34 [] [])) [(t 105), (t 107), (t 108)]), o 103 (.mov (t 109)), o 110 (.ext 0 (t 103)), o 111 (.ext 1 (t 103)), w (.store 6 (t 8) (t 110)), o 9 (.mov (t 111))]) (.ops [o 54 (.fAddr 4 (t 2)), o 55 (.load 1 false (t 54)), o 56 (.fAddr 4 (t 3)), o 57 (.load 1 false (t 56)), o 58 (.mm true .i64 (t 55) [(t 57)]), o 59 (.fAddr 5 (t 2)), o 60 (.load 1 false (t 59)), o 61 (.fAddr 5 (t 3)), o 62 (.load 1 false (t 61)), o 63 (.mm false .i64 (t 60) [(t 62)]), o 64 (.mov (t 10)), o 65 (.icall (c (.fn 34 [] [])) [(t 58), (t 63), (t 64)]), o 53 (.mov (t 65)), o 66 (.ext 0 (t 53)), o 67 (.ext 1 (t 53)), w (.store 6 (t 8) (t 66)), o 9 (.mov (t 67))])))))))))
 (.seq (.seq (.ops [o 112 (.mov (t 9)), o 113 (.un .not (t 112))])
 (.cond (t 113) (.seq (.ops [o 114 (.build [(.bool false), (.bool false), (.bool false), (.sl 1 true []), (.int .i64 0), (.int .i64 0)] []), w (.store 6 (t 4) (t 114)), o 5 (.mov (c (.int .i64 3)))])
 .ret) .skip))
 (.seq (.ops [o 115 (.fAddr 0 (t 2)), o 116 (.load 1 false (t 115)), o 117 (.mov (t 116)), ⟨some 118, .fAddr 0 (t 3), some (117, true)⟩, ⟨some 119, .load 1 false (t 118), some (117, true)⟩, o 120 (.pick (t 117) (t 119) (c (.bool false))), o 121 (.fAddr 0 (t 8)), w (.store 1 (t 121) (t 120))])
 (.seq (.ops [o 122 (.load 6 true (t 8)), w (.store 6 (t 4) (t 122)), o 5 (.mov (c (.int .i64 0)))])
 .ret))))))))))⟩
def c5o : Func :=
⟨1, 71, [.tmp 2],
 (.seq (.ops [o 1 (.box (t 0)), o 2 (.mov (c (.bool false)))])
 (.seq (.ops [o 11 (.mkSl false 1 9 (.str ⟨#[]⟩) 0 []), o 12 (.fAddr 2 (t 1)), o 13 (.load 1 false (t 12)), o 14 (.app 1 9 16 (t 11) (t 13)), o 3 (.mov (t 14))])
 (.seq (.ops [o 16 (.load 4 true (t 1)), o 17 (.icall (c (.fn 12 [] [])) [(t 16)]), o 15 (.mov (t 17)), o 18 (.ext 0 (t 15)), o 19 (.ext 1 (t 15)), o 4 (.alloc [(.bool false), (.bool false), (.bool false), (.sl 1 true []), (.int .i64 0), (.int .i64 0)]), w (.store 6 (t 4) (t 18)), o 5 (.mov (t 19))])
 (.seq (.ops [o 21 (.fAddr 0 (t 1)), o 22 (.load 1 false (t 21)), o 23 (.fAddr 1 (t 1)), o 24 (.load 1 false (t 23)), o 25 (.mov (t 3)), o 26 (.fAddr 3 (t 1)), o 27 (.load 1 false (t 26)), o 28 (.build [(.str ⟨#[]⟩), (.int .i64 0), (.sl 1 true []), (.int .i64 0)] [(0, 1, (t 22)), (1, 1, (t 24)), (2, 1, (t 25)), (3, 1, (t 27))]), o 29 (.call false (c (.fn 20 [] [])) [(t 28)]), o 20 (.mov (t 29)), o 30 (.ext 0 (t 20)), o 31 (.ext 1 (t 20)), o 6 (.alloc [(.bool false), (.bool false), (.bool false), (.sl 1 true []), (.int .i64 0), (.int .i64 0)]), w (.store 6 (t 6) (t 30)), o 7 (.mov (t 31))])
 (.seq (.ops [o 32 (.mov (t 5)), o 33 (.mov (t 7)), o 34 (.bin .eql (t 32) (t 33)), o 35 (.mov (t 34)), ⟨some 36, .load 6 true (t 4), some (35, true)⟩, ⟨some 37, .load 6 true (t 6), some (35, true)⟩, ⟨some 38, .call false (c (.fn 21 [] [])) [(t 36), (t 37)], some (35, true)⟩, o 39 (.pick (t 35) (t 38) (c (.bool false))), o 8 (.mov (t 39))])
 (.seq (.seq (.ops [o 9 (.mov (c (.int .i64 0)))])
 (.block 0 (.loop (.seq (.seq (.ops [o 40 (.mov (t 9)), o 41 (.fAddr 3 (t 4)), o 42 (.load 1 false (t 41)), o 43 (.lenSl (t 42)), o 44 (.bin .lss (t 40) (t 43))])
 (.cond (t 44) .skip (.exit 0)))
 (.seq (.block 1 (.ops [o 47 (.fAddr 3 (t 4)), o 48 (.load 1 false (t 47)), o 49 (.mov (t 9)), o 50 (.iAddrS 1 (t 48) (t 49)), w (.store 1 (t 50) (c (.str ⟨#[64]⟩)))]))
 (.ops [o 45 (.mov (t 9)), o 46 (.bin .add (t 45) (c (.int .i64 1))), o 9 (.mov (t 46))]))))))
 (.seq (.seq (.ops [o 10 (.mov (c (.int .i64 0)))])
 (.block 2 (.loop (.seq (.seq (.ops [o 51 (.mov (t 10)), o 52 (.mov (t 3)), o 53 (.lenSl (t 52)), o 54 (.bin .lss (t 51) (t 53))])
 (.cond (t 54) .skip (.exit 2)))
 (.seq (.block 3 (.seq (.ops [o 57 (.mov (t 3)), o 58 (.mov (t 10)), o 59 (.iAddrS 1 (t 57) (t 58)), o 60 (.load 1 false (t 59)), o 61 (.fAddr 2 (t 1)), o 62 (.load 1 false (t 61)), o 63 (.mov (t 10)), o 64 (.iAddrS 1 (t 62) (t 63)), o 65 (.load 1 false (t 64)), o 66 (.bin .neq (t 60) (t 65))])
 (.cond (t 66) (.seq (.ops [o 2 (.mov (c (.bool false)))])
 .ret) .skip)))
 (.ops [o 55 (.mov (t 10)), o 56 (.bin .add (t 55) (c (.int .i64 1))), o 10 (.mov (t 56))]))))))
 (.seq (.ops [o 67 (.call false (c (.fn 14 [] [])) []), o 68 (.mov (t 67)), ⟨some 69, .mov (t 8), some (68, true)⟩, o 70 (.pick (t 68) (t 69) (c (.bool false))), o 2 (.mov (t 70))])
 .ret))))))))⟩
def c7o : Func :=
⟨2, 70, [.tmp 4],
 (.seq (.ops [o 2 (.box (t 0)), o 3 (.box (t 1)), o 4 (.mov (c (.bool false)))])
 (.seq (.ops [o 13 (.load 6 true (t 2)), o 5 (.alloc [(.bool false), (.bool false), (.bool false), (.sl 1 true []), (.int .i64 0), (.int .i64 0)]), w (.store 6 (t 5) (t 13))])
 (.seq (.ops [o 14 (.load 6 true (t 3)), o 6 (.alloc [(.bool false), (.bool false), (.bool false), (.sl 1 true []), (.int .i64 0), (.int .i64 0)]), w (.store 6 (t 6) (t 14))])
 (.seq (.ops [o 15 (.mkSl false 1 9 (.str ⟨#[]⟩) 0 []), o 16 (.fAddr 3 (t 2)), o 17 (.load 1 false (t 16)), o 18 (.app 1 9 16 (t 15) (t 17)), o 19 (.fAddr 3 (t 5)), w (.store 1 (t 19) (t 18))])
 (.seq (.ops [o 20 (.mkSl false 1 9 (.str ⟨#[]⟩) 0 []), o 21 (.fAddr 3 (t 3)), o 22 (.load 1 false (t 21)), o 23 (.app 1 9 16 (t 20) (t 22)), o 24 (.fAddr 3 (t 6)), w (.store 1 (t 24) (t 23))])
 (.seq (.ops [o 26 (.load 6 true (t 2)), o 27 (.load 6 true (t 3)), o 28 (.icall (c (.fn 24 [] [])) [(t 26), (t 27)]), o 25 (.mov (t 28)), o 29 (.ext 0 (t 25)), o 30 (.ext 1 (t 25)), o 7 (.alloc [(.bool false), (.bool false), (.bool false), (.sl 1 true []), (.int .i64 0), (.int .i64 0)]), w (.store 6 (t 7) (t 29)), o 8 (.mov (t 30))])
 (.seq (.ops [o 32 (.load 6 true (t 5)), o 33 (.load 6 true (t 6)), o 34 (.call false (c (.fn 25 [] [])) [(t 32), (t 33)]), o 31 (.mov (t 34)), o 35 (.ext 0 (t 31)), o 36 (.ext 1 (t 31)), o 9 (.alloc [(.bool false), (.bool false), (.bool false), (.sl 1 true []), (.int .i64 0), (.int .i64 0)]), w (.store 6 (t 9) (t 35)), o 10 (.mov (t 36))])
 (.seq (.ops [o 37 (.mov (t 8)), o 38 (.mov (t 10)), o 39 (.bin .eql (t 37) (t 38)), o 40 (.mov (t 39)), ⟨some 41, .load 6 true (t 7), some (40, true)⟩, ⟨some 42, .load 6 true (t 9), some (40, true)⟩, ⟨some 43, .call false (c (.fn 21 [] [])) [(t 41), (t 42)], some (40, true)⟩, o 44 (.pick (t 40) (t 43) (c (.bool false))), o 11 (.mov (t 44))])
 (.seq (.seq (.ops [o 12 (.mov (c (.int .i64 0)))])
 (.block 0 (.loop (.seq (.seq (.ops [o 45 (.mov (t 12)), o 46 (.fAddr 3 (t 7)), o 47 (.load 1 false (t 46)), o 48 (.lenSl (t 47)), o 49 (.bin .lss (t 45) (t 48))])
 (.cond (t 49) .skip (.exit 0)))
 (.seq (.block 1 (.ops [o 52 (.fAddr 3 (t 7)), o 53 (.load 1 false (t 52)), o 54 (.mov (t 12)), o 55 (.iAddrS 1 (t 53) (t 54)), w (.store 1 (t 55) (c (.str ⟨#[64]⟩)))]))
 (.ops [o 50 (.mov (t 12)), o 51 (.bin .add (t 50) (c (.int .i64 1))), o 12 (.mov (t 51))]))))))
 (.seq (.ops [o 56 (.call false (c (.fn 14 [] [])) []), o 57 (.mov (t 56)), ⟨some 58, .mov (t 11), some (57, true)⟩, o 59 (.pick (t 57) (t 58) (c (.bool false))), o 60 (.mov (t 59)), ⟨some 61, .load 6 true (t 2), some (60, true)⟩, ⟨some 62, .load 6 true (t 5), some (60, true)⟩, ⟨some 63, .call false (c (.fn 21 [] [])) [(t 61), (t 62)], some (60, true)⟩, o 64 (.pick (t 60) (t 63) (c (.bool false))), o 65 (.mov (t 64)), ⟨some 66, .load 6 true (t 3), some (65, true)⟩, ⟨some 67, .load 6 true (t 6), some (65, true)⟩, ⟨some 68, .call false (c (.fn 21 [] [])) [(t 66), (t 67)], some (65, true)⟩, o 69 (.pick (t 65) (t 68) (c (.bool false))), o 4 (.mov (t 69))])
 .ret))))))))))⟩
end Go.Proofs.AM
