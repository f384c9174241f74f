/- Part 11 of the lemmas: VWd, PVh, VWa, VWe, VWg, VWf, VWh, PVi, GLf. -/
import Derived.Test.YteaklhcejjiinaaDoorM08
import Derived.Test.YteaklhcejjiinaaDoorM10
namespace Go.Proofs.AM
open Go Go.Lib Cd
set_option maxRecDepth 100000 in
set_option maxHeartbeats 8000000 in
theorem numbers34_own0 (R : Ans) (h13 : ∀ s, SL s → ∀ v b, NumR s v b → R.v 13 [mkS s] (.tup [.int .i64 v, .bool b])) (h36 : ∀ n, FI n → R.v 36 [.int .i64 n, .int .i64 10] (mkS (itoa n)))
    (h32v : ∀ K : List Str, K.Nodup → (∀ s ∈ K, SL s) → K.length ≤ 8796093022208 → SCall R 900 32 [.mapv (K.map ent)] [] (fun r kn => ∃ g, r = .own 900 g ∧ kn = [(900, ⟨g, .rw, .arr 1 9, (risingS K).map mkS⟩)]))
    (h32m : ∀ (i gm : Nat) (c0 : Int), i < 900 → ∀ K : List Str, K.Nodup → (∀ s ∈ K, SL s) → K.length ≤ 8796093022208 → SCall R 900 32 [.mapr i gm] [(i, ⟨gm, .rw, .map, .int .i64 c0 :: K.map ent⟩)] (fun r kn => ∃ g, r = .own 900 g ∧ kn = [(900, ⟨g, .rw, .arr 1 9, (risingS K).map mkS⟩), (i, ⟨gm, .rw, .map, .int .i64 c0 :: K.map ent⟩)])) (lo0 hi0 : Int) (hb1 : least ≤ lo0) (hb2 : lo0 ≤ most + 1) (hb3 : hi0 ≤ most) (hb4 : least - 1 ≤ hi0) (K : List Str) (hK : K = []) (hKl : K.length ≤ 8796093022208) : ∀ O : Ops, O = Ops.std → ∀ V : Ans, V = R → wpS O V 600 c34o [.int .i64 lo0, .int .i64 hi0, .mapv (K.map ent)] [] (fun r kn => ∃ S b g ss, r = .tup [.agg [.bool S.m, .bool S.n, .bool S.u, .own 900 g, .int .i64 S.lo, .int .i64 S.hi], .bool b] ∧ NumsR lo0 hi0 K S b ∧ ss = S.l.map mkS ∧ leB kn [(900, ⟨g, .rw, .arr 1 9, ss⟩)]) := by
  unfold least at hb1 hb4
  unfold most at hb2 hb3
  intro O hO V hV
  subst hV
  obtain ⟨es, hes⟩ : ∃ es, es = K.map ent := ⟨_, rfl⟩
  rw [← hes]
  have hleq : O .len es = K.length := by rw [o_len hO, hes]; simp
  have look : ∀ z : Str, ∃ r, lookD kS (mkS z) es = some r ∧ ((z ∈ K ∧ r = some (.bool true)) ∨ (z ∉ K ∧ r = none)) := fun z => by
    rw [hes, look_ent]
    by_cases h : z ∈ K
    · exact ⟨_, rfl, .inl ⟨h, by simp [h]⟩⟩
    · exact ⟨_, rfl, .inr ⟨h, by simp [h]⟩⟩
  have fmt : ∀ x : Int, FI x → ∃ z : Str, V.v 36 [.int .i64 x, .int .i64 10] (.str ⟨⟨z⟩⟩) ∧ z = itoa x := fun x hx => ⟨_, h36 x hx, rfl⟩
  conv => cbv
  intro g6
  conv => cbv
  refine join_of (fun d => ∃ x : Int, d = ⟨[(0, .int .i64 x), (1, .int .i64 hi0), (2, .mapv es), (6, .ptr 606 g6 0)], [(606, ⟨g6, .rw, .var, [.bool false, .bool false, .bool false, .sl 1 true [], .int .i64 0, .int .i64 0]⟩)], false⟩ ∧ x = upS hi0 K lo0) (fun M upm => ?_) ?_
  · conv => cbv
    refine loop_of (fun n d => ∃ x : Int, d = ⟨[(0, .int .i64 x), (1, .int .i64 hi0), (2, .mapv es), (6, .ptr 606 g6 0)], [(606, ⟨g6, .rw, .var, [.bool false, .bool false, .bool false, .sl 1 true [], .int .i64 0, .int .i64 0]⟩)], false⟩ ∧ n = (hi0 + 1 - x).toNat ∧ (x ≤ hi0 + 1 ∨ x = lo0) ∧ lo0 ≤ x ∧ upS hi0 K x = upS hi0 K lo0) ⟨_, _, ⟨_, rfl, rfl, .inr rfl, Int.le_refl _, rfl⟩, ⟨⟨rfl, rfl, rfl, rfl, trivial⟩, ⟨rfl, trivial⟩, rfl⟩⟩ ?_
    rintro J up n d ⟨x, rfl, rfl, hx1, hx2, hx3⟩
    conv => cbv
    rintro (_ | _) h1
    · replace h1 := f_leq hO h1
      conv => cbv
      exact ⟨_, upm _ ⟨x, rfl, by rw [← hx3, upS_stop (fun h => by omega)]⟩, ⟨⟨rfl, rfl, rfl, rfl, trivial⟩, ⟨rfl, trivial⟩, rfl⟩⟩
    · replace h1 := t_leq hO h1
      conv => cbv
      obtain ⟨z, hz, hzi⟩ := fmt x (by unfold FI; omega)
      refine ⟨_, hz, ?_⟩
      conv => cbv
      obtain ⟨q, hq, hcase⟩ := look z
      refine ⟨q, hq, ?_⟩
      rcases hcase with ⟨hm, rfl⟩ | ⟨hm, rfl⟩
      · conv => cbv
        refine ⟨_, _, up _ _ ⟨_, rfl, rfl, ?_, ?_, ?_⟩, ⟨⟨rfl, rfl, rfl, rfl, trivial⟩, ⟨rfl, trivial⟩, rfl⟩, ?_⟩
        all_goals rw [o_add64 hO (by omega) (by omega)]
        · omega
        · omega
        · rw [← hx3, ← upS_step ⟨h1, by rw [← hzi]; exact hm⟩]
        · omega
      · conv => cbv
        exact ⟨_, upm _ ⟨x, rfl, by rw [← hx3, upS_stop (fun h => hm (by rw [hzi]; exact h.2))]⟩, ⟨⟨rfl, rfl, rfl, rfl, trivial⟩, ⟨rfl, trivial⟩, rfl⟩⟩
  rintro d ⟨x, rfl, hx⟩
  have hxb := upS_ge (hi := hi0) (K := K) _ lo0 (Nat.le_refl _)
  rw [← hx] at hxb
  conv => cbv
  refine join_of (fun d => ∃ y : Int, d = ⟨[(0, .int .i64 x), (1, .int .i64 y), (2, .mapv es), (6, .ptr 606 g6 0)], [(606, ⟨g6, .rw, .var, [.bool false, .bool false, .bool false, .sl 1 true [], .int .i64 0, .int .i64 0]⟩)], false⟩ ∧ y = dnS x K hi0) (fun M upm => ?_) ?_
  · conv => cbv
    refine loop_of (fun n d => ∃ y : Int, d = ⟨[(0, .int .i64 x), (1, .int .i64 y), (2, .mapv es), (6, .ptr 606 g6 0)], [(606, ⟨g6, .rw, .var, [.bool false, .bool false, .bool false, .sl 1 true [], .int .i64 0, .int .i64 0]⟩)], false⟩ ∧ n = (y + 1 - x).toNat ∧ (x - 1 ≤ y ∨ y = hi0) ∧ y ≤ hi0 ∧ dnS x K y = dnS x K hi0) ⟨_, _, ⟨_, rfl, rfl, .inr rfl, Int.le_refl _, rfl⟩, ⟨⟨rfl, rfl, rfl, rfl, trivial⟩, ⟨rfl, trivial⟩, rfl⟩⟩ ?_
    rintro J up n d ⟨y, rfl, rfl, hx1, hx2, hx3⟩
    conv => cbv
    rintro (_ | _) h1
    · replace h1 := f_leq hO h1
      conv => cbv
      exact ⟨_, upm _ ⟨y, rfl, by rw [← hx3, dnS_stop (fun h => by omega)]⟩, ⟨⟨rfl, rfl, rfl, rfl, trivial⟩, ⟨rfl, trivial⟩, rfl⟩⟩
    · replace h1 := t_leq hO h1
      conv => cbv
      obtain ⟨z, hz, hzi⟩ := fmt y (by unfold FI; omega)
      refine ⟨_, hz, ?_⟩
      conv => cbv
      obtain ⟨q, hq, hcase⟩ := look z
      refine ⟨q, hq, ?_⟩
      rcases hcase with ⟨hm, rfl⟩ | ⟨hm, rfl⟩
      · conv => cbv
        refine ⟨_, _, up _ _ ⟨_, rfl, rfl, ?_, ?_, ?_⟩, ⟨⟨rfl, rfl, rfl, rfl, trivial⟩, ⟨rfl, trivial⟩, rfl⟩, ?_⟩
        all_goals rw [o_sub64 hO (by omega) (by omega)]
        · omega
        · omega
        · rw [← hx3, ← dnS_step ⟨h1, by rw [← hzi]; exact hm⟩]
        · omega
      · conv => cbv
        exact ⟨_, upm _ ⟨y, rfl, by rw [← hx3, dnS_stop (fun h => hm (by rw [hzi]; exact h.2))]⟩, ⟨⟨rfl, rfl, rfl, rfl, trivial⟩, ⟨rfl, trivial⟩, rfl⟩⟩
  rintro d ⟨y, rfl, hy⟩
  have hyb := dnS_le (lo := x) (K := K) _ hi0 (Nat.le_refl _)
  rw [← hy] at hyb
  conv => cbv
  refine join_of (fun d => ∃ (K2 : List Str) (es2 : List D), d = ⟨[(0, .int .i64 x), (1, .int .i64 y), (2, .mapv es2), (6, .ptr 606 g6 0)], [(606, ⟨g6, .rw, .var, [.bool false, .bool false, .bool false, .sl 1 true [], .int .i64 0, .int .i64 0]⟩)], false⟩ ∧ es2 = K2.map ent ∧ K2.Nodup ∧ K2.length ≤ K.length ∧ ∀ z, z ∈ K2 ↔ z ∈ K ∧ inR x y z = true) (fun M upm => ?_) ?_
  · conv => cbv
    intro g37
    conv => cbv
    subst hK
    rw [List.map_nil] at hes
    refine loop_of (fun n d => n = 0 ∧ d = ⟨[(0, .int .i64 x), (1, .int .i64 y), (2, .mapv es), (6, .ptr 606 g6 0), (37, .ptr 637 g37 0)], [(606, ⟨g6, .rw, .var, [.bool false, .bool false, .bool false, .sl 1 true [], .int .i64 0, .int .i64 0]⟩), (637, ⟨g37, .rw, .iter, [.mapv es, .int .i64 0]⟩)], false⟩) ⟨_, _, ⟨rfl, rfl⟩, ⟨⟨rfl, rfl, rfl, rfl, rfl, trivial⟩, ⟨rfl, rfl, trivial⟩, rfl⟩⟩ ?_
    rintro J up n d ⟨rfl, rfl⟩
    conv => cbv
    refine ⟨fun w hw => by rw [hes] at hw; simp at hw, fun _ => ?_, fun k w hw => by rw [hes] at hw; simp at hw⟩
    conv => cbv
    exact ⟨_, upm _ ⟨[], es, rfl, hes, List.nodup_nil, Nat.le_refl _, fun z => by simp⟩, ⟨⟨rfl, rfl, rfl, rfl, trivial⟩, ⟨rfl, trivial⟩, rfl⟩⟩
  rintro d ⟨K2, es2, rfl, hes2, hnd, hlen2, hmem⟩
  obtain ⟨hv1, hv2, hv3⟩ := left_vals hnd hmem
  have hl2 : O .len es2 = K2.length := by rw [o_len hO, hes2]; simp
  have hc2 : CleanL es2 := cleanL_map clean_ent hes2
  have hans : numbersS lo0 hi0 K = numbersN x y K := by unfold numbersS; rw [← hx, ← hy]
  have hspan : O .iop .sub .i64 (O .iop .add .i64 (O .iop .sub .i64 y x) 1) (O .len es2) = y - x + 1 - K2.length := by
    have e1 : O .iop .sub .i64 y x = y - x := o_sub64 hO (by omega) (by omega)
    rw [e1, o_add64 hO (by omega) (by omega), hl2, o_sub64 hO (by omega) (by omega)]
  have look2 : ∀ z : Str, ∃ r, lookD kS (mkS z) es2 = some r ∧ ((z ∈ K2 ∧ r = some (.bool true)) ∨ (z ∉ K2 ∧ r = none)) := fun z => by
    rw [hes2, look_ent]
    by_cases h : z ∈ K2
    · exact ⟨_, rfl, .inl ⟨h, by simp [h]⟩⟩
    · exact ⟨_, rfl, .inr ⟨h, by simp [h]⟩⟩
  conv => cbv
  rintro (_ | _) h1
  · replace h1 := f_gtr hO h1
    rw [hspan] at h1
    conv => cbv
    intro g77
    conv => cbv
    refine loop_of (fun n d => ∃ (v : Int) (j : Nat) (ac : List D) (tk : Int), d = ⟨[(1, .int .i64 y), (2, .mapv es2), (6, .ptr 606 g6 0), (11, .mapr 677 g77), (12, .int .i64 v)], [(606, ⟨g6, .rw, .var, [.bool false, .bool false, .bool false, .sl 1 true [], .int .i64 0, .int .i64 0]⟩), (677, ⟨g77, .rw, .map, .int .i64 tk :: ac⟩)], false⟩ ∧ v = x + j ∧ (j = 0 ∨ v ≤ y + 1) ∧ n = (y + 1 - v).toNat ∧ ac = (accN x K2 j).map ent) ⟨_, _, ⟨x, 0, _, _, rfl, by omega, .inl rfl, rfl, rfl⟩, ⟨⟨rfl, rfl, rfl, rfl, rfl, trivial⟩, ⟨rfl, rfl, trivial⟩, rfl⟩⟩ ?_
    rintro J up n d ⟨v, j, ac, tk, rfl, hv, hvj, rfl, hac⟩
    conv => cbv
    rintro (_ | _) h2
    · replace h2 := f_leq hO h2
      conv => cbv
      have hj : accN x K2 j = accN x K2 (y + 1 - x).toNat := by
        rcases hvj with h | h
        · subst h; rw [show (y + 1 - x).toNat = 0 by omega]
        · rw [show (y + 1 - x).toNat = j by omega]
      have hcac : CleanL ac := cleanL_map clean_ent hac
      have hal := accN_len x K2 j
      have hr := h32m 677 g77 tk (by decide) (accN x K2 j) (accN_nodup _ _ _) (accN_SL fun i hi => ⟨by omega, by omega⟩) (by omega)
      rw [← hac] at hr
      obtain ⟨rs, hrs⟩ : ∃ rs, rs = (risingS (accN x K2 j)).map mkS := ⟨_, rfl⟩
      have hcr : CleanL rs := cleanL_map clean_S hrs
      rw [← hrs] at hr
      have hfin : risingS (accN x K2 j) = risingS (listN x y (valsN x y K)) := by
        rw [hj, ← listN_congr hv3]
        exact risingS_congr fun z => accN_mem
      refine shared_of hr (by decide) ⟨rfl, trivial⟩ ?_
      rintro _ _ ⟨gr, rfl, rfl⟩
      conv => cbv
      have hN : numbersN x y K = some ⟨false, false, false, risingS (accN x K2 j), 0, 0⟩ := by unfold numbersN; rw [if_pos (by rw [hv2]; omega), hfin]
      exact ⟨⟨false, false, false, risingS (accN x K2 j), 0, 0⟩, true, gr, rs, rfl, .inl ⟨rfl, by rw [hans, hN]⟩, hrs, ⟨rfl, trivial⟩⟩
    · replace h2 := t_leq hO h2
      conv => cbv
      obtain ⟨z, hz, hzi⟩ := fmt v (by unfold FI; omega)
      refine ⟨_, hz, ?_⟩
      conv => cbv
      obtain ⟨q, hq, hcase⟩ := look2 z
      have hadd : O .iop .add .i64 v 1 = v + 1 := o_add64 hO (by omega) (by omega)
      have hst := accN_step (lo := x) (K := K2) (j := j) (z := z) (by rw [hzi, hv])
      refine ⟨q, hq, ?_⟩
      rcases hcase with ⟨hm, rfl⟩ | ⟨hm, rfl⟩
      · conv => cbv
        rw [hadd]
        refine ⟨_, _, up _ _ ⟨v + 1, j + 1, ac, tk, rfl, by omega, .inr (by omega), rfl, ?_⟩, ⟨⟨rfl, rfl, rfl, rfl, rfl, trivial⟩, ⟨rfl, rfl, trivial⟩, rfl⟩, by omega⟩
        rw [hac, hst, if_pos hm]
      · conv => cbv
        obtain ⟨ac3, hac3⟩ : ∃ ac3, ac3 = (insS (accN x K2 j) z).map ent := ⟨_, rfl⟩
        refine ⟨ac3, by rw [hac, hac3]; exact mput_ent _ _, fun c => ?_⟩
        conv => cbv
        rw [hadd]
        refine ⟨_, _, up _ _ ⟨v + 1, j + 1, ac3, c, rfl, by omega, .inr (by omega), rfl, ?_⟩, ⟨⟨rfl, rfl, rfl, rfl, rfl, trivial⟩, ⟨rfl, rfl, trivial⟩, rfl⟩, by omega⟩
        rw [hac3, hst, if_neg hm]
  · replace h1 := t_gtr hO h1
    rw [hspan] at h1
    conv => cbv
    have hr := h32v K2 hnd (left_SL hmem) (by omega)
    rw [← hes2] at hr
    obtain ⟨rs, hrs⟩ : ∃ rs, rs = (risingS K2).map mkS := ⟨_, rfl⟩
    have hcr : CleanL rs := cleanL_map clean_S hrs
    rw [← hrs] at hr
    refine shared_of hr (by decide) trivial ?_
    rintro _ _ ⟨gr, rfl, rfl⟩
    conv => cbv
    rintro (_ | _) h2
    · replace h2 := f_leq hO h2
      rw [hl2] at h2
      conv => cbv
      exfalso
      subst hK
      simp only [List.length_nil] at hlen2
      omega
    · replace h2 := t_leq hO h2
      rw [hl2] at h2
      conv => cbv
      have hN : numbersN x y K = some ⟨false, true, true, valsN x y K, x, y⟩ := by unfold numbersN; rw [if_neg (by rw [hv2]; omega), if_neg (by rw [hv2]; omega)]
      exact ⟨⟨false, true, true, valsN x y K, x, y⟩, true, gr, rs, rfl, .inl ⟨rfl, by rw [hans, hN]⟩, by rw [← hv1]; exact hrs, ⟨rfl, trivial⟩⟩
set_option maxRecDepth 100000 in
set_option maxHeartbeats 8000000 in
theorem numbers34_own (R : Ans) (h13 : ∀ s, SL s → ∀ v b, NumR s v b → R.v 13 [mkS s] (.tup [.int .i64 v, .bool b])) (h36 : ∀ n, FI n → R.v 36 [.int .i64 n, .int .i64 10] (mkS (itoa n)))
    (h32v : ∀ K : List Str, K.Nodup → (∀ s ∈ K, SL s) → K.length ≤ 8796093022208 → SCall R 900 32 [.mapv (K.map ent)] [] (fun r kn => ∃ g, r = .own 900 g ∧ kn = [(900, ⟨g, .rw, .arr 1 9, (risingS K).map mkS⟩)]))
    (h32m : ∀ (i gm : Nat) (c0 : Int), i < 900 → ∀ K : List Str, K.Nodup → (∀ s ∈ K, SL s) → K.length ≤ 8796093022208 → SCall R 900 32 [.mapr i gm] [(i, ⟨gm, .rw, .map, .int .i64 c0 :: K.map ent⟩)] (fun r kn => ∃ g, r = .own 900 g ∧ kn = [(900, ⟨g, .rw, .arr 1 9, (risingS K).map mkS⟩), (i, ⟨gm, .rw, .map, .int .i64 c0 :: K.map ent⟩)])) (lo0 hi0 : Int) (hb1 : least ≤ lo0) (hb2 : lo0 ≤ most + 1) (hb3 : hi0 ≤ most) (hb4 : least - 1 ≤ hi0) (K : List Str) (hKn : K.Nodup) (hKs : ∀ s ∈ K, SL s) (hKl : K.length ≤ 8796093022208) (gm : Nat) (c0 : Int) : ∀ O : Ops, O = Ops.std → ∀ V : Ans, V = R → wpS O V 600 c34o [.int .i64 lo0, .int .i64 hi0, .mapr 308 gm] [(308, ⟨gm, .rw, .map, .int .i64 c0 :: K.map ent⟩)] (fun r kn => ∃ S b g ss, r = .tup [.agg [.bool S.m, .bool S.n, .bool S.u, .own 900 g, .int .i64 S.lo, .int .i64 S.hi], .bool b] ∧ NumsR lo0 hi0 K S b ∧ ss = S.l.map mkS ∧ leB kn [(900, ⟨g, .rw, .arr 1 9, ss⟩)]) := by
  unfold least at hb1 hb4
  unfold most at hb2 hb3
  intro O hO V hV
  subst hV
  obtain ⟨es, hes⟩ : ∃ es, es = K.map ent := ⟨_, rfl⟩
  rw [← hes]
  have hleq : O .len es = K.length := by rw [o_len hO, hes]; simp
  have look : ∀ z : Str, ∃ r, lookD kS (mkS z) es = some r ∧ ((z ∈ K ∧ r = some (.bool true)) ∨ (z ∉ K ∧ r = none)) := fun z => by
    rw [hes, look_ent]
    by_cases h : z ∈ K
    · exact ⟨_, rfl, .inl ⟨h, by simp [h]⟩⟩
    · exact ⟨_, rfl, .inr ⟨h, by simp [h]⟩⟩
  have fmt : ∀ x : Int, FI x → ∃ z : Str, V.v 36 [.int .i64 x, .int .i64 10] (.str ⟨⟨z⟩⟩) ∧ z = itoa x := fun x hx => ⟨_, h36 x hx, rfl⟩
  conv => cbv
  intro g6
  conv => cbv
  refine join_of (fun d => ∃ x : Int, d = ⟨[(0, .int .i64 x), (1, .int .i64 hi0), (2, .mapr 308 gm), (6, .ptr 606 g6 0)], [(606, ⟨g6, .rw, .var, [.bool false, .bool false, .bool false, .sl 1 true [], .int .i64 0, .int .i64 0]⟩), (308, ⟨gm, .rw, .map, .int .i64 c0 :: es⟩)], false⟩ ∧ x = upS hi0 K lo0) (fun M upm => ?_) ?_
  · conv => cbv
    refine loop_of (fun n d => ∃ x : Int, d = ⟨[(0, .int .i64 x), (1, .int .i64 hi0), (2, .mapr 308 gm), (6, .ptr 606 g6 0)], [(606, ⟨g6, .rw, .var, [.bool false, .bool false, .bool false, .sl 1 true [], .int .i64 0, .int .i64 0]⟩), (308, ⟨gm, .rw, .map, .int .i64 c0 :: es⟩)], false⟩ ∧ n = (hi0 + 1 - x).toNat ∧ (x ≤ hi0 + 1 ∨ x = lo0) ∧ lo0 ≤ x ∧ upS hi0 K x = upS hi0 K lo0) ⟨_, _, ⟨_, rfl, rfl, .inr rfl, Int.le_refl _, rfl⟩, ⟨⟨rfl, rfl, rfl, rfl, trivial⟩, ⟨rfl, rfl, trivial⟩, rfl⟩⟩ ?_
    rintro J up n d ⟨x, rfl, rfl, hx1, hx2, hx3⟩
    conv => cbv
    rintro (_ | _) h1
    · replace h1 := f_leq hO h1
      conv => cbv
      exact ⟨_, upm _ ⟨x, rfl, by rw [← hx3, upS_stop (fun h => by omega)]⟩, ⟨⟨rfl, rfl, rfl, rfl, trivial⟩, ⟨rfl, rfl, trivial⟩, rfl⟩⟩
    · replace h1 := t_leq hO h1
      conv => cbv
      obtain ⟨z, hz, hzi⟩ := fmt x (by unfold FI; omega)
      refine ⟨_, hz, ?_⟩
      conv => cbv
      obtain ⟨q, hq, hcase⟩ := look z
      refine ⟨q, hq, ?_⟩
      rcases hcase with ⟨hm, rfl⟩ | ⟨hm, rfl⟩
      · conv => cbv
        refine ⟨_, _, up _ _ ⟨_, rfl, rfl, ?_, ?_, ?_⟩, ⟨⟨rfl, rfl, rfl, rfl, trivial⟩, ⟨rfl, rfl, trivial⟩, rfl⟩, ?_⟩
        all_goals rw [o_add64 hO (by omega) (by omega)]
        · omega
        · omega
        · rw [← hx3, ← upS_step ⟨h1, by rw [← hzi]; exact hm⟩]
        · omega
      · conv => cbv
        exact ⟨_, upm _ ⟨x, rfl, by rw [← hx3, upS_stop (fun h => hm (by rw [hzi]; exact h.2))]⟩, ⟨⟨rfl, rfl, rfl, rfl, trivial⟩, ⟨rfl, rfl, trivial⟩, rfl⟩⟩
  rintro d ⟨x, rfl, hx⟩
  have hxb := upS_ge (hi := hi0) (K := K) _ lo0 (Nat.le_refl _)
  rw [← hx] at hxb
  conv => cbv
  refine join_of (fun d => ∃ y : Int, d = ⟨[(0, .int .i64 x), (1, .int .i64 y), (2, .mapr 308 gm), (6, .ptr 606 g6 0)], [(606, ⟨g6, .rw, .var, [.bool false, .bool false, .bool false, .sl 1 true [], .int .i64 0, .int .i64 0]⟩), (308, ⟨gm, .rw, .map, .int .i64 c0 :: es⟩)], false⟩ ∧ y = dnS x K hi0) (fun M upm => ?_) ?_
  · conv => cbv
    refine loop_of (fun n d => ∃ y : Int, d = ⟨[(0, .int .i64 x), (1, .int .i64 y), (2, .mapr 308 gm), (6, .ptr 606 g6 0)], [(606, ⟨g6, .rw, .var, [.bool false, .bool false, .bool false, .sl 1 true [], .int .i64 0, .int .i64 0]⟩), (308, ⟨gm, .rw, .map, .int .i64 c0 :: es⟩)], false⟩ ∧ n = (y + 1 - x).toNat ∧ (x - 1 ≤ y ∨ y = hi0) ∧ y ≤ hi0 ∧ dnS x K y = dnS x K hi0) ⟨_, _, ⟨_, rfl, rfl, .inr rfl, Int.le_refl _, rfl⟩, ⟨⟨rfl, rfl, rfl, rfl, trivial⟩, ⟨rfl, rfl, trivial⟩, rfl⟩⟩ ?_
    rintro J up n d ⟨y, rfl, rfl, hx1, hx2, hx3⟩
    conv => cbv
    rintro (_ | _) h1
    · replace h1 := f_leq hO h1
      conv => cbv
      exact ⟨_, upm _ ⟨y, rfl, by rw [← hx3, dnS_stop (fun h => by omega)]⟩, ⟨⟨rfl, rfl, rfl, rfl, trivial⟩, ⟨rfl, rfl, trivial⟩, rfl⟩⟩
    · replace h1 := t_leq hO h1
      conv => cbv
      obtain ⟨z, hz, hzi⟩ := fmt y (by unfold FI; omega)
      refine ⟨_, hz, ?_⟩
      conv => cbv
      obtain ⟨q, hq, hcase⟩ := look z
      refine ⟨q, hq, ?_⟩
      rcases hcase with ⟨hm, rfl⟩ | ⟨hm, rfl⟩
      · conv => cbv
        refine ⟨_, _, up _ _ ⟨_, rfl, rfl, ?_, ?_, ?_⟩, ⟨⟨rfl, rfl, rfl, rfl, trivial⟩, ⟨rfl, rfl, trivial⟩, rfl⟩, ?_⟩
        all_goals rw [o_sub64 hO (by omega) (by omega)]
        · omega
        · omega
        · rw [← hx3, ← dnS_step ⟨h1, by rw [← hzi]; exact hm⟩]
        · omega
      · conv => cbv
        exact ⟨_, upm _ ⟨y, rfl, by rw [← hx3, dnS_stop (fun h => hm (by rw [hzi]; exact h.2))]⟩, ⟨⟨rfl, rfl, rfl, rfl, trivial⟩, ⟨rfl, rfl, trivial⟩, rfl⟩⟩
  rintro d ⟨y, rfl, hy⟩
  have hyb := dnS_le (lo := x) (K := K) _ hi0 (Nat.le_refl _)
  rw [← hy] at hyb
  conv => cbv
  refine join_of (fun d => ∃ (K2 : List Str) (es2 : List D), d = ⟨[(0, .int .i64 x), (1, .int .i64 y), (2, .mapr 308 gm), (6, .ptr 606 g6 0)], [(606, ⟨g6, .rw, .var, [.bool false, .bool false, .bool false, .sl 1 true [], .int .i64 0, .int .i64 0]⟩), (308, ⟨gm, .rw, .map, .int .i64 c0 :: es2⟩)], false⟩ ∧ es2 = K2.map ent ∧ K2.Nodup ∧ K2.length ≤ K.length ∧ ∀ z, z ∈ K2 ↔ z ∈ K ∧ inR x y z = true) (fun M upm => ?_) ?_
  · conv => cbv
    intro g37
    conv => cbv
    refine loop_of (fun n d => ∃ (K' S : List Str) (es' ks : List D), d = ⟨[(0, .int .i64 x), (1, .int .i64 y), (2, .mapr 308 gm), (6, .ptr 606 g6 0), (37, .ptr 637 g37 0)], [(606, ⟨g6, .rw, .var, [.bool false, .bool false, .bool false, .sl 1 true [], .int .i64 0, .int .i64 0]⟩), (308, ⟨gm, .rw, .map, .int .i64 c0 :: es'⟩), (637, ⟨g37, .rw, .iter, .mapr 308 gm :: .int .i64 c0 :: ks⟩)], false⟩ ∧ es' = K'.map ent ∧ ks = S.map mkS ∧ K'.Nodup ∧ (∀ z ∈ K', z ∈ K) ∧ K'.length ≤ K.length ∧ S.Nodup ∧ (∀ z ∈ S, z ∈ K) ∧ (∀ z ∈ K, z ∉ K' → inR x y z = false) ∧ (∀ z ∈ S, z ∈ K' → inR x y z = true) ∧ n = K.length - S.length) ⟨_, _, ⟨K, [], es, [], rfl, hes, rfl, hKn, fun _ h => h, Nat.le_refl _, List.nodup_nil, by simp, fun z h h' => absurd h h', by simp, rfl⟩, ⟨⟨rfl, rfl, rfl, rfl, rfl, trivial⟩, ⟨rfl, rfl, rfl, trivial⟩, rfl⟩⟩ ?_
    rintro J up n d ⟨K', S, es', ks, rfl, hes', hks, hK1, hK2, hK3, hS1, hS2, hK4, hS3, rfl⟩
    conv => cbv
    refine ⟨fun w hw => ?_, fun hall => ?_, fun k w hw hs => ?_⟩
    · rw [hes'] at hw
      obtain ⟨z, _, rfl⟩ := List.mem_map.1 hw
      exact ⟨mkS z, .bool true, decide (z ∈ S), rfl, by rw [hks]; exact seen_S z S⟩
    · conv => cbv
      refine ⟨_, upm _ ⟨K', es', rfl, hes', hK1, hK3, fun z => ⟨fun hz => ⟨hK2 z hz, ?_⟩, fun hz => ?_⟩⟩, ⟨⟨rfl, rfl, rfl, rfl, trivial⟩, ⟨rfl, rfl, trivial⟩, rfl⟩⟩
      · have h1 := hall (mkS z) (.bool true) (by rw [hes']; exact List.mem_map.2 ⟨z, hz, rfl⟩)
        rw [hks, seen_S] at h1
        exact hS3 z (by simpa using h1) hz
      · refine Classical.byContradiction fun hn => ?_
        have := hK4 z hz.1 hn
        rw [this] at hz
        simp at hz
    · have hw2 := hw
      rw [hes'] at hw2
      obtain ⟨z, hzK, he⟩ := List.mem_map.1 hw2
      simp only [ent, D.tup.injEq, List.cons.injEq, and_true] at he
      obtain ⟨rfl, rfl⟩ := he
      rw [hks, seen_S] at hs
      have hzS : z ∉ S := by simpa using hs
      obtain ⟨ks2, hks2'⟩ : ∃ ks2, ks2 = O .app ks [mkS z] := ⟨_, rfl⟩
      have hks2 : ks2 = (S ++ [z]).map mkS := by rw [hks2', o_app hO, hks]; simp
      have hS1' : (S ++ [z]).Nodup := by
        rw [List.nodup_append]
        refine ⟨hS1, by simp, fun a ha b hb => ?_⟩
        simp only [List.mem_singleton] at hb
        subst hb
        exact fun e => hzS (by rw [← e]; exact ha)
      have hS2' : ∀ w ∈ S ++ [z], w ∈ K := fun w hw => by
        rcases List.mem_append.1 hw with hw | hw
        · exact hS2 w hw
        · simp only [List.mem_singleton] at hw; subst hw; exact hK2 w hzK
      have hmeas : K.length - (S ++ [z]).length < K.length - S.length := by
        have := nodup_len hS1' hS2'
        simp at this ⊢
        omega
      obtain ⟨v, b, hvb⟩ := NumR.ex z
      have hv := h13 z (hKs z (hK2 z hzK)) v b hvb
      have hbad : (¬ ∃ n, numS z = some n ∧ x < n ∧ n < y) → inR x y z = false := fun h => by
        cases hi : inR x y z with
        | false => rfl
        | true => exact absurd (inR_iff.1 hi) h
      conv => cbv
      rw [← hks2']
      refine ⟨mkS z, .bool true, by rw [hks2]; simp, by rw [hes']; exact lookDyn_ent z K' hzK, ?_⟩
      conv => cbv
      refine ⟨_, hv, ?_⟩
      cases b with
      | false =>
        conv => cbv
        refine ⟨_, by rw [hes']; exact mdel_ent z K', ?_⟩
        obtain ⟨es3, hes3⟩ : ∃ es3, es3 = (K'.erase z).map ent := ⟨_, rfl⟩
        rw [← hes3]
        conv => cbv
        exact ⟨_, _, up _ _ ⟨K'.erase z, S ++ [z], es3, _, rfl, hes3, hks2, hK1.erase z, fun w hw => hK2 w (List.mem_of_mem_erase hw), Nat.le_trans List.length_erase_le hK3, hS1', hS2', fun w hw hn => (by
          by_cases e : w = z
          · subst e; exact hbad (fun ⟨n, hn, _⟩ => by have := (hvb.of hn).1; simp at this)
          · exact hK4 w hw fun h => hn ((List.mem_erase_of_ne e).2 h)), fun w hw hw2 => (by
          rcases List.mem_append.1 hw with hw | hw
          · exact hS3 w hw (List.mem_of_mem_erase hw2)
          · simp only [List.mem_singleton] at hw; subst hw; exact absurd hw2 (List.Nodup.not_mem_erase hK1)), rfl⟩, ⟨⟨rfl, rfl, rfl, rfl, rfl, trivial⟩, ⟨rfl, rfl, rfl, trivial⟩, rfl⟩, hmeas⟩
      | true =>
        have hnum : numS z = some v := by
          rcases hvb with ⟨_, h⟩ | ⟨h, _⟩
          · exact h
          · simp at h
        conv => cbv
        rintro (_ | _) h1
        · replace h1 := f_leq hO h1
          conv => cbv
          rintro (_ | _) h2
          · replace h2 := f_geq hO h2
            conv => cbv
            exact ⟨_, _, up _ _ ⟨K', S ++ [z], es', _, rfl, hes', hks2, hK1, hK2, hK3, hS1', hS2', hK4, fun w hw hw2 => (by
              rcases List.mem_append.1 hw with hw | hw
              · exact hS3 w hw hw2
              · simp only [List.mem_singleton] at hw; subst hw; exact inR_iff.2 ⟨v, hnum, h1, h2⟩), rfl⟩, ⟨⟨rfl, rfl, rfl, rfl, rfl, trivial⟩, ⟨rfl, rfl, rfl, trivial⟩, rfl⟩, hmeas⟩
          · replace h2 := t_geq hO h2
            conv => cbv
            refine ⟨_, by rw [hes']; exact mdel_ent z K', ?_⟩
            obtain ⟨es3, hes3⟩ : ∃ es3, es3 = (K'.erase z).map ent := ⟨_, rfl⟩
            rw [← hes3]
            conv => cbv
            exact ⟨_, _, up _ _ ⟨K'.erase z, S ++ [z], es3, _, rfl, hes3, hks2, hK1.erase z, fun w hw => hK2 w (List.mem_of_mem_erase hw), Nat.le_trans List.length_erase_le hK3, hS1', hS2', fun w hw hn => (by
              by_cases e : w = z
              · subst e; exact hbad (fun ⟨n, hn, h8, h9⟩ => by rw [hnum] at hn; simp only [Option.some.injEq] at hn; omega)
              · exact hK4 w hw fun h => hn ((List.mem_erase_of_ne e).2 h)), fun w hw hw2 => (by
              rcases List.mem_append.1 hw with hw | hw
              · exact hS3 w hw (List.mem_of_mem_erase hw2)
              · simp only [List.mem_singleton] at hw; subst hw; exact absurd hw2 (List.Nodup.not_mem_erase hK1)), rfl⟩, ⟨⟨rfl, rfl, rfl, rfl, rfl, trivial⟩, ⟨rfl, rfl, rfl, trivial⟩, rfl⟩, hmeas⟩
        · replace h1 := t_leq hO h1
          conv => cbv
          refine ⟨_, by rw [hes']; exact mdel_ent z K', ?_⟩
          obtain ⟨es3, hes3⟩ : ∃ es3, es3 = (K'.erase z).map ent := ⟨_, rfl⟩
          rw [← hes3]
          conv => cbv
          exact ⟨_, _, up _ _ ⟨K'.erase z, S ++ [z], es3, _, rfl, hes3, hks2, hK1.erase z, fun w hw => hK2 w (List.mem_of_mem_erase hw), Nat.le_trans List.length_erase_le hK3, hS1', hS2', fun w hw hn => (by
            by_cases e : w = z
            · subst e; exact hbad (fun ⟨n, hn, h8, h9⟩ => by rw [hnum] at hn; simp only [Option.some.injEq] at hn; omega)
            · exact hK4 w hw fun h => hn ((List.mem_erase_of_ne e).2 h)), fun w hw hw2 => (by
            rcases List.mem_append.1 hw with hw | hw
            · exact hS3 w hw (List.mem_of_mem_erase hw2)
            · simp only [List.mem_singleton] at hw; subst hw; exact absurd hw2 (List.Nodup.not_mem_erase hK1)), rfl⟩, ⟨⟨rfl, rfl, rfl, rfl, rfl, trivial⟩, ⟨rfl, rfl, rfl, trivial⟩, rfl⟩, hmeas⟩
  rintro d ⟨K2, es2, rfl, hes2, hnd, hlen2, hmem⟩
  obtain ⟨hv1, hv2, hv3⟩ := left_vals hnd hmem
  have hl2 : O .len es2 = K2.length := by rw [o_len hO, hes2]; simp
  have hc2 : CleanL es2 := cleanL_map clean_ent hes2
  have hans : numbersS lo0 hi0 K = numbersN x y K := by unfold numbersS; rw [← hx, ← hy]
  have hspan : O .iop .sub .i64 (O .iop .add .i64 (O .iop .sub .i64 y x) 1) (O .len es2) = y - x + 1 - K2.length := by
    have e1 : O .iop .sub .i64 y x = y - x := o_sub64 hO (by omega) (by omega)
    rw [e1, o_add64 hO (by omega) (by omega), hl2, o_sub64 hO (by omega) (by omega)]
  have look2 : ∀ z : Str, ∃ r, lookD kS (mkS z) es2 = some r ∧ ((z ∈ K2 ∧ r = some (.bool true)) ∨ (z ∉ K2 ∧ r = none)) := fun z => by
    rw [hes2, look_ent]
    by_cases h : z ∈ K2
    · exact ⟨_, rfl, .inl ⟨h, by simp [h]⟩⟩
    · exact ⟨_, rfl, .inr ⟨h, by simp [h]⟩⟩
  conv => cbv
  rintro (_ | _) h1
  · replace h1 := f_gtr hO h1
    rw [hspan] at h1
    conv => cbv
    intro g77
    conv => cbv
    refine loop_of (fun n d => ∃ (v : Int) (j : Nat) (ac : List D) (tk : Int), d = ⟨[(1, .int .i64 y), (2, .mapr 308 gm), (6, .ptr 606 g6 0), (11, .mapr 677 g77), (12, .int .i64 v)], [(606, ⟨g6, .rw, .var, [.bool false, .bool false, .bool false, .sl 1 true [], .int .i64 0, .int .i64 0]⟩), (308, ⟨gm, .rw, .map, .int .i64 c0 :: es2⟩), (677, ⟨g77, .rw, .map, .int .i64 tk :: ac⟩)], false⟩ ∧ v = x + j ∧ (j = 0 ∨ v ≤ y + 1) ∧ n = (y + 1 - v).toNat ∧ ac = (accN x K2 j).map ent) ⟨_, _, ⟨x, 0, _, _, rfl, by omega, .inl rfl, rfl, rfl⟩, ⟨⟨rfl, rfl, rfl, rfl, rfl, trivial⟩, ⟨rfl, rfl, rfl, trivial⟩, rfl⟩⟩ ?_
    rintro J up n d ⟨v, j, ac, tk, rfl, hv, hvj, rfl, hac⟩
    conv => cbv
    rintro (_ | _) h2
    · replace h2 := f_leq hO h2
      conv => cbv
      have hj : accN x K2 j = accN x K2 (y + 1 - x).toNat := by
        rcases hvj with h | h
        · subst h; rw [show (y + 1 - x).toNat = 0 by omega]
        · rw [show (y + 1 - x).toNat = j by omega]
      have hcac : CleanL ac := cleanL_map clean_ent hac
      have hal := accN_len x K2 j
      have hr := h32m 677 g77 tk (by decide) (accN x K2 j) (accN_nodup _ _ _) (accN_SL fun i hi => ⟨by omega, by omega⟩) (by omega)
      rw [← hac] at hr
      obtain ⟨rs, hrs⟩ : ∃ rs, rs = (risingS (accN x K2 j)).map mkS := ⟨_, rfl⟩
      have hcr : CleanL rs := cleanL_map clean_S hrs
      rw [← hrs] at hr
      have hfin : risingS (accN x K2 j) = risingS (listN x y (valsN x y K)) := by
        rw [hj, ← listN_congr hv3]
        exact risingS_congr fun z => accN_mem
      refine shared_of hr (by decide) ⟨rfl, trivial⟩ ?_
      rintro _ _ ⟨gr, rfl, rfl⟩
      conv => cbv
      have hN : numbersN x y K = some ⟨false, false, false, risingS (accN x K2 j), 0, 0⟩ := by unfold numbersN; rw [if_pos (by rw [hv2]; omega), hfin]
      exact ⟨⟨false, false, false, risingS (accN x K2 j), 0, 0⟩, true, gr, rs, rfl, .inl ⟨rfl, by rw [hans, hN]⟩, hrs, ⟨rfl, trivial⟩⟩
    · replace h2 := t_leq hO h2
      conv => cbv
      obtain ⟨z, hz, hzi⟩ := fmt v (by unfold FI; omega)
      refine ⟨_, hz, ?_⟩
      conv => cbv
      obtain ⟨q, hq, hcase⟩ := look2 z
      have hadd : O .iop .add .i64 v 1 = v + 1 := o_add64 hO (by omega) (by omega)
      have hst := accN_step (lo := x) (K := K2) (j := j) (z := z) (by rw [hzi, hv])
      refine ⟨q, hq, ?_⟩
      rcases hcase with ⟨hm, rfl⟩ | ⟨hm, rfl⟩
      · conv => cbv
        rw [hadd]
        refine ⟨_, _, up _ _ ⟨v + 1, j + 1, ac, tk, rfl, by omega, .inr (by omega), rfl, ?_⟩, ⟨⟨rfl, rfl, rfl, rfl, rfl, trivial⟩, ⟨rfl, rfl, rfl, trivial⟩, rfl⟩, by omega⟩
        rw [hac, hst, if_pos hm]
      · conv => cbv
        obtain ⟨ac3, hac3⟩ : ∃ ac3, ac3 = (insS (accN x K2 j) z).map ent := ⟨_, rfl⟩
        refine ⟨ac3, by rw [hac, hac3]; exact mput_ent _ _, fun c => ?_⟩
        conv => cbv
        rw [hadd]
        refine ⟨_, _, up _ _ ⟨v + 1, j + 1, ac3, c, rfl, by omega, .inr (by omega), rfl, ?_⟩, ⟨⟨rfl, rfl, rfl, rfl, rfl, trivial⟩, ⟨rfl, rfl, rfl, trivial⟩, rfl⟩, by omega⟩
        rw [hac3, hst, if_neg hm]
  · replace h1 := t_gtr hO h1
    rw [hspan] at h1
    conv => cbv
    have hr := h32m 308 gm c0 (by decide) K2 hnd (left_SL hmem) (by omega)
    rw [← hes2] at hr
    obtain ⟨rs, hrs⟩ : ∃ rs, rs = (risingS K2).map mkS := ⟨_, rfl⟩
    have hcr : CleanL rs := cleanL_map clean_S hrs
    rw [← hrs] at hr
    refine shared_of hr (by decide) ⟨rfl, trivial⟩ ?_
    rintro _ _ ⟨gr, rfl, rfl⟩
    conv => cbv
    rintro (_ | _) h2
    · replace h2 := f_leq hO h2
      rw [hl2] at h2
      conv => cbv
      have hN : numbersN x y K = none := by unfold numbersN; rw [if_neg (by rw [hv2]; omega), if_pos (by rw [hv2]; omega)]
      exact ⟨⟨false, true, true, valsN x y K, x, y⟩, false, gr, rs, rfl, .inr ⟨rfl, by rw [hans, hN]⟩, by rw [← hv1]; exact hrs, ⟨rfl, trivial⟩⟩
    · replace h2 := t_leq hO h2
      rw [hl2] at h2
      conv => cbv
      have hN : numbersN x y K = some ⟨false, true, true, valsN x y K, x, y⟩ := by unfold numbersN; rw [if_neg (by rw [hv2]; omega), if_neg (by rw [hv2]; omega)]
      exact ⟨⟨false, true, true, valsN x y K, x, y⟩, true, gr, rs, rfl, .inl ⟨rfl, by rw [hans, hN]⟩, by rw [← hv1]; exact hrs, ⟨rfl, trivial⟩⟩
end Go.Proofs.AM
namespace Go.Proofs.AM
open Go Go.Lib
theorem value_num {v : Str} {n : Int} (h : numS v = some n) : valueB v = true := by rw [valueB_or, h]; simp
theorem hasRaw_iff {s : SetV} {v : Str} : hasRaw s v = true ↔ (s.n = true ↔ v ∉ s.l) ∧ (s.u = true → ∃ n, numS v = some n ∧ s.lo ≤ n ∧ n ≤ s.hi) := by
  unfold hasRaw rangeB
  cases s.n <;> cases s.u <;> simp
theorem bool_eq {a b : Bool} (h : a = true ↔ b = true) : a = b := by cases a <;> cases b <;> simp_all
theorem itoa_num {n : Int} (h1 : least ≤ n) (h2 : n ≤ most) {v : Str} (h : v = itoa n) : numS v = some n := by rw [h]; exact numS_itoa h1 h2
theorem num_itoa {v : Str} {n : Int} (h : numS v = some n) : v = itoa n := (numS_iff.1 h).1
theorem filter_len {U V : List Str} (hU : U.Nodup) (hV : V.Nodup) (h : ∀ z ∈ V, z ∈ U) : (U.filter fun s => decide (s ∉ V)).length + V.length = U.length := by
  have h1 : (U.filter fun s => decide (s ∈ V)).length = V.length := nodup_len_eq (hU.filter _) hV fun z => by
    simp only [List.mem_filter, decide_eq_true_eq]
    exact ⟨fun h => h.2, fun hz => ⟨h z hz, hz⟩⟩
  rw [← h1]
  clear h1 hU hV h
  induction U with
  | nil => rfl
  | cons x U ih =>
    by_cases hx : x ∈ V <;> simp [hx] <;> simp at ih <;> omega
theorem up_spec {hi : Int} {K : List Str} : ∀ (n : Nat) (lo : Int), (hi + 1 - lo).toNat ≤ n → (∀ i, lo ≤ i → i < upS hi K lo → itoa i ∈ K) ∧ ¬ (upS hi K lo ≤ hi ∧ itoa (upS hi K lo) ∈ K) := by
  intro n
  induction n with
  | zero =>
    intro lo h
    have hc : ¬ (lo ≤ hi ∧ itoa lo ∈ K) := fun h' => by omega
    rw [upS_stop hc]
    exact ⟨fun i h1 h2 => by omega, hc⟩
  | succ n ih =>
    intro lo h
    by_cases hc : lo ≤ hi ∧ itoa lo ∈ K
    · rw [upS_step hc]
      obtain ⟨h1, h2⟩ := ih (lo + 1) (by omega)
      refine ⟨fun i hi1 hi2 => ?_, h2⟩
      by_cases e : i = lo
      · subst e; exact hc.2
      · exact h1 i (by omega) hi2
    · rw [upS_stop hc]
      exact ⟨fun i h1 h2 => by omega, hc⟩
theorem dn_spec {lo : Int} {K : List Str} : ∀ (n : Nat) (hi : Int), (hi + 1 - lo).toNat ≤ n → (∀ i, dnS lo K hi < i → i ≤ hi → itoa i ∈ K) ∧ ¬ (lo ≤ dnS lo K hi ∧ itoa (dnS lo K hi) ∈ K) := by
  intro n
  induction n with
  | zero =>
    intro hi h
    have hc : ¬ (lo ≤ hi ∧ itoa hi ∈ K) := fun h' => by omega
    rw [dnS_stop hc]
    exact ⟨fun i h1 h2 => by omega, hc⟩
  | succ n ih =>
    intro hi h
    by_cases hc : lo ≤ hi ∧ itoa hi ∈ K
    · rw [dnS_step hc]
      obtain ⟨h1, h2⟩ := ih (hi - 1) (by omega)
      refine ⟨fun i hi1 hi2 => ?_, h2⟩
      by_cases e : i = hi
      · subst e; exact hc.2
      · exact h1 i hi1 (by omega)
    · rw [dnS_stop hc]
      exact ⟨fun i h1 h2 => by omega, hc⟩
theorem valsN_mem {x y : Int} {K : List Str} {z : Str} : z ∈ valsN x y K ↔ z ∈ K ∧ ∃ n, numS z = some n ∧ x < n ∧ n < y := by
  unfold valsN
  rw [risingS_mem, List.mem_filter, inR_iff]
theorem num_upTo {x y : Int} (h1 : least ≤ x) (h2 : y ≤ most) {z : Str} : z ∈ upTo x (y + 1 - x).toNat ↔ ∃ n, numS z = some n ∧ x ≤ n ∧ n ≤ y := by
  rw [upTo_mem]
  constructor
  · rintro ⟨i, hi, e⟩
    exact ⟨x + i, itoa_num (by omega) (by omega) e, by omega, by omega⟩
  · rintro ⟨n, hn, h3, h4⟩
    refine ⟨(n - x).toNat, by omega, ?_⟩
    rw [num_itoa hn]
    congr 1
    omega
theorem numbersN_spec {x y : Int} {K : List Str} {S : SetV} (h1 : least ≤ x) (h2 : y ≤ most) (hx : x ≤ y → itoa x ∉ K) (hy : x ≤ y → itoa y ∉ K) (h : numbersN x y K = some S) :
    CheckP S ∧ S.m = false ∧ ∀ v, hasRaw S v = true ↔ v ∉ K ∧ ∃ n, numS v = some n ∧ x ≤ n ∧ n ≤ y := by
  have hin : ∀ v n, numS v = some n → x ≤ n → n ≤ y → (v ∈ valsN x y K ↔ v ∈ K) := fun v n hv h3 h4 => by
    rw [valsN_mem]
    refine ⟨fun h => h.1, fun hk => ⟨hk, n, hv, ?_, ?_⟩⟩
    · have : n ≠ x := fun e => hx (by omega) (by rw [← e, ← num_itoa hv]; exact hk)
      omega
    · have : n ≠ y := fun e => hy (by omega) (by rw [← e, ← num_itoa hv]; exact hk)
      omega
  have hVn : (valsN x y K).Nodup := (risingS_rises _).nodup
  have hVr : Rises (valsN x y K) := risingS_rises _
  have hVm : ∀ z ∈ valsN x y K, ∃ n, numS z = some n ∧ x < n ∧ n < y := fun z hz => (valsN_mem.1 hz).2
  unfold numbersN at h
  split at h
  · rename_i hc
    simp only [Option.some.injEq] at h
    subst h
    have hmem : ∀ z, z ∈ risingS (listN x y (valsN x y K)) ↔ z ∉ valsN x y K ∧ ∃ n, numS z = some n ∧ x ≤ n ∧ n ≤ y := fun z => by
      unfold listN
      rw [risingS_mem, List.mem_filter, num_upTo h1 h2]
      simp only [decide_eq_true_eq]
      exact and_comm
    have hln : (listN x y (valsN x y K)).Nodup := (upTo_nodup _ _).filter _
    have hlen : (risingS (listN x y (valsN x y K))).length ≤ 64 := by
      rw [risingS_len_eq hln]
      have := filter_len (upTo_nodup x (y + 1 - x).toNat) hVn fun z hz => by
        obtain ⟨n, h3, h4, h5⟩ := hVm z hz
        exact (num_upTo h1 h2).2 ⟨n, h3, by omega, by omega⟩
      rw [upTo_len] at this
      unfold listN
      omega
    refine ⟨⟨⟨hlen, fun j z hz => ?_, (risingS_rises _).adj⟩, by simp, by simp, by simp⟩, rfl, fun v => ?_⟩
    · obtain ⟨_, n, hn, _⟩ := (hmem z).1 (List.mem_of_getElem? hz)
      exact value_num hn
    · rw [hasRaw_iff]
      simp only [Bool.false_eq_true, false_iff, Decidable.not_not, false_imp_iff, and_true]
      rw [hmem]
      constructor
      · rintro ⟨h3, n, h4, h5, h6⟩
        exact ⟨fun hk => h3 ((hin v n h4 h5 h6).2 hk), n, h4, h5, h6⟩
      · rintro ⟨h3, n, h4, h5, h6⟩
        exact ⟨fun hk => h3 ((hin v n h4 h5 h6).1 hk), n, h4, h5, h6⟩
  · rename_i hc
    split at h
    · simp at h
    · rename_i hv
      simp only [Option.some.injEq] at h
      subst h
      refine ⟨⟨⟨by show (valsN x y K).length ≤ 64; omega, fun j z hz => ?_, hVr.adj⟩, by simp, by simp, fun _ => ⟨h1, h2, by show x ≤ y; omega, by show 64 < y - x + 1 - ((valsN x y K).length : Int); omega, fun j z hz => hVm z (List.mem_of_getElem? hz)⟩⟩, rfl, fun v => ?_⟩
      · obtain ⟨n, hn, _⟩ := hVm z (List.mem_of_getElem? hz)
        exact value_num hn
      · rw [hasRaw_iff]
        simp only [true_iff, true_imp_iff]
        constructor
        · rintro ⟨h3, n, h4, h5, h6⟩
          exact ⟨fun hk => h3 ((hin v n h4 h5 h6).2 hk), n, h4, h5, h6⟩
        · rintro ⟨h3, n, h4, h5, h6⟩
          exact ⟨fun hk => h3 ((hin v n h4 h5 h6).1 hk), n, h4, h5, h6⟩
theorem numbersS_spec {lo hi : Int} {K : List Str} {S : SetV} (h1 : least ≤ lo) (h2 : hi ≤ most) (h : numbersS lo hi K = some S) :
    CheckP S ∧ S.m = false ∧ ∀ v, hasRaw S v = true ↔ v ∉ K ∧ ∃ n, numS v = some n ∧ lo ≤ n ∧ n ≤ hi := by
  unfold numbersS at h
  obtain ⟨u1, u2⟩ := up_spec (hi := hi) (K := K) _ lo (Nat.le_refl _)
  obtain ⟨u3, _, _⟩ := upS_ge (hi := hi) (K := K) _ lo (Nat.le_refl _)
  obtain ⟨x, hx⟩ : ∃ x, x = upS hi K lo := ⟨_, rfl⟩
  rw [← hx] at h u1 u2 u3
  obtain ⟨d1, d2⟩ := dn_spec (lo := x) (K := K) _ hi (Nat.le_refl _)
  obtain ⟨d3, _, _⟩ := dnS_le (lo := x) (K := K) _ hi (Nat.le_refl _)
  obtain ⟨y, hy⟩ : ∃ y, y = dnS x K hi := ⟨_, rfl⟩
  rw [← hy] at h d1 d2 d3
  obtain ⟨c, m, r⟩ := numbersN_spec (by omega) (by omega) (fun hxy hk => u2 ⟨by omega, hk⟩) (fun hxy hk => d2 ⟨hxy, hk⟩) h
  refine ⟨c, m, fun v => ?_⟩
  rw [r]
  refine and_congr_right fun hv => ?_
  constructor
  · rintro ⟨n, h3, h4, h5⟩; exact ⟨n, h3, by omega, by omega⟩
  · rintro ⟨n, h3, h4, h5⟩
    refine ⟨n, h3, ?_, ?_⟩
    · refine Classical.byContradiction fun hlt => hv ?_
      rw [num_itoa h3]
      exact u1 n h4 (by omega)
    · refine Classical.byContradiction fun hlt => hv ?_
      rw [num_itoa h3]
      exact d1 n (by omega) h5
theorem numbersS_ne {lo hi : Int} {K : List Str} (h : K.length ≤ 64) : ∃ S, numbersS lo hi K = some S := by
  unfold numbersS numbersN
  split
  · exact ⟨_, rfl⟩
  · rw [if_neg]
    · exact ⟨_, rfl⟩
    · have h1 : (valsN (upS hi K lo) (dnS (upS hi K lo) K hi) K).length ≤ _ := risingS_len _
      have h2 := List.length_filter_le (inR (upS hi K lo) (dnS (upS hi K lo) K hi)) K
      omega
theorem CheckP.rises {s : SetV} (h : CheckP s) : Rises s.l := rises_of_adj h.ord.2.2
theorem CheckP.val {s : SetV} (h : CheckP s) {z : Str} (hz : z ∈ s.l) : valueB z = true := by
  obtain ⟨j, hj⟩ := List.getElem?_of_mem hz
  exact h.ord.2.1 j z hj
theorem CheckP.inr {s : SetV} (h : CheckP s) (hu : s.u = true) {z : Str} (hz : z ∈ s.l) : ∃ n, numS z = some n ∧ s.lo < n ∧ n < s.hi := by
  obtain ⟨j, hj⟩ := List.getElem?_of_mem hz
  exact (h.u hu).2.2.2.2 j z hj
theorem hasB_raw {s : SetV} (h : CheckP s) (v : Str) : hasB s v = (valueB v && hasRaw s v) := by
  unfold hasB
  rw [checkE_0 h]
  simp
theorem Rises.filter {l : List Str} (h : Rises l) (p : Str → Bool) : Rises (l.filter p) := List.Pairwise.filter _ h
theorem check_filter {a : SetV} (ca : CheckP a) (p : Str → Bool) : CheckP ⟨false, false, false, a.l.filter p, 0, 0⟩ :=
  ⟨⟨Nat.le_trans (List.length_filter_le _ _) ca.ord.1, fun _ _ hz => ca.val (List.mem_filter.1 (List.mem_of_getElem? hz)).1, (ca.rises.filter p).adj⟩, by simp, by simp, by simp⟩
theorem filter_spec {a b : SetV} (ca : CheckP a) (cb : CheckP b) (ha : a.n = false) {v : Str} (hv : valueB v = true) : hasRaw ⟨false, false, false, a.l.filter (hasB b), 0, 0⟩ v = true ↔ hasRaw a v = true ∧ hasRaw b v = true := by
  have hu : a.u = false := by cases h : a.u with
    | false => rfl
    | true => rw [ca.un h] at ha; simp at ha
  rw [hasRaw_iff, hasRaw_iff (s := a), ha, hu]
  simp [hasB_raw cb, hv]
theorem meetN_spec {a b S : SetV} (ca : CheckP a) (cb : CheckP b) (h : meetN a b = some S) : CheckP S ∧ S.m = false ∧ ∀ v, valueB v = true → (hasRaw S v = true ↔ hasRaw a v = true ∧ hasRaw b v = true) := by
  unfold meetN at h
  have hval : ∀ z, z ∈ risingS (a.l ++ b.l) → valueB z = true := fun z hz => by
    rw [risingS_mem, List.mem_append] at hz
    rcases hz with hz | hz
    · exact ca.val hz
    · exact cb.val hz
  have hmem : ∀ z, z ∉ risingS (a.l ++ b.l) ↔ z ∉ a.l ∧ z ∉ b.l := fun z => by rw [risingS_mem]; simp
  split at h
  · rename_i ha
    simp only [Option.some.injEq] at h
    subst h
    exact ⟨check_filter ca _, rfl, fun v hv => filter_spec ca cb ha hv⟩
  rename_i ha
  have ha : a.n = true := by simpa using ha
  split at h
  · rename_i hb
    simp only [Option.some.injEq] at h
    subst h
    exact ⟨check_filter cb _, rfl, fun v hv => by rw [filter_spec cb ca hb hv]; exact and_comm⟩
  rename_i hb
  have hb : b.n = true := by simpa using hb
  have ea : ∀ v, hasRaw a v = true ↔ v ∉ a.l ∧ (a.u = true → ∃ n, numS v = some n ∧ a.lo ≤ n ∧ n ≤ a.hi) := fun v => by rw [hasRaw_iff, ha]; simp
  have eb : ∀ v, hasRaw b v = true ↔ v ∉ b.l ∧ (b.u = true → ∃ n, numS v = some n ∧ b.lo ≤ n ∧ n ≤ b.hi) := fun v => by rw [hasRaw_iff, hb]; simp
  split at h
  · rename_i hu
    split at h
    · rename_i hl
      simp only [Option.some.injEq] at h
      subst h
      refine ⟨⟨⟨hl, fun _ z hz => hval z (List.mem_of_getElem? hz), (risingS_rises _).adj⟩, by simp, by simp, by simp⟩, rfl, fun v _ => ?_⟩
      rw [hasRaw_iff, ea, eb, hu.1, hu.2]
      have := hmem v
      simp [this]
    · simp at h
  rename_i hu
  split at h
  · rename_i hau
    have hbu : b.u = true := by
      cases e : b.u with
      | true => rfl
      | false => exact absurd ⟨hau, e⟩ hu
    have cu := cb.u hbu
    obtain ⟨c, m, r⟩ := numbersS_spec cu.1 cu.2.1 h
    refine ⟨c, m, fun v _ => ?_⟩
    rw [r, hmem, ea, eb, hau, hbu]
    simp [and_assoc]
  rename_i hau
  have hau : a.u = true := by simpa using hau
  have cu := ca.u hau
  split at h
  · rename_i hbu
    obtain ⟨c, m, r⟩ := numbersS_spec cu.1 cu.2.1 h
    refine ⟨c, m, fun v _ => ?_⟩
    rw [r, hmem, ea, eb, hau, hbu]
    simp only [true_imp_iff, Bool.false_eq_true, false_imp_iff, and_true]
    exact ⟨fun ⟨⟨h1, h2⟩, h3⟩ => ⟨⟨h1, h3⟩, h2⟩, fun ⟨⟨h1, h3⟩, h2⟩ => ⟨⟨h1, h2⟩, h3⟩⟩
  · rename_i hbu
    have hbu : b.u = true := by simpa using hbu
    have cv := cb.u hbu
    obtain ⟨c, m, r⟩ := numbersS_spec (by omega) (by omega) h
    refine ⟨c, m, fun v _ => ?_⟩
    rw [r, hmem, ea, eb, hau, hbu]
    simp only [true_imp_iff]
    constructor
    · rintro ⟨⟨h1, h2⟩, n, h3, h4, h5⟩
      exact ⟨⟨h1, n, h3, by omega, by omega⟩, h2, n, h3, by omega, by omega⟩
    · rintro ⟨⟨h1, n, h3, h4, h5⟩, h2, n', h3', h4', h5'⟩
      have e : n' = n := by rw [h3] at h3'; simpa using h3'.symm
      subst e
      exact ⟨⟨h1, h2⟩, n', h3, by omega, by omega⟩
theorem meet_spec {a b : SetV} (ca : CheckP a) (cb : CheckP b) : (meetN a b = none ∧ meetS a b = (zeroS, 3)) ∨ ∃ S, (∃ N, meetN a b = some N) ∧ meetS a b = (S, 0) ∧ CheckP S ∧ S.m = (a.m && b.m) ∧ ∀ v, valueB v = true → hasRaw S v = (hasRaw a v && hasRaw b v) := by
  unfold meetS
  rw [if_neg (by rw [checkE_0 ca]; simp), if_neg (by rw [checkE_0 cb]; simp)]
  cases h : meetN a b with
  | none => exact .inl ⟨rfl, rfl⟩
  | some N =>
    obtain ⟨c, _, r⟩ := meetN_spec ca cb h
    refine .inr ⟨_, ⟨N, rfl⟩, rfl, ⟨c.ord, c.un, c.nu, c.u⟩, rfl, fun v hv => bool_eq ?_⟩
    have := r v hv
    rw [Bool.and_eq_true]
    exact this
theorem meet_bad {a b : SetV} (h : (meetS a b).2 = 0) : CheckP a ∧ CheckP b := by
  unfold meetS at h
  split at h
  · rename_i h1; exact absurd h h1
  · rename_i h1
    split at h
    · rename_i h2; exact absurd h h2
    · rename_i h2
      exact ⟨checkE_iff.1 (by simpa using h1), checkE_iff.1 (by simpa using h2)⟩
theorem fin_cof {a b : SetV} (ca : CheckP a) (cb : CheckP b) (ha : a.n = false) (hb : b.n = true) (h : ∀ v, valueB v = true → hasRaw a v = hasRaw b v) : False := by
  have hau : a.u = false := by cases e : a.u with
    | false => rfl
    | true => rw [ca.un e] at ha; simp at ha
  have key : ∀ v, valueB v = true → hasRaw b v = true → v ∈ a.l := fun v hv hb => by
    rw [← h v hv, hasRaw_iff, ha, hau] at hb
    simpa using hb
  have la := ca.ord.1
  have lb := cb.ord.1
  cases hbu : b.u with
  | false =>
    have := nodup_len (b := a.l ++ b.l) (upTo_nodup 0 129) fun z hz => by
      obtain ⟨i, hi, e⟩ := upTo_mem.1 hz
      have hn := itoa_num (n := 0 + (i : Int)) (by unfold least; omega) (by unfold most; omega) e
      rw [List.mem_append]
      by_cases hzb : z ∈ b.l
      · exact .inr hzb
      · exact .inl (key z (value_num hn) (hasRaw_iff.2 ⟨by simp [hb, hzb], by simp [hbu]⟩))
    rw [upTo_len] at this
    simp at this
    omega
  | true =>
    have cu := cb.u hbu
    have := nodup_len (b := a.l ++ b.l) (upTo_nodup b.lo (b.hi + 1 - b.lo).toNat) fun z hz => by
      obtain ⟨n, hn, h1, h2⟩ := (num_upTo cu.1 cu.2.1).1 hz
      rw [List.mem_append]
      by_cases hzb : z ∈ b.l
      · exact .inr hzb
      · exact .inl (key z (value_num hn) (hasRaw_iff.2 ⟨by simp [hb, hzb], fun _ => ⟨n, hn, h1, h2⟩⟩))
    rw [upTo_len] at this
    simp at this
    omega
theorem name_a {i : Nat} (h : i < 65) : NameP (97 :: itoa (i : Int)) := by
  rw [itoa_pos' (by omega), Int.natAbs_natCast, nameP_cons]
  refine ⟨?_, by decide, fun x hx => .inr (.inl ?_)⟩
  · have := decDigits_le 1 i (by have : (10 : Nat) ^ (1 + 1) = 100 := by decide
                                 omega)
    omega
  · exact decDigits_mem i x hx
theorem cof_range {a b : SetV} (ca : CheckP a) (ha : a.n = true) (hau : a.u = false) (hbu : b.u = true) (h : ∀ v, valueB v = true → hasRaw a v = hasRaw b v) : False := by
  have la := ca.ord.1
  have hnd : ((upTo 0 65).map fun s => (97 : UInt8) :: s).Nodup := by
    unfold List.Nodup
    rw [List.pairwise_map]
    exact (upTo_nodup 0 65).imp fun h e => h (by simpa using e)
  have := nodup_len (b := a.l) hnd fun z hz => by
    obtain ⟨s, hs, rfl⟩ := List.mem_map.1 hz
    obtain ⟨i, hi, e⟩ := upTo_mem.1 hs
    rw [Int.zero_add] at e
    subst e
    have hname : NameP (97 :: itoa (i : Int)) := name_a hi
    have hv : valueB (97 :: itoa (i : Int)) = true := value_name (by unfold nameB; simpa using hname)
    have hb : hasRaw b (97 :: itoa (i : Int)) = false := by
      cases e : hasRaw b (97 :: itoa (i : Int)) with
      | false => rfl
      | true =>
        obtain ⟨n, hn, _⟩ := (hasRaw_iff.1 e).2 hbu
        exact absurd hname (num_not_name hn)
    rw [← h _ hv] at hb
    refine Classical.byContradiction fun hz => ?_
    rw [hasRaw_iff.2 ⟨by simp [ha, hz], by simp [hau]⟩] at hb
    simp at hb
  simp [upTo_len] at this
  omega
theorem canon {a b : SetV} (ca : CheckP a) (cb : CheckP b) (hm : a.m = b.m) (h : ∀ v, valueB v = true → hasRaw a v = hasRaw b v) : a = b := by
  have h' : ∀ v, valueB v = true → hasRaw b v = hasRaw a v := fun v hv => (h v hv).symm
  have hn : a.n = b.n := by
    cases e : a.n <;> cases f : b.n
    · rfl
    · exact (fin_cof ca cb e f h).elim
    · exact (fin_cof cb ca f e h').elim
    · rfl
  have hu : a.u = b.u := by
    cases e : a.u <;> cases f : b.u
    · rfl
    · have := cb.un f
      exact (cof_range ca (by rw [hn, this]) e f h).elim
    · have := ca.un e
      exact (cof_range cb (by rw [← hn, this]) f e h').elim
    · rfl
  have lo_in : ∀ {a b : SetV}, CheckP a → a.u = true → b.u = true → (∀ v, valueB v = true → hasRaw a v = hasRaw b v) → b.lo ≤ a.lo ∧ a.hi ≤ b.hi := by
    intro a b ca hau hbu h
    have cu := ca.u hau
    have hin : ∀ n, (n = a.lo ∨ n = a.hi) → b.lo ≤ n ∧ n ≤ b.hi := fun n hn => by
      have hnum := numS_itoa (n := n) (by omega) (by omega)
      have hni : itoa n ∉ a.l := fun hz => by
        obtain ⟨k, hk, h1, h2⟩ := ca.inr hau hz
        rw [hnum] at hk
        simp only [Option.some.injEq] at hk
        omega
      have ht := (hasRaw_iff (s := a) (v := itoa n)).2 ⟨by simp [ca.un hau, hni], fun _ => ⟨n, hnum, by omega, by omega⟩⟩
      rw [h _ (value_num hnum)] at ht
      obtain ⟨k, hk, h1, h2⟩ := (hasRaw_iff.1 ht).2 hbu
      rw [hnum] at hk
      simp only [Option.some.injEq] at hk
      omega
    exact ⟨(hin _ (.inl rfl)).1, (hin _ (.inr rfl)).2⟩
  have hb : a.lo = b.lo ∧ a.hi = b.hi := by
    cases e : a.u with
    | false =>
      have h1 := ca.nu e
      have h2 := cb.nu (by rw [← hu, e])
      omega
    | true =>
      have f : b.u = true := by rw [← hu, e]
      have h1 := lo_in ca e f h
      have h2 := lo_in cb f e h'
      omega
  have sub : ∀ {a b : SetV}, CheckP a → a.n = b.n → a.u = b.u → a.lo = b.lo → a.hi = b.hi → (∀ v, valueB v = true → hasRaw a v = hasRaw b v) → ∀ z, z ∈ a.l → z ∈ b.l := by
    intro a b ca hn hu hlo hhi h z hz
    have hv := ca.val hz
    have he := h z hv
    have hr : a.u = true → ∃ n, numS z = some n ∧ a.lo ≤ n ∧ n ≤ a.hi := fun e => by
      obtain ⟨n, h1, h2, h3⟩ := ca.inr e hz
      exact ⟨n, h1, by omega, by omega⟩
    refine Classical.byContradiction fun hnz => ?_
    cases e : a.n with
    | false =>
      have h1 : hasRaw a z = true := hasRaw_iff.2 ⟨by simp [e, hz], hr⟩
      rw [he] at h1
      have := (hasRaw_iff.1 h1).1
      simp [← hn, e, hnz] at this
    | true =>
      have h1 : hasRaw b z = true := hasRaw_iff.2 ⟨by simp [← hn, e, hnz], fun f => by rw [← hlo, ← hhi]; exact hr (by rw [hu, f])⟩
      rw [← he] at h1
      have := (hasRaw_iff.1 h1).1
      simp [e, hz] at this
  have hl : a.l = b.l := rises_ext ca.rises cb.rises fun z => ⟨sub ca hn hu hb.1 hb.2 h z, sub cb hn.symm hu.symm hb.1.symm hb.2.symm h' z⟩
  exact SetV.eq_iff.2 ⟨hm, hn, hu, hb.1, hb.2, hl⟩
theorem meetN_none {a b : SetV} (h : meetN a b = none) : meetN b a = none := by
  have hk : risingS (a.l ++ b.l) = risingS (b.l ++ a.l) := risingS_congr fun z => by simp [or_comm]
  unfold meetN at h ⊢
  rw [hk] at h
  cases e1 : a.n <;> cases e2 : b.n <;> simp only [e1, e2, Bool.true_eq_false, if_true, if_false, reduceCtorEq] at h ⊢
  cases e3 : a.u <;> cases e4 : b.u <;> simp only [e3, e4, Bool.true_eq_false, and_self, and_true, and_false, if_true, if_false] at h ⊢
  · exact h
  · exact h
  · exact h
  · rw [Int.max_comm, Int.min_comm]; exact h
theorem meet_comm {a b : SetV} (ca : CheckP a) (cb : CheckP b) : meetS a b = meetS b a := by
  rcases meet_spec ca cb with ⟨h1, h2⟩ | ⟨S, ⟨N, h1⟩, h2, c1, m1, r1⟩
  · rcases meet_spec cb ca with ⟨k1, k2⟩ | ⟨T, ⟨N', k1⟩, k2, c2, m2, r2⟩
    · rw [h2, k2]
    · rw [meetN_none h1] at k1; simp at k1
  · rcases meet_spec cb ca with ⟨k1, k2⟩ | ⟨T, ⟨N', k1⟩, k2, c2, m2, r2⟩
    · rw [meetN_none k1] at h1; simp at h1
    · rw [h2, k2, canon c1 c2 (by rw [m1, m2, Bool.and_comm]) fun v hv => by rw [r1 v hv, r2 v hv, Bool.and_comm]]
theorem meet_self {a : SetV} (ca : CheckP a) : meetS a a = (a, 0) := by
  have hk : risingS (a.l ++ a.l) = a.l := rises_ext (risingS_rises _) ca.rises fun z => by rw [risingS_mem]; simp
  rcases meet_spec ca ca with ⟨h1, h2⟩ | ⟨S, _, h2, c1, m1, r1⟩
  · exfalso
    unfold meetN at h1
    have hl := ca.ord.1
    obtain ⟨S, hS⟩ := numbersS_ne (lo := a.lo) (hi := a.hi) hl
    rw [hk, Int.max_self, Int.min_self, hS, if_pos hl] at h1
    cases e1 : a.n <;> cases e2 : a.u <;> simp [e1, e2] at h1
  · rw [h2, canon c1 ca (by rw [m1, Bool.and_self]) fun v hv => by rw [r1 v hv, Bool.and_self]]
theorem meet_assoc {a b c ab bc x y : SetV} (ca : CheckP a) (cb : CheckP b) (cc : CheckP c) (h1 : meetS a b = (ab, 0)) (h2 : meetS b c = (bc, 0)) (h3 : meetS ab c = (x, 0)) (h4 : meetS a bc = (y, 0)) : x = y := by
  have get : ∀ {a b S : SetV}, CheckP a → CheckP b → meetS a b = (S, 0) → CheckP S ∧ S.m = (a.m && b.m) ∧ ∀ v, valueB v = true → hasRaw S v = (hasRaw a v && hasRaw b v) := by
    intro a b S ca cb h
    rcases meet_spec ca cb with ⟨_, k⟩ | ⟨T, _, k, c, m, r⟩
    · rw [k] at h; simp at h
    · rw [k] at h
      simp only [Prod.mk.injEq, and_true] at h
      subst h
      exact ⟨c, m, r⟩
  obtain ⟨c1, m1, r1⟩ := get ca cb h1
  obtain ⟨c2, m2, r2⟩ := get cb cc h2
  obtain ⟨c3, m3, r3⟩ := get c1 cc h3
  obtain ⟨c4, m4, r4⟩ := get ca c2 h4
  exact canon c3 c4 (by rw [m3, m4, m1, m2, Bool.and_assoc]) fun v hv => by rw [r3 v hv, r4 v hv, r1 v hv, r2 v hv, Bool.and_assoc]
end Go.Proofs.AM
namespace Go.Proofs.AM
open Go Go.Lib Cd
theorem CheckP.fs {s : SetV} (h : CheckP s) : FS s := by
  refine ⟨⟨by have := h.ord.1; omega, fun z hz => by have := value_len (h.val hz); unfold SL; omega⟩, ?_, ?_⟩ <;>
  · unfold FI
    cases hu : s.u with
    | false => have := h.nu hu; omega
    | true => have := h.u hu; unfold least most at this; omega
theorem fs_zero : FS zeroS := ⟨⟨by simp [zeroS], by simp [zeroS]⟩, ⟨by decide, by decide⟩, ⟨by decide, by decide⟩⟩
theorem meet_fs (a b : SetV) : FS (meetS a b).1 := by
  by_cases ca : CheckP a
  · by_cases cb : CheckP b
    · rcases meet_spec ca cb with ⟨_, h⟩ | ⟨S, _, h, c, _⟩
      · rw [h]; exact fs_zero
      · rw [h]; exact c.fs
    · unfold meetS
      rw [if_neg (by rw [checkE_0 ca]; simp), if_pos (by rw [checkE_1 cb]; simp)]
      exact fs_zero
  · unfold meetS
    rw [if_pos (by rw [checkE_1 ca]; simp)]
    exact fs_zero
set_option maxRecDepth 100000 in
set_option maxHeartbeats 8000000 in
theorem turns9_ok (R : Ans) (h : C3 R) (a b c : SetV) (ha : FS a) (hb : FS b) (hc : FS c) : AnsF R c9 [setD a, setD b, setD c] (.bool true) := by
  have k1 := h.check23 a ha
  have k2 := h.check23 b hb
  have k3 := h.check23 c hc
  have ca : checkE a = 0 → CheckP a := checkE_iff.1
  have cb : checkE b = 0 → CheckP b := checkE_iff.1
  have cc : checkE c = 0 → CheckP c := checkE_iff.1
  obtain ⟨ea, hea⟩ : ∃ e, e = checkE a := ⟨_, rfl⟩
  obtain ⟨eb, heb⟩ : ∃ e, e = checkE b := ⟨_, rfl⟩
  obtain ⟨ec, hec⟩ : ∃ e, e = checkE c := ⟨_, rfl⟩
  rw [← hea] at k1 ca
  rw [← heb] at k2 cb
  rw [← hec] at k3 cc
  clear hea heb hec
  have k0 := h.live14
  obtain ⟨ab, e1, hab⟩ : ∃ S e, meetS a b = (S, e) := ⟨_, _, rfl⟩
  obtain ⟨bc, e2, hbc⟩ : ∃ S e, meetS b c = (S, e) := ⟨_, _, rfl⟩
  have fab : FS ab := by have := meet_fs a b; rw [hab] at this; exact this
  have fbc : FS bc := by have := meet_fs b c; rw [hbc] at this; exact this
  obtain ⟨x, e3, hx⟩ : ∃ S e, meetS ab c = (S, e) := ⟨_, _, rfl⟩
  obtain ⟨y, e4, hy⟩ : ∃ S e, meetS a bc = (S, e) := ⟨_, _, rfl⟩
  have fx : FS x := by have := meet_fs ab c; rw [hx] at this; exact this
  have fy : FS y := by have := meet_fs a bc; rw [hy] at this; exact this
  have m1 := h.meet24 a b ha hb
  rw [hab] at m1
  have m2 : ea = 0 → eb = 0 → R.v 24 [setD b, setD a] (.tup [setD ab, .int .i64 e1]) := fun h1 h2 => by
    have := h.meet24 b a hb ha
    rwa [← meet_comm (ca h1) (cb h2), hab] at this
  have m3 : ea = 0 → R.v 24 [setD a, setD a] (.tup [setD a, .int .i64 0]) := fun h1 => by
    have := h.meet24 a a ha ha
    rwa [meet_self (ca h1)] at this
  have m4 := h.meet24 b c hb hc
  rw [hbc] at m4
  have m5 := h.meet24 ab c fab hc
  rw [hx] at m5
  have m6 := h.meet24 a bc ha fbc
  rw [hy] at m6
  have s1 := h.same21 ab ab fab fab
  have s2 := h.same21 a a ha ha
  have s3 := h.same21 x y fx fy
  rw [decide_eq_true rfl] at s1 s2
  obtain ⟨q, hq⟩ : ∃ q, q = decide (x = y) := ⟨_, rfl⟩
  rw [← hq] at s3
  have hfin : ea = 0 → eb = 0 → ec = 0 → e1 = 0 → e2 = 0 → e3 = 0 → e4 = 0 → q = true := fun h1 h2 h3 h4 h5 h6 h7 => by
    rw [hq, decide_eq_true_eq]
    subst h4 h5 h6 h7
    exact meet_assoc (ca h1) (cb h2) (cc h3) hab hbc hx hy
  clear hq hab hbc hx hy fab fbc fx fy ca cb cc ha hb hc h
  obtain ⟨x1, _, c1, d1⟩ := setD_eq a
  obtain ⟨x2, _, c2, d2⟩ := setD_eq b
  obtain ⟨x3, _, c3, d3⟩ := setD_eq c
  obtain ⟨x4, _, c4, d4⟩ := setD_eq ab
  obtain ⟨x5, _, c5, d5⟩ := setD_eq bc
  obtain ⟨x6, _, c6, d6⟩ := setD_eq x
  obtain ⟨x7, _, c7, d7⟩ := setD_eq y
  simp only [d1, d2, d3, d4, d5, d6, d7] at k1 k2 k3 m1 m2 m3 m4 m5 m6 s1 s2 s3 ⊢
  clear d1 d2 d3 d4 d5 d6 d7
  refine wpF_sound ⟨rfl, by decide⟩ fun O hO V hV => ?_
  subst hV
  conv => cbv
  refine ⟨c1, _, k1, ?_⟩
  conv => cbv
  rintro (_ | _) h1
  · replace h1 := f_neq hO h1
    conv => cbv
    refine ⟨c2, _, k2, ?_⟩
    conv => cbv
    rintro (_ | _) h2
    · replace h2 := f_neq hO h2
      conv => cbv
      refine ⟨c3, _, k3, ?_⟩
      conv => cbv
      rintro (_ | _) h3
      · replace h3 := f_neq hO h3
        conv => cbv
        refine ⟨c1, c2, _, m1, ?_⟩
        conv => cbv
        refine ⟨c2, c1, _, m2 h1 h2, ?_⟩
        conv => cbv
        refine ⟨c1, c1, _, m3 h1, ?_⟩
        conv => cbv
        rintro (_ | _) h4
        · conv => cbv
          refine ⟨c4, c4, _, s1, ?_⟩
          conv => cbv
          rintro (_ | _) h5
          · conv => cbv
            refine ⟨c1, c1, _, s2, ?_⟩
            conv => cbv
            refine ⟨c2, c3, _, m4, ?_⟩
            conv => cbv
            rintro (_ | _) h6
            · replace h6 := f_neq hO h6
              conv => cbv
              rintro (_ | _) h7
              · replace h7 := f_neq hO h7
                conv => cbv
                refine ⟨c4, c3, _, m5, ?_⟩
                conv => cbv
                refine ⟨c1, c5, _, m6, ?_⟩
                conv => cbv
                refine ⟨_, k0, ?_⟩
                conv => cbv
                rintro (_ | _) h8
                · replace h8 := f_neq hO h8
                  conv => cbv
                  rintro (_ | _) h9
                  · replace h9 := f_neq hO h9
                    conv => cbv
                    refine ⟨c6, c7, _, s3, ?_⟩
                    rw [hfin h1 h2 h3 h6 h7 h8 h9]
                    conv => cbv
                    trivial
                  · conv => cbv
                    trivial
                · conv => cbv
                  trivial
              · conv => cbv
                refine ⟨_, k0, ?_⟩
                conv => cbv
                trivial
            · conv => cbv
              refine ⟨_, k0, ?_⟩
              conv => cbv
              trivial
          · conv => cbv
            exfalso; exact t_neq hO h5 rfl
        · conv => cbv
          exfalso; exact t_neq hO h4 rfl
      · conv => cbv
        refine ⟨_, k0, ?_⟩
        conv => cbv
        trivial
    · conv => cbv
      refine ⟨_, k0, ?_⟩
      conv => cbv
      trivial
  · conv => cbv
    refine ⟨_, k0, ?_⟩
    conv => cbv
    trivial
end Go.Proofs.AM
namespace Go.Proofs.AM
open Go Go.Lib Cd
theorem SCall.mono {V : Ans} {base g : Nat} {l : List D} {gv : List (Nat × Box)} {Q Q' : D → List (Nat × Box) → Prop} (h : SCall V base g l gv Q) (hq : ∀ r kn, Q r kn → ∃ kn', leB kn kn' ∧ Q' r kn') : SCall V base g l gv Q' := by
  intro bx hbx
  obtain ⟨post, h1, h2, h3⟩ := h bx hbx
  refine ⟨post, h1, h2, fun r bx' hp => ?_⟩
  obtain ⟨kn, k1, k2, k3⟩ := h3 r bx' hp
  obtain ⟨kn', k4, k5⟩ := hq r kn k1
  refine ⟨kn', k5, fun j b hj => k2 j b (leB_find k4 j b hj), fun j hj hn => ⟨(k3 j hj hn).1, ?_⟩⟩
  cases hf : find kn' j with
  | none => rfl
  | some b => have := leB_find k4 j b hf; rw [(k3 j hj hn).2] at this; simp at this
set_option maxRecDepth 100000 in
set_option maxHeartbeats 8000000 in
theorem of12_own (R : Ans) (q : ReqV) (hq : FR q) (e : Int) (T : SetV) (he : e = wrongE q) (hT : e = 0 → T = ofS q) (h31 : R.v 31 [reqD q] (.int .i64 (wrongE q))) (h33 : ∀ L : List (List Str), L.length ≤ 8796093022208 → (∀ l ∈ L, l.length ≤ 8796093022208) → R.v 33 [.sl 1 false (L.map lD)] (.mapv ((groupS L).map ent)))
    (h32v : ∀ K : List Str, K.Nodup → (∀ s ∈ K, SL s) → K.length ≤ 8796093022208 → SCall R 900 32 [.mapv (K.map ent)] [] (fun r kn => ∃ g, r = .own 900 g ∧ kn = [(900, ⟨g, .rw, .arr 1 9, (risingS K).map mkS⟩)]))
    (h34 : ∀ lo hi : Int, least ≤ lo → lo ≤ most + 1 → hi ≤ most → least - 1 ≤ hi → SCall R 600 34 [.int .i64 lo, .int .i64 hi, .mapv []] [] (fun r kn => ∃ S b g ss, r = .tup [.agg [.bool S.m, .bool S.n, .bool S.u, .own 900 g, .int .i64 S.lo, .int .i64 S.hi], .bool b] ∧ NumsR lo hi [] S b ∧ ss = S.l.map mkS ∧ kn = [(900, ⟨g, .rw, .arr 1 9, ss⟩)])) :
    ∀ O : Ops, O = Ops.std → ∀ V : Ans, V = R → wpS O V 300 c12o [reqD q] [] (fun r kn => (e ≠ 0 ∧ ∃ nl, r = .tup [.agg [.bool false, .bool false, .bool false, .sl 1 nl [], .int .i64 0, .int .i64 0], .int .i64 e]) ∨ (e = 0 ∧ ∃ g ss, r = .tup [.agg [.bool T.m, .bool T.n, .bool T.u, .own 900 g, .int .i64 T.lo, .int .i64 T.hi], .int .i64 0] ∧ ss = T.l.map mkS ∧ leB kn [(900, ⟨g, .rw, .arr 1 9, ss⟩)])) := by
  have hok : e = 0 → ¬ BadOp q := fun h => (wrongE_0 (by rw [← he, h])).2.1
  rw [← he] at h31
  have hl1 := hq.l.len
  have hall := hq.l.all
  clear he hq
  obtain ⟨key, op, l, n⟩ := q
  unfold BadOp at hok
  unfold ofS at hT
  unfold reqD at h31 ⊢
  simp only at h31 hT hok hl1 hall ⊢
  have hg := h33 [l] (by simp) (by simpa using hl1)
  have hge := h33 [] (by simp) (by simp)
  have hri := h32v (groupS [l]) (groupS_nodup _) (fun s hs => by rw [groupS_mem] at hs; exact hall s (by simpa using hs)) (by have := groupS_len [l]; simp at this; omega)
  have hsame : risingS (groupS [l]) = risingS l := risingS_congr fun z => by rw [groupS_mem]; simp
  rw [hsame] at hri
  simp only [List.map_cons, List.map_nil, lD] at hg hge
  rw [show groupS [] = [] from rfl, List.map_nil] at hge
  obtain ⟨es, hes⟩ : ∃ es, es = (groupS [l]).map ent := ⟨_, rfl⟩
  obtain ⟨xs, hxs⟩ : ∃ xs, xs = l.map mkS := ⟨_, rfl⟩
  have hcx : CleanL xs := cleanL_map clean_S hxs
  have hcy : CleanL [.sl 1 false xs] := ⟨by simp [closedL, closed, hcx.c], by simp [stripL, strip, hcx.s]⟩
  obtain ⟨rs, hrs⟩ : ∃ rs, rs = (risingS l).map mkS := ⟨_, rfl⟩
  rw [← hxs] at h31 hg ⊢
  rw [← hes] at hg hri
  rw [← hrs] at hri
  clear h33 h32v
  intro O hO V hV
  subst hV
  conv => cbv
  intro g1
  conv => cbv
  intro g2
  conv => cbv
  refine ⟨hcx, _, h31, ?_⟩
  conv => cbv
  rintro (_ | _) h1
  · replace h1 := f_neq hO h1
    subst h1
    have hop := hok rfl
    have hT := hT rfl
    conv => cbv
    intro g14
    conv => cbv
    refine ⟨hcy, _, hg, ?_⟩
    conv => cbv
    refine shared_of hri (by decide) trivial ?_
    rintro _ _ ⟨gr, rfl, rfl⟩
    conv => cbv
    intro g5
    conv => cbv
    refine join_of (fun d => ∃ (S : SetV) (g : Nat) (ys : List D), d = ⟨[(2, .ptr 302 g2 0), (5, .ptr 305 g5 0)], [(302, ⟨g2, .rw, .var, [.bool false, .bool false, .bool false, .sl 1 true [], .int .i64 0, .int .i64 0]⟩), (305, ⟨g5, .rw, .var, [.bool S.m, .bool S.n, .bool S.u, .own 900 g, .int .i64 S.lo, .int .i64 S.hi]⟩), (900, ⟨g, .rw, .arr 1 9, ys⟩)], false⟩ ∧ ys = S.l.map mkS ∧ S = T) (fun M upm => ?_) ?_
    · conv => cbv
      rintro (_ | _) h3
      · replace h3 := f_eql hO h3
        conv => cbv
        rintro (_ | _) h4
        · replace h4 := f_eql hO h4
          conv => cbv
          rintro (_ | _) h5
          · replace h5 := f_eql hO h5
            conv => cbv
            rintro (_ | _) h6
            · replace h6 := f_eql hO h6
              conv => cbv
              rintro (_ | _) h7
              · replace h7 := f_eql hO h7
                have h2 : op = 1 := by omega
                rw [if_pos h2] at hT
                conv => cbv
                exact ⟨_, upm _ ⟨⟨false, false, false, risingS l, 0, 0⟩, gr, rs, rfl, hrs, hT.symm⟩, ⟨⟨rfl, rfl, trivial⟩, ⟨rfl, rfl, rfl, trivial⟩, rfl⟩⟩
              · replace h7 := t_eql hO h7
                rw [if_neg (by omega), if_neg h3, if_neg h4, if_neg h5, if_neg h6] at hT
                obtain ⟨U, hU⟩ := numbersS_nil (least) (n - 1)
                rw [hU] at hT
                simp only [Option.getD_some] at hT
                have h34' := h34 (least) (n - 1) (by unfold least; omega) (by unfold least most; omega) (by unfold most; omega) (by unfold least; omega)
                have hsub : O .iop .sub .i64 n 1 = n - 1 := o_sub64 hO (by omega) (by omega)
                conv => cbv
                refine ⟨⟨rfl, rfl⟩, _, hge, ?_⟩
                conv => cbv
                rw [hsub]
                conv => cbv
                refine shared_of h34' (by decide) trivial ?_
                rintro _ _ ⟨S, b, g, ss, rfl, hN, hss, rfl⟩
                obtain ⟨rfl, rfl⟩ := hN.yes hU
                obtain ⟨m', n', u', l', lo', hi'⟩ := S
                simp only at hss
                conv => cbv
                exact ⟨_, upm _ ⟨⟨m', n', u', l', lo', hi'⟩, g, ss, rfl, hss, hT.symm⟩, ⟨⟨rfl, rfl, trivial⟩, ⟨rfl, rfl, rfl, trivial⟩, rfl⟩⟩
            · replace h6 := t_eql hO h6
              rw [if_neg (by omega), if_neg h3, if_neg h4, if_neg h5, if_pos h6] at hT
              obtain ⟨U, hU⟩ := numbersS_nil (n + 1) (most)
              rw [hU] at hT
              simp only [Option.getD_some] at hT
              have h34' := h34 (n + 1) (most) (by unfold least; omega) (by unfold most; omega) (by unfold most; omega) (by unfold least most; omega)
              have hadd : O .iop .add .i64 n 1 = n + 1 := o_add64 hO (by omega) (by omega)
              conv => cbv
              refine ⟨⟨rfl, rfl⟩, _, hge, ?_⟩
              conv => cbv
              rw [hadd]
              conv => cbv
              refine shared_of h34' (by decide) trivial ?_
              rintro _ _ ⟨S, b, g, ss, rfl, hN, hss, rfl⟩
              obtain ⟨rfl, rfl⟩ := hN.yes hU
              obtain ⟨m', n', u', l', lo', hi'⟩ := S
              simp only at hss
              conv => cbv
              exact ⟨_, upm _ ⟨⟨m', n', u', l', lo', hi'⟩, g, ss, rfl, hss, hT.symm⟩, ⟨⟨rfl, rfl, trivial⟩, ⟨rfl, rfl, rfl, trivial⟩, rfl⟩⟩
          · replace h5 := t_eql hO h5
            rw [if_neg (by omega), if_neg h3, if_neg h4, if_pos h5] at hT
            have hl0 : l = [] := List.length_eq_zero_iff.1 (by omega)
            conv => cbv
            exact ⟨_, upm _ ⟨⟨true, false, false, [], 0, 0⟩, gr, rs, rfl, by rw [hrs, hl0]; rfl, hT.symm⟩, ⟨⟨rfl, rfl, trivial⟩, ⟨rfl, rfl, rfl, trivial⟩, rfl⟩⟩
        · replace h4 := t_eql hO h4
          rw [if_neg (by omega), if_neg h3, if_pos h4] at hT
          have hl0 : l = [] := List.length_eq_zero_iff.1 (by omega)
          conv => cbv
          exact ⟨_, upm _ ⟨⟨false, true, false, [], 0, 0⟩, gr, rs, rfl, by rw [hrs, hl0]; rfl, hT.symm⟩, ⟨⟨rfl, rfl, trivial⟩, ⟨rfl, rfl, rfl, trivial⟩, rfl⟩⟩
      · replace h3 := t_eql hO h3
        rw [if_neg (by omega), if_pos h3] at hT
        conv => cbv
        exact ⟨_, upm _ ⟨⟨true, true, false, risingS l, 0, 0⟩, gr, rs, rfl, hrs, hT.symm⟩, ⟨⟨rfl, rfl, trivial⟩, ⟨rfl, rfl, rfl, trivial⟩, rfl⟩⟩
    · rintro d ⟨S, g, ys, rfl, hys, rfl⟩
      obtain ⟨m', n', u', l', lo', hi'⟩ := S
      simp only at hys ⊢
      conv => cbv
      exact ⟨g, ys, rfl, hys, ⟨rfl, trivial⟩⟩
  · replace h1 := t_neq hO h1
    conv => cbv
    exact .inl ⟨h1, true, rfl⟩
end Go.Proofs.AM
namespace Go.Proofs.AM
open Go Go.Lib Cd
set_option maxRecDepth 100000 in
set_option maxHeartbeats 8000000 in
theorem of5_ok (R : Ans) (h : C3 R) (q : ReqV) (hq : FR q) (e : Int) (T : SetV) (he : e = wrongE q) (hT : T = ofSet q) (fT : FS T)
    (h12 : SCall R 300 12 [reqD q] [] (fun r kn => (e ≠ 0 ∧ (∃ nl, r = .tup [.agg [.bool false, .bool false, .bool false, .sl 1 nl [], .int .i64 0, .int .i64 0], .int .i64 e]) ∧ kn = []) ∨ (e = 0 ∧ ∃ g ss, r = .tup [.agg [.bool T.m, .bool T.n, .bool T.u, .own 900 g, .int .i64 T.lo, .int .i64 T.hi], .int .i64 0] ∧ ss = T.l.map mkS ∧ kn = [(900, ⟨g, .rw, .arr 1 9, ss⟩)]))) : AnsF R c5o [reqD q] (.bool true) := by
  have k0 := h.live14
  have k20 := h.of20 q hq
  rw [← hT, ← he] at k20
  have ks := h.same21 T T fT fT
  rw [decide_eq_true rfl] at ks
  have hz : e ≠ 0 → T = zeroS := fun h1 => by rw [hT]; unfold ofSet; rw [if_neg (by rw [← he]; exact h1)]
  have hl1 := hq.l.len
  have hTl := fT.l.len
  clear h hT he hq fT
  obtain ⟨key, op, l, n⟩ := q
  unfold reqD at k20 h12 ⊢
  simp only at k20 h12 hl1 ⊢
  obtain ⟨xs, hxs⟩ : ∃ xs, xs = l.map mkS := ⟨_, rfl⟩
  have hcx : CleanL xs := cleanL_map clean_S hxs
  rw [← hxs] at k20 h12 ⊢
  obtain ⟨ts, hts⟩ : ∃ ts, ts = T.l.map mkS := ⟨_, rfl⟩
  have hcT : CleanL ts := cleanL_map clean_S hts
  unfold setD at k20 ks
  rw [← hts] at k20 ks
  have htl : ts.length ≤ 8796093022208 := by rw [hts]; simpa using hTl
  refine wpF_sound ⟨rfl, by decide⟩ fun O hO V hV => ?_
  subst hV
  have hl0 : O .len [] = 0 := by rw [o_len hO]; rfl
  have hlx : O .len xs = l.length := by rw [o_len hO, hxs]; simp
  obtain ⟨al, hal⟩ : ∃ al, al = O .app [] xs := ⟨_, rfl⟩
  have halx : al = xs := by rw [hal, o_app hO]; simp
  have hal1 : CleanL al := by rw [halx]; exact hcx
  have halL : al = l.map mkS := by rw [halx, hxs]
  have hla : O .len al = l.length := by rw [halx, hlx]
  rw [← halx] at k20
  conv => cbv
  refine ⟨hcx.x, ⟨by show (O .len [] + O .len xs) * ((16 : Nat) : Int) ≤ _; rw [hl0, hlx]; omega⟩, ?_⟩
  rw [← hal]
  conv => cbv
  refine shared_of h12 (by decide) trivial ?_
  rintro _ _ (⟨h1, ⟨nl, rfl⟩, rfl⟩ | ⟨rfl, g, ss, rfl, hss, rfl⟩)
  · obtain rfl := hz h1
    have hts' : ts = [] := by rw [hts]; rfl
    subst hts'
    simp only [zeroS] at k20 ks
    have hn : CleanL [] := ⟨rfl, rfl⟩
    conv => cbv
    intro g4
    conv => cbv
    refine ⟨hal1, _, k20, ?_⟩
    conv => cbv
    intro g6
    conv => cbv
    rintro (_ | _) g1
    · conv => cbv
      exfalso; exact f_eql hO g1 rfl
    conv => cbv
    refine ⟨hn, hcT, _, ks, ?_⟩
    conv => cbv
    refine loop_of (fun z d => d = ⟨[(1, .ptr 1 1 0), (3, .own 11 2), (4, .ptr 4 g4 0), (8, .bool true), (9, .int .i64 0)], [(1, ⟨1, .rw, .var, [mkS key, .int .i64 op, .sl 1 false xs, .int .i64 n]⟩), (11, ⟨2, .ro, .arr 1 9, al⟩), (4, ⟨g4, .rw, .var, [.bool false, .bool false, .bool false, .sl 1 nl [], .int .i64 0, .int .i64 0]⟩)], false⟩) ⟨0, _, rfl, ⟨⟨rfl, rfl, rfl, rfl, rfl, trivial⟩, ⟨rfl, rfl, rfl, trivial⟩, rfl⟩⟩ ?_
    rintro J up z d rfl
    conv => cbv
    rintro (_ | _) g2
    · conv => cbv
      refine loop_of (fun z d => ∃ (i : Int) (k : Nat), d = ⟨[(1, .ptr 1 1 0), (3, .own 11 2), (8, .bool true), (10, .int .i64 i)], [(1, ⟨1, .rw, .var, [mkS key, .int .i64 op, .sl 1 false xs, .int .i64 n]⟩), (11, ⟨2, .ro, .arr 1 9, al⟩)], false⟩ ∧ i = k ∧ k ≤ l.length ∧ z = l.length - k) ⟨_, _, ⟨_, 0, rfl, rfl, by omega, rfl⟩, ⟨⟨rfl, rfl, rfl, rfl, trivial⟩, ⟨rfl, rfl, trivial⟩, rfl⟩⟩ ?_
      rintro J2 up2 z2 d ⟨i2, k2, rfl, hi2, hk2, rfl⟩
      conv => cbv
      rintro (_ | _) g3
      · conv => cbv
        refine ⟨_, k0, ?_⟩
        conv => cbv
        trivial
      · replace g3 := t_lss hO g3
        rw [hla] at g3
        obtain ⟨y, hy⟩ : ∃ y, l[k2]? = some y := ⟨_, List.getElem?_eq_getElem (by omega)⟩
        have hadd2 : O .iop .add .i64 i2 1 = ((k2 + 1 : Nat) : Int) := by rw [o_add64 hO (by omega) (by omega)]; omega
        have hnat2 : O .nat i2 = k2 := by rw [o_nat hO, hi2]; rfl
        have hat : al[k2]? = some (mkS y) := by rw [halL, List.getElem?_map, hy]; rfl
        have h02 : LeX 0 i2 := ⟨by omega⟩
        have h12 : LtX i2 (O .len al) := ⟨by rw [hla]; omega⟩
        conv => cbv
        refine ⟨h02, h12, ?_⟩
        rw [hnat2]
        conv => cbv
        refine ⟨_, hat, ?_⟩
        conv => cbv
        refine ⟨mkS y, atX_map hy hxs hi2, ?_⟩
        conv => cbv
        rintro (_ | _) g4'
        · conv => cbv
          exact ⟨_, _, up2 _ _ ⟨_, k2 + 1, rfl, hadd2, by omega, rfl⟩, ⟨⟨rfl, rfl, rfl, rfl, trivial⟩, ⟨rfl, rfl, trivial⟩, rfl⟩, by omega⟩
        · conv => cbv
          exfalso; exact t_sneq hO g4' rfl
    · exfalso
      have := t_lss hO g2
      rw [hl0] at this
      omega
  · obtain rfl : ss = ts := by rw [hss, hts]
    obtain ⟨tm, tn, tu, tl, tlo, thi⟩ := T
    simp only at k20 ks hss htl
    conv => cbv
    intro g4
    conv => cbv
    refine ⟨hal1, _, k20, ?_⟩
    conv => cbv
    intro g6
    conv => cbv
    rintro (_ | _) g1
    · conv => cbv
      exfalso; exact f_eql hO g1 rfl
    conv => cbv
    refine ⟨hcT, hcT, _, ks, ?_⟩
    conv => cbv
    refine loop_of (fun z d => ∃ (i : Int) (k : Nat) (zs : List D), d = ⟨[(1, .ptr 1 1 0), (3, .own 11 2), (4, .ptr 4 g4 0), (8, .bool true), (9, .int .i64 i)], [(1, ⟨1, .rw, .var, [mkS key, .int .i64 op, .sl 1 false xs, .int .i64 n]⟩), (11, ⟨2, .ro, .arr 1 9, al⟩), (4, ⟨g4, .rw, .var, [.bool tm, .bool tn, .bool tu, .own 900 g, .int .i64 tlo, .int .i64 thi]⟩), (900, ⟨g, .rw, .arr 1 9, zs⟩)], false⟩ ∧ i = k ∧ zs.length = ss.length ∧ k ≤ ss.length ∧ z = ss.length - k ∧ ∀ (j : Nat) x, zs[j]? = some x → ∃ s, x = mkS s) ⟨_, _, ⟨_, 0, ss, rfl, rfl, rfl, by omega, rfl, fun j x hx => by rw [hss, List.getElem?_map, Option.map_eq_some_iff] at hx; obtain ⟨s, _, rfl⟩ := hx; exact ⟨s, rfl⟩⟩, ⟨⟨rfl, rfl, rfl, rfl, rfl, trivial⟩, ⟨rfl, rfl, rfl, rfl, trivial⟩, rfl⟩⟩ ?_
    rintro J up z d ⟨i, k, zs, rfl, hi, hzl, hk, rfl, hzs⟩
    have hlz : O .len zs = ss.length := by rw [o_len hO, hzl]
    conv => cbv
    rintro (_ | _) g2
    · conv => cbv
      refine loop_of (fun z d => ∃ (i : Int) (k : Nat), d = ⟨[(1, .ptr 1 1 0), (3, .own 11 2), (8, .bool true), (10, .int .i64 i)], [(1, ⟨1, .rw, .var, [mkS key, .int .i64 op, .sl 1 false xs, .int .i64 n]⟩), (11, ⟨2, .ro, .arr 1 9, al⟩)], false⟩ ∧ i = k ∧ k ≤ l.length ∧ z = l.length - k) ⟨_, _, ⟨_, 0, rfl, rfl, by omega, rfl⟩, ⟨⟨rfl, rfl, rfl, rfl, trivial⟩, ⟨rfl, rfl, trivial⟩, rfl⟩⟩ ?_
      rintro J2 up2 z2 d ⟨i2, k2, rfl, hi2, hk2, rfl⟩
      conv => cbv
      rintro (_ | _) g3
      · conv => cbv
        refine ⟨_, k0, ?_⟩
        conv => cbv
        trivial
      · replace g3 := t_lss hO g3
        rw [hla] at g3
        obtain ⟨y, hy⟩ : ∃ y, l[k2]? = some y := ⟨_, List.getElem?_eq_getElem (by omega)⟩
        have hadd2 : O .iop .add .i64 i2 1 = ((k2 + 1 : Nat) : Int) := by rw [o_add64 hO (by omega) (by omega)]; omega
        have hnat2 : O .nat i2 = k2 := by rw [o_nat hO, hi2]; rfl
        have hat : al[k2]? = some (mkS y) := by rw [halL, List.getElem?_map, hy]; rfl
        have h02 : LeX 0 i2 := ⟨by omega⟩
        have h12 : LtX i2 (O .len al) := ⟨by rw [hla]; omega⟩
        conv => cbv
        refine ⟨h02, h12, ?_⟩
        rw [hnat2]
        conv => cbv
        refine ⟨_, hat, ?_⟩
        conv => cbv
        refine ⟨mkS y, atX_map hy hxs hi2, ?_⟩
        conv => cbv
        rintro (_ | _) g4'
        · conv => cbv
          exact ⟨_, _, up2 _ _ ⟨_, k2 + 1, rfl, hadd2, by omega, rfl⟩, ⟨⟨rfl, rfl, rfl, rfl, trivial⟩, ⟨rfl, rfl, trivial⟩, rfl⟩, by omega⟩
        · conv => cbv
          exfalso; exact t_sneq hO g4' rfl
    · replace g2 := t_lss hO g2
      rw [hlz] at g2
      have hadd : O .iop .add .i64 i 1 = ((k + 1 : Nat) : Int) := by rw [o_add64 hO (by omega) (by omega)]; omega
      have hnat : O .nat i = k := by rw [o_nat hO, hi]; rfl
      obtain ⟨x, hx⟩ : ∃ x, zs[k]? = some x := ⟨_, List.getElem?_eq_getElem (by omega)⟩
      obtain ⟨s, rfl⟩ := hzs k x hx
      have hset : O .set zs k (D.str ⟨⟨[64]⟩⟩) = zs.set k (mkS [64]) := by rw [o_set hO]; rfl
      have h0 : LeX 0 i := ⟨by omega⟩
      have h1 : LtX i (O .len zs) := ⟨by rw [hlz]; omega⟩
      conv => cbv
      refine ⟨h0, h1, ?_⟩
      rw [hnat]
      conv => cbv
      refine ⟨_, hx, ?_⟩
      conv => cbv
      exact ⟨_, _, up _ _ ⟨_, k + 1, O .set zs k (D.str ⟨⟨[64]⟩⟩), rfl, hadd, by rw [hset, List.length_set]; exact hzl, by omega, rfl, fun j x hj => by
        rw [hset, List.getElem?_set] at hj
        split at hj
        · split at hj
          · exact ⟨[64], by simpa using hj.symm⟩
          · simp at hj
        · exact hzs j x hj⟩, ⟨⟨rfl, rfl, rfl, rfl, rfl, trivial⟩, ⟨rfl, rfl, rfl, rfl, trivial⟩, rfl⟩, by omega⟩
end Go.Proofs.AM
namespace Go.Proofs.AM
open Go Go.Lib Cd
set_option maxRecDepth 100000 in
set_option maxHeartbeats 16000000 in
theorem meet24_own (R : Ans) (a b : SetV) (ha : FS a) (hb : FS b) (T : SetV) (e : Int) (hTe : meetS a b = (T, e)) (h23 : ∀ s, FS s → R.v 23 [setD s] (.int .i64 (checkE s))) (h43 : ∀ s x, FS s → SL x → R.v 43 [setD s, mkS x] (.bool (hasRaw s x)))
    (h32m : ∀ (i gm : Nat) (c0 : Int), i < 900 → ∀ K : List Str, K.Nodup → (∀ s ∈ K, SL s) → K.length ≤ 8796093022208 → SCall R 900 32 [.mapr i gm] [(i, ⟨gm, .rw, .map, .int .i64 c0 :: K.map ent⟩)] (fun r kn => ∃ g, r = .own 900 g ∧ kn = [(900, ⟨g, .rw, .arr 1 9, (risingS K).map mkS⟩), (i, ⟨gm, .rw, .map, .int .i64 c0 :: K.map ent⟩)]))
    (h33 : ∀ L : List (List Str), L.length ≤ 8796093022208 → (∀ l ∈ L, l.length ≤ 8796093022208) → SCall R 300 33 [.sl 1 false (L.map lD)] [] (fun r kn => ∃ g c, r = .mapr 308 g ∧ kn = [(308, ⟨g, .rw, .map, .int .i64 c :: (groupS L).map ent⟩)]))
    (h34 : ∀ (lo hi : Int) (K : List Str) (gm : Nat) (c0 : Int), least ≤ lo → lo ≤ most + 1 → hi ≤ most → least - 1 ≤ hi → K.Nodup → (∀ s ∈ K, SL s) → K.length ≤ 8796093022208 → SCall R 600 34 [.int .i64 lo, .int .i64 hi, .mapr 308 gm] [(308, ⟨gm, .rw, .map, .int .i64 c0 :: K.map ent⟩)] (fun r kn => ∃ S b g ss, r = .tup [.agg [.bool S.m, .bool S.n, .bool S.u, .own 900 g, .int .i64 S.lo, .int .i64 S.hi], .bool b] ∧ NumsR lo hi K S b ∧ ss = S.l.map mkS ∧ kn = [(900, ⟨g, .rw, .arr 1 9, ss⟩)])) :
    ∀ O : Ops, O = Ops.std → ∀ V : Ans, V = R → wpS O V 100 c24o [setD a, setD b] [] (fun r kn => (e ≠ 0 ∧ ∃ nl, r = .tup [.agg [.bool false, .bool false, .bool false, .sl 1 nl [], .int .i64 0, .int .i64 0], .int .i64 e]) ∨ (e = 0 ∧ ∃ k g ss, (k = 250 ∨ k = 900) ∧ r = .tup [.agg [.bool T.m, .bool T.n, .bool T.u, .own k g, .int .i64 T.lo, .int .i64 T.hi], .int .i64 0] ∧ ss = T.l.map mkS ∧ leB kn [(k, ⟨g, .rw, .arr 1 9, ss⟩)])) := by
  have ka := h23 a ha
  have kb := h23 b hb
  have ca : checkE a = 0 → CheckP a := checkE_iff.1
  have cb : checkE b = 0 → CheckP b := checkE_iff.1
  obtain ⟨N, hN⟩ : ∃ N, N = meetN a b := ⟨_, rfl⟩
  unfold meetS at hTe
  rw [← hN] at hTe
  obtain ⟨ea, hea⟩ : ∃ e, e = checkE a := ⟨_, rfl⟩
  obtain ⟨eb, heb⟩ : ∃ e, e = checkE b := ⟨_, rfl⟩
  rw [← hea, ← heb] at hTe
  rw [← hea] at ka ca
  rw [← heb] at kb cb
  clear hea heb h23
  obtain ⟨xa, hxa⟩ : ∃ xs, xs = a.l.map mkS := ⟨_, rfl⟩
  obtain ⟨xb, hxb⟩ : ∃ xs, xs = b.l.map mkS := ⟨_, rfl⟩
  have hca : CleanL xa := cleanL_map clean_S hxa
  have hcb : CleanL xb := cleanL_map clean_S hxb
  unfold setD at ka kb ⊢
  rw [← hxa] at ka ⊢
  rw [← hxb] at kb ⊢
  intro O hO V hV
  subst hV
  conv => cbv
  intro g2
  conv => cbv
  intro g3
  conv => cbv
  intro g4
  conv => cbv
  refine ⟨hca, _, ka, ?_⟩
  conv => cbv
  rintro (_ | _) h1
  · replace h1 := f_neq hO h1
    have ca := ca h1
    simp only [h1, ne_eq, not_true_eq_false, if_false] at hTe
    conv => cbv
    refine ⟨hcb, _, kb, ?_⟩
    conv => cbv
    rintro (_ | _) h2
    · replace h2 := f_neq hO h2
      have cb := cb h2
      simp only [h2, not_true_eq_false, if_false] at hTe
      have la : a.l.length ≤ 64 := ca.ord.1
      have lb : b.l.length ≤ 64 := cb.ord.1
      conv => cbv
      refine join_of (fun d => ∃ (A B : SetV) (xs ys : List D), d = ⟨[(2, .ptr 102 g2 0), (3, .ptr 103 g3 0), (4, .ptr 104 g4 0)], [(102, ⟨g2, .rw, .var, [.bool A.m, .bool A.n, .bool A.u, .sl 1 false xs, .int .i64 A.lo, .int .i64 A.hi]⟩), (103, ⟨g3, .rw, .var, [.bool B.m, .bool B.n, .bool B.u, .sl 1 false ys, .int .i64 B.lo, .int .i64 B.hi]⟩), (104, ⟨g4, .rw, .var, [.bool false, .bool false, .bool false, .sl 1 true [], .int .i64 0, .int .i64 0]⟩)], false⟩ ∧ xs = A.l.map mkS ∧ ys = B.l.map mkS ∧ ((swB a b = false ∧ A = a ∧ B = b) ∨ (swB a b = true ∧ A = b ∧ B = a))) (fun M upm => ?_) ?_
      · obtain ⟨m, n, u, l, lo, hi⟩ := a
        obtain ⟨m', n', u', l', lo', hi'⟩ := b
        have yes : swB ⟨m, n, u, l, lo, hi⟩ ⟨m', n', u', l', lo', hi'⟩ = true → ∃ d, M d ∧ d = ⟨[(2, .ptr 102 g2 0), (3, .ptr 103 g3 0), (4, .ptr 104 g4 0)], [(102, ⟨g2, .rw, .var, [.bool m', .bool n', .bool u', .sl 1 false xb, .int .i64 lo', .int .i64 hi']⟩), (103, ⟨g3, .rw, .var, [.bool m, .bool n, .bool u, .sl 1 false xa, .int .i64 lo, .int .i64 hi]⟩), (104, ⟨g4, .rw, .var, [.bool false, .bool false, .bool false, .sl 1 true [], .int .i64 0, .int .i64 0]⟩)], false⟩ := fun h => ⟨_, upm _ ⟨_, _, xb, xa, rfl, hxb, hxa, .inr ⟨h, rfl, rfl⟩⟩, rfl⟩
        have no : swB ⟨m, n, u, l, lo, hi⟩ ⟨m', n', u', l', lo', hi'⟩ = false → ∃ d, M d ∧ d = ⟨[(2, .ptr 102 g2 0), (3, .ptr 103 g3 0), (4, .ptr 104 g4 0)], [(102, ⟨g2, .rw, .var, [.bool m, .bool n, .bool u, .sl 1 false xa, .int .i64 lo, .int .i64 hi]⟩), (103, ⟨g3, .rw, .var, [.bool m', .bool n', .bool u', .sl 1 false xb, .int .i64 lo', .int .i64 hi']⟩), (104, ⟨g4, .rw, .var, [.bool false, .bool false, .bool false, .sl 1 true [], .int .i64 0, .int .i64 0]⟩)], false⟩ := fun h => ⟨_, upm _ ⟨_, _, xa, xb, rfl, hxa, hxb, .inl ⟨h, rfl, rfl⟩⟩, rfl⟩
        cases n <;> cases n' <;> cases u <;> cases u' <;> (conv => cbv)
        all_goals first
          | (obtain ⟨d, h3, h4⟩ := yes rfl; exact ⟨d, h3, by subst h4; exact ⟨⟨rfl, rfl, rfl, trivial⟩, ⟨rfl, rfl, rfl, trivial⟩, rfl⟩⟩)
          | (obtain ⟨d, h3, h4⟩ := no rfl; exact ⟨d, h3, by subst h4; exact ⟨⟨rfl, rfl, rfl, trivial⟩, ⟨rfl, rfl, rfl, trivial⟩, rfl⟩⟩)
      · rintro d ⟨A, B, xs, ys, rfl, hxs, hys, hsw⟩
        have hN2 := meetN_prog ca cb hsw
        rw [← hN] at hN2
        have hFA : FS A ∧ A.l.length ≤ 64 ∧ CheckP A := by rcases hsw with ⟨_, rfl, rfl⟩ | ⟨_, rfl, rfl⟩ <;> exact ⟨by assumption, by assumption, by assumption⟩
        have hFB : FS B ∧ B.l.length ≤ 64 ∧ CheckP B := by rcases hsw with ⟨_, rfl, rfl⟩ | ⟨_, rfl, rfl⟩ <;> exact ⟨by assumption, by assumption, by assumption⟩
        have hmm : (a.m && b.m) = (A.m && B.m) := by rcases hsw with ⟨_, rfl, rfl⟩ | ⟨_, rfl, rfl⟩ <;> simp [Bool.and_comm]
        rw [hmm] at hTe
        clear hsw hmm hN ka kb ca cb la lb hca hcb hxa hxb ha hb
        obtain ⟨hFA, la, cA⟩ := hFA
        obtain ⟨hFB, lb, cB⟩ := hFB
        have hcx : CleanL xs := cleanL_map clean_S hxs
        have hcy : CleanL ys := cleanL_map clean_S hys
        have hlx : O .len xs = A.l.length := by rw [o_len hO, hxs]; simp
        have h33' := h33 [A.l, B.l] (by simp) (by simp; omega)
        obtain ⟨K, hK⟩ : ∃ K, K = groupS [A.l, B.l] := ⟨_, rfl⟩
        have hKn : K.Nodup := by rw [hK]; exact groupS_nodup _
        have hKm : ∀ s, s ∈ K → s ∈ A.l ∨ s ∈ B.l := fun s hs => by rw [hK, groupS_mem] at hs; simpa using hs
        have hKs : ∀ s ∈ K, SL s := fun s hs => by
          rcases hKm s hs with h | h
          · exact hFA.l.all s h
          · exact hFB.l.all s h
        have hKl : K.length ≤ 128 := by
          have := groupS_len [A.l, B.l]
          rw [hK]
          simp at this
          omega
        rw [← hK] at h33' hN2
        have k32 := fun gm c0 => h32m 308 gm c0 (by decide) K hKn hKs (by omega)
        have k43 := fun x hx => h43 B x hFB hx
        obtain ⟨hRaw, hhR⟩ : ∃ p, p = hasRaw B := ⟨_, rfl⟩
        rw [← hhR] at k43 hN2
        have hAall := hFA.l.all
        have cuA := cA.u
        have cuB := cB.u
        obtain ⟨ks, hks⟩ : ∃ ks, ks = K.map ent := ⟨_, rfl⟩
        have hlk : O .len ks = K.length := by rw [o_len hO, hks]; simp
        obtain ⟨rs, hrs⟩ : ∃ rs, rs = (risingS K).map mkS := ⟨_, rfl⟩
        have hL33 : [A.l, B.l].map lD = [.sl 1 false xs, .sl 1 false ys] := by simp [lD, hxs, hys]
        rw [hL33, ← hks] at h33'
        rw [← hks, ← hrs] at k32
        clear h33 h32m h43 hL33 hFA hFB cA cB
        obtain ⟨m, n, u, l, lo, hi⟩ := A
        obtain ⟨m', n', u', l', lo', hi'⟩ := B
        unfold setD at k43
        simp only at hxs hys hlx la lb hN2 hTe k43 hAall cuA cuB ⊢
        rw [← hys] at k43
        conv => cbv
        intro g8
        conv => cbv
        refine join_of (fun d => ∃ (S : SetV) (ss : List D) (ok : Bool) (k g9 : Nat), d = ⟨[(2, .ptr 102 g2 0), (3, .ptr 103 g3 0), (4, .ptr 104 g4 0), (8, .ptr 108 g8 0), (9, .bool ok)], [(102, ⟨g2, .rw, .var, [.bool m, .bool n, .bool u, .sl 1 false xs, .int .i64 lo, .int .i64 hi]⟩), (103, ⟨g3, .rw, .var, [.bool m', .bool n', .bool u', .sl 1 false ys, .int .i64 lo', .int .i64 hi']⟩), (104, ⟨g4, .rw, .var, [.bool false, .bool false, .bool false, .sl 1 true [], .int .i64 0, .int .i64 0]⟩), (108, ⟨g8, .rw, .var, [.bool S.m, .bool S.n, .bool S.u, .own k g9, .int .i64 S.lo, .int .i64 S.hi]⟩), (k, ⟨g9, .rw, .arr 1 9, ss⟩)], false⟩ ∧ (k = 250 ∨ k = 900) ∧ ss = S.l.map mkS ∧ ((ok = true ∧ N = some S) ∨ (ok = false ∧ N = none))) (fun M upm => ?_) ?_
        · conv => cbv
          refine ⟨⟨by simp [closedL, closed, hcx.c, hcy.c]⟩, ?_⟩
          conv => cbv
          refine shared_of h33' (by decide) trivial ?_
          rintro r33 kn33 ⟨g33, c33, rfl, rfl⟩
          conv => cbv
          cases n with
          | false =>
            rw [if_pos rfl] at hN2
            conv => cbv
            intro g9
            conv => cbv
            refine loop_of (fun c d => ∃ (i : Int) (k g : Nat) (ac : List D), d = ⟨[(2, .ptr 102 g2 0), (3, .ptr 103 g3 0), (4, .ptr 104 g4 0), (8, .ptr 108 g8 0), (9, .bool true), (73, .sl 1 false xs), (74, .int .i64 (O .len xs)), (75, .int .i64 i)], [(102, ⟨g2, .rw, .var, [.bool m, .bool false, .bool u, .sl 1 false xs, .int .i64 lo, .int .i64 hi]⟩), (103, ⟨g3, .rw, .var, [.bool m', .bool n', .bool u', .sl 1 false ys, .int .i64 lo', .int .i64 hi']⟩), (104, ⟨g4, .rw, .var, [.bool false, .bool false, .bool false, .sl 1 true [], .int .i64 0, .int .i64 0]⟩), (108, ⟨g8, .rw, .var, [.bool false, .bool false, .bool false, .own 250 g, .int .i64 0, .int .i64 0]⟩), (250, ⟨g, .rw, .arr 1 9, ac⟩)], false⟩ ∧ i = k ∧ k ≤ l.length ∧ c = l.length - k ∧ ac = ((l.take k).filter hRaw).map mkS) ⟨_, _, ⟨_, 0, _, _, rfl, rfl, by omega, rfl, by simp⟩, ⟨⟨rfl, rfl, rfl, rfl, rfl, rfl, rfl, rfl, trivial⟩, ⟨rfl, rfl, rfl, rfl, rfl, trivial⟩, rfl⟩⟩ ?_
            rintro J up c d ⟨i, k, g, ac, rfl, hi', hk, rfl, hac⟩
            conv => cbv
            rintro (_ | _) h3
            · replace h3 := f_lss hO h3
              rw [hlx] at h3
              have : ac = (l.filter hRaw).map mkS := by rw [hac, List.take_of_length_le (by omega)]
              conv => cbv
              exact ⟨_, upm _ ⟨⟨false, false, false, l.filter hRaw, 0, 0⟩, ac, true, 250, g, rfl, .inl rfl, this, .inl ⟨rfl, hN2⟩⟩, ⟨⟨rfl, rfl, rfl, rfl, rfl, trivial⟩, ⟨rfl, rfl, rfl, rfl, rfl, trivial⟩, rfl⟩⟩
            · replace h3 := t_lss hO h3
              rw [hlx] at h3
              obtain ⟨y, hy⟩ : ∃ y, l[k]? = some y := ⟨_, List.getElem?_eq_getElem (by omega)⟩
              have hv := k43 y (hAall y (List.mem_of_getElem? hy))
              obtain ⟨q, hq⟩ : ∃ q, q = hRaw y := ⟨_, rfl⟩
              rw [← hq] at hv
              have hadd : O .iop .add .i64 i 1 = ((k + 1 : Nat) : Int) := by rw [o_add64 hO (by omega) (by omega)]; omega
              conv => cbv
              refine ⟨mkS y, atX_map hy hxs hi', ?_⟩
              conv => cbv
              refine ⟨hcy, _, hv, ?_⟩
              cases q with
              | false =>
                conv => cbv
                exact ⟨_, _, up _ _ ⟨_, k + 1, g, ac, rfl, hadd, by omega, rfl, by rw [hac, List.take_add_one, hy, List.filter_append]; simp [← hq]⟩, ⟨⟨rfl, rfl, rfl, rfl, rfl, rfl, rfl, rfl, trivial⟩, ⟨rfl, rfl, rfl, rfl, rfl, trivial⟩, rfl⟩, by omega⟩
              | true =>
                conv => cbv
                have hla : O .len ac ≤ k := by
                  have := List.length_filter_le hRaw (l.take k)
                  rw [o_len hO, hac]
                  simp at this ⊢
                  omega
                have hl1' : O .len [D.str ⟨⟨y⟩⟩] = 1 := by rw [o_len hO]; rfl
                obtain ⟨ac2, hac2⟩ : ∃ ac2, ac2 = O .app ac [D.str ⟨⟨y⟩⟩] := ⟨_, rfl⟩
                intro g85
                conv => cbv
                refine ⟨⟨rfl⟩, ⟨by show (O .len ac + O .len [D.str ⟨⟨y⟩⟩]) * ((16 : Nat) : Int) ≤ _; rw [hl1']; omega⟩, ?_⟩
                rw [← hac2]
                conv => cbv
                exact ⟨_, _, up _ _ ⟨_, k + 1, g + 1, ac2, rfl, hadd, by omega, rfl, by rw [hac2, o_app hO, hac, List.take_add_one, hy, List.filter_append]; simp [← hq, mkS]⟩, ⟨⟨rfl, rfl, rfl, rfl, rfl, rfl, rfl, rfl, trivial⟩, ⟨rfl, rfl, rfl, rfl, rfl, trivial⟩, rfl⟩, by omega⟩
          | true =>
            rw [if_neg (by simp)] at hN2
            cases u' with
            | false =>
              rw [if_pos rfl] at hN2
              conv => cbv
              refine shared_of (k32 g33 c33) (by decide) ⟨rfl, trivial⟩ ?_
              rintro _ _ ⟨go, rfl, rfl⟩
              conv => cbv
              rintro (_ | _) h3
              · replace h3 := f_leq hO h3
                rw [hlk] at h3
                rw [if_neg (by omega)] at hN2
                conv => cbv
                exact ⟨_, upm _ ⟨⟨false, true, false, risingS K, 0, 0⟩, rs, false, 900, go, rfl, .inr rfl, hrs, .inr ⟨rfl, hN2⟩⟩, ⟨⟨rfl, rfl, rfl, rfl, rfl, trivial⟩, ⟨rfl, rfl, rfl, rfl, rfl, trivial⟩, rfl⟩⟩
              · replace h3 := t_leq hO h3
                rw [hlk] at h3
                rw [if_pos (by omega)] at hN2
                conv => cbv
                exact ⟨_, upm _ ⟨⟨false, true, false, risingS K, 0, 0⟩, rs, true, 900, go, rfl, .inr rfl, hrs, .inl ⟨rfl, hN2⟩⟩, ⟨⟨rfl, rfl, rfl, rfl, rfl, trivial⟩, ⟨rfl, rfl, rfl, rfl, rfl, trivial⟩, rfl⟩⟩
            | true =>
              rw [if_neg (by simp)] at hN2
              have cu := cuB rfl
              cases u with
              | false =>
                rw [if_pos rfl] at hN2
                have h34' := h34 lo' hi' K g33 c33 (by omega) (by unfold most least at *; omega) (by omega) (by unfold most least at *; omega) hKn hKs (by omega)
                rw [← hks] at h34'
                conv => cbv
                refine shared_of h34' (by decide) ⟨rfl, trivial⟩ ?_
                rintro r34 kn34 ⟨S, bb, go, ss, rfl, hNr, hss, rfl⟩
                have hrel : (bb = true ∧ N = some S) ∨ (bb = false ∧ N = none) := by
                  rcases hNr with ⟨h, h'⟩ | ⟨h, h'⟩
                  · exact .inl ⟨h, by rw [hN2, h']⟩
                  · exact .inr ⟨h, by rw [hN2, h']⟩
                obtain ⟨sm, sn, su, sl, slo, shi⟩ := S
                simp only at hss
                conv => cbv
                exact ⟨_, upm _ ⟨⟨sm, sn, su, sl, slo, shi⟩, ss, bb, 900, go, rfl, .inr rfl, hss, hrel⟩, ⟨⟨rfl, rfl, rfl, rfl, rfl, trivial⟩, ⟨rfl, rfl, rfl, rfl, rfl, trivial⟩, rfl⟩⟩
              | true =>
                rw [if_neg (by simp)] at hN2
                have cu' := cuA rfl
                obtain ⟨lo2, hlo2⟩ : ∃ x : Int, x = max lo lo' := ⟨_, rfl⟩
                obtain ⟨hi2, hhi2⟩ : ∃ x : Int, x = min hi hi' := ⟨_, rfl⟩
                rw [← hlo2, ← hhi2] at hN2
                have hmx : O .mx true lo lo' = lo2 := by rw [o_max hO, hlo2]
                have hmn : O .mx false hi hi' = hi2 := by rw [o_min hO, hhi2]
                have h34' := h34 lo2 hi2 K g33 c33 (by omega) (by unfold most least at *; omega) (by omega) (by unfold most least at *; omega) hKn hKs (by omega)
                rw [← hks] at h34'
                conv => cbv
                rw [hmx, hmn]
                refine shared_of h34' (by decide) ⟨rfl, trivial⟩ ?_
                rintro r34 kn34 ⟨S, bb, go, ss, rfl, hNr, hss, rfl⟩
                have hrel : (bb = true ∧ N = some S) ∨ (bb = false ∧ N = none) := by
                  rcases hNr with ⟨h, h'⟩ | ⟨h, h'⟩
                  · exact .inl ⟨h, by rw [hN2, h']⟩
                  · exact .inr ⟨h, by rw [hN2, h']⟩
                obtain ⟨sm, sn, su, sl, slo, shi⟩ := S
                simp only at hss
                conv => cbv
                exact ⟨_, upm _ ⟨⟨sm, sn, su, sl, slo, shi⟩, ss, bb, 900, go, rfl, .inr rfl, hss, hrel⟩, ⟨⟨rfl, rfl, rfl, rfl, rfl, trivial⟩, ⟨rfl, rfl, rfl, rfl, rfl, trivial⟩, rfl⟩⟩
        · rintro d ⟨S, ss, ok, k, g9, rfl, hk, hss, hrel⟩
          obtain ⟨sm, sn, su, sl, slo, shi⟩ := S
          simp only at hss ⊢
          rcases hrel with ⟨rfl, hNs⟩ | ⟨rfl, hNs⟩
          · rw [hNs] at hTe
            simp only [Prod.mk.injEq] at hTe
            obtain ⟨rfl, rfl⟩ := hTe
            rcases hk with rfl | rfl
            · cases m <;> cases m' <;> (conv => cbv) <;> exact ⟨250, g9, ss, .inl rfl, rfl, hss, ⟨rfl, trivial⟩⟩
            · cases m <;> cases m' <;> (conv => cbv) <;> exact ⟨900, g9, ss, .inr rfl, rfl, hss, ⟨rfl, trivial⟩⟩
          · rw [hNs] at hTe
            simp only [Prod.mk.injEq] at hTe
            obtain ⟨rfl, rfl⟩ := hTe
            conv => cbv
            exact .inl ⟨true, rfl⟩
    · replace h2 := t_neq hO h2
      rw [if_pos h2] at hTe
      simp only [Prod.mk.injEq] at hTe
      obtain ⟨rfl, rfl⟩ := hTe
      conv => cbv
      exact .inl ⟨h2, true, rfl⟩
  · replace h1 := t_neq hO h1
    rw [if_pos h1] at hTe
    simp only [Prod.mk.injEq] at hTe
    obtain ⟨rfl, rfl⟩ := hTe
    conv => cbv
    exact .inl ⟨h1, true, rfl⟩
end Go.Proofs.AM
namespace Go.Proofs.AM
open Go Go.Lib Cd
set_option maxRecDepth 100000 in
set_option maxHeartbeats 8000000 in
theorem meets7_ok (R : Ans) (h : C3 R) (a b : SetV) (ha : FS a) (hb : FS b) (T : SetV) (e : Int) (hTe : meetS a b = (T, e))
    (h24 : SCall R 100 24 [setD a, setD b] [] (fun r kn => (e ≠ 0 ∧ (∃ nl, r = .tup [.agg [.bool false, .bool false, .bool false, .sl 1 nl [], .int .i64 0, .int .i64 0], .int .i64 e]) ∧ kn = []) ∨ (e = 0 ∧ ∃ k g ss, (k = 250 ∨ k = 900) ∧ r = .tup [.agg [.bool T.m, .bool T.n, .bool T.u, .own k g, .int .i64 T.lo, .int .i64 T.hi], .int .i64 0] ∧ ss = T.l.map mkS ∧ kn = [(k, ⟨g, .rw, .arr 1 9, ss⟩)]))) : AnsF R c7o [setD a, setD b] (.bool true) := by
  have k0 := h.live14
  have k25 := h.meet25 a b ha hb
  have fT : FS T := by have := meet_fs a b; rw [hTe] at this; exact this
  rw [hTe] at k25
  have ks := h.same21 T T fT fT
  have ka := h.same21 a a ha ha
  have kb := h.same21 b b hb hb
  rw [decide_eq_true rfl] at ks ka kb
  have hz : e ≠ 0 → T = zeroS := fun h1 => by
    unfold meetS at hTe
    split at hTe
    · exact (Prod.mk.inj hTe).1.symm
    · split at hTe
      · exact (Prod.mk.inj hTe).1.symm
      · split at hTe
        · exact (Prod.mk.inj hTe).1.symm
        · exact absurd (Prod.mk.inj hTe).2.symm h1
  have hl1 := ha.l.len
  have hl2 := hb.l.len
  have hTl := fT.l.len
  clear h hTe ha hb fT
  obtain ⟨am, an, au, l, alo, ahi⟩ := a
  obtain ⟨bm, bn, bu, l2, blo, bhi⟩ := b
  unfold setD at k25 h24 ka kb ks ⊢
  simp only at k25 h24 ka kb hl1 hl2 ⊢
  obtain ⟨xs, hxs⟩ : ∃ xs, xs = l.map mkS := ⟨_, rfl⟩
  have hcx : CleanL xs := cleanL_map clean_S hxs
  obtain ⟨ys, hys⟩ : ∃ xs, xs = l2.map mkS := ⟨_, rfl⟩
  have hcy : CleanL ys := cleanL_map clean_S hys
  rw [← hxs] at k25 h24 ka ⊢
  rw [← hys] at k25 h24 kb ⊢
  obtain ⟨ts, hts⟩ : ∃ ts, ts = T.l.map mkS := ⟨_, rfl⟩
  have hcT : CleanL ts := cleanL_map clean_S hts
  rw [← hts] at k25 ks
  have htl : ts.length ≤ 8796093022208 := by rw [hts]; simpa using hTl
  refine wpF_sound ⟨rfl, by decide⟩ fun O hO V hV => ?_
  subst hV
  have hl0 : O .len [] = 0 := by rw [o_len hO]; rfl
  have hlx : O .len xs = l.length := by rw [o_len hO, hxs]; simp
  have hly : O .len ys = l2.length := by rw [o_len hO, hys]; simp
  obtain ⟨al, hal⟩ : ∃ al, al = O .app [] xs := ⟨_, rfl⟩
  have halx : al = xs := by rw [hal, o_app hO]; simp
  have hal1 : CleanL al := by rw [halx]; exact hcx
  obtain ⟨bl, hbl⟩ : ∃ al, al = O .app [] ys := ⟨_, rfl⟩
  have hbly : bl = ys := by rw [hbl, o_app hO]; simp
  have hbl1 : CleanL bl := by rw [hbly]; exact hcy
  have ka2 : V.v 21 [.agg [.bool am, .bool an, .bool au, .sl 1 false xs, .int .i64 alo, .int .i64 ahi], .agg [.bool am, .bool an, .bool au, .sl 1 false al, .int .i64 alo, .int .i64 ahi]] (.bool true) := by rw [halx]; exact ka
  have kb2 : V.v 21 [.agg [.bool bm, .bool bn, .bool bu, .sl 1 false ys, .int .i64 blo, .int .i64 bhi], .agg [.bool bm, .bool bn, .bool bu, .sl 1 false bl, .int .i64 blo, .int .i64 bhi]] (.bool true) := by rw [hbly]; exact kb
  conv => cbv
  refine ⟨hcx.x, ⟨by show (O .len [] + O .len xs) * ((16 : Nat) : Int) ≤ _; rw [hl0, hlx]; omega⟩, hcy.x, ⟨by show (O .len [] + O .len ys) * ((16 : Nat) : Int) ≤ _; rw [hl0, hly]; omega⟩, ?_⟩
  conv => cbv
  rw [← hal, ← hbl]
  conv => cbv
  refine shared_of h24 (by decide) trivial ?_
  rintro _ _ (⟨h1, ⟨nl, rfl⟩, rfl⟩ | ⟨rfl, k, g, ss, (rfl | rfl), rfl, hss, rfl⟩)
  · obtain rfl := hz h1
    have hts' : ts = [] := by rw [hts]; rfl
    subst hts'
    simp only [zeroS] at k25 ks
    have hn : CleanL [] := ⟨rfl, rfl⟩
    rw [← halx, ← hbly] at k25
    conv => cbv
    intro g7
    conv => cbv
    refine ⟨hal1, hbl1, _, k25, ?_⟩
    conv => cbv
    intro g9
    conv => cbv
    rintro (_ | _) g1
    · conv => cbv
      exfalso; exact f_eql hO g1 rfl
    conv => cbv
    refine ⟨hn, hcT, _, ks, ?_⟩
    conv => cbv
    refine loop_of (fun z d => d = ⟨[(2, .ptr 2 1 0), (3, .ptr 3 1 0), (5, .ptr 5 1 0), (6, .ptr 6 1 0), (7, .ptr 7 g7 0), (11, .bool true), (12, .int .i64 0)], [(2, ⟨1, .rw, .var, [.bool am, .bool an, .bool au, .sl 1 false xs, .int .i64 alo, .int .i64 ahi]⟩), (3, ⟨1, .rw, .var, [.bool bm, .bool bn, .bool bu, .sl 1 false ys, .int .i64 blo, .int .i64 bhi]⟩), (5, ⟨1, .rw, .var, [.bool am, .bool an, .bool au, .own 15 2, .int .i64 alo, .int .i64 ahi]⟩), (6, ⟨1, .rw, .var, [.bool bm, .bool bn, .bool bu, .own 20 2, .int .i64 blo, .int .i64 bhi]⟩), (15, ⟨2, .ro, .arr 1 9, al⟩), (20, ⟨2, .ro, .arr 1 9, bl⟩), (7, ⟨g7, .rw, .var, [.bool false, .bool false, .bool false, .sl 1 nl [], .int .i64 0, .int .i64 0]⟩)], false⟩) ⟨0, _, rfl, ⟨⟨rfl, rfl, rfl, rfl, rfl, rfl, rfl, trivial⟩, ⟨rfl, rfl, rfl, rfl, rfl, rfl, rfl, trivial⟩, rfl⟩⟩ ?_
    rintro J up z d rfl
    conv => cbv
    rintro (_ | _) g2
    · conv => cbv
      refine ⟨_, k0, ?_⟩
      conv => cbv
      refine ⟨hcx, hal1, _, ka2, ?_⟩
      conv => cbv
      refine ⟨hcy, hbl1, _, kb2, ?_⟩
      conv => cbv
      trivial
    · exfalso
      have := t_lss hO g2
      rw [hl0] at this
      omega
  · obtain rfl : ss = ts := by rw [hss, hts]
    obtain ⟨tm, tn, tu, tl, tlo, thi⟩ := T
    simp only at k25 ks hss htl
    rw [← halx, ← hbly] at k25
    conv => cbv
    intro g7
    conv => cbv
    refine ⟨hal1, hbl1, _, k25, ?_⟩
    conv => cbv
    intro g9
    conv => cbv
    rintro (_ | _) g1
    · conv => cbv
      exfalso; exact f_eql hO g1 rfl
    conv => cbv
    refine ⟨hcT, hcT, _, ks, ?_⟩
    conv => cbv
    refine loop_of (fun z d => ∃ (i : Int) (k : Nat) (zs : List D), d = ⟨[(2, .ptr 2 1 0), (3, .ptr 3 1 0), (5, .ptr 5 1 0), (6, .ptr 6 1 0), (7, .ptr 7 g7 0), (11, .bool true), (12, .int .i64 i)], [(2, ⟨1, .rw, .var, [.bool am, .bool an, .bool au, .sl 1 false xs, .int .i64 alo, .int .i64 ahi]⟩), (3, ⟨1, .rw, .var, [.bool bm, .bool bn, .bool bu, .sl 1 false ys, .int .i64 blo, .int .i64 bhi]⟩), (5, ⟨1, .rw, .var, [.bool am, .bool an, .bool au, .own 15 2, .int .i64 alo, .int .i64 ahi]⟩), (6, ⟨1, .rw, .var, [.bool bm, .bool bn, .bool bu, .own 20 2, .int .i64 blo, .int .i64 bhi]⟩), (15, ⟨2, .ro, .arr 1 9, al⟩), (20, ⟨2, .ro, .arr 1 9, bl⟩), (7, ⟨g7, .rw, .var, [.bool tm, .bool tn, .bool tu, .own 250 g, .int .i64 tlo, .int .i64 thi]⟩), (250, ⟨g, .rw, .arr 1 9, zs⟩)], false⟩ ∧ i = k ∧ zs.length = ss.length ∧ k ≤ ss.length ∧ z = ss.length - k ∧ ∀ (j : Nat) x, zs[j]? = some x → ∃ s, x = mkS s) ⟨_, _, ⟨_, 0, ss, rfl, rfl, rfl, by omega, rfl, fun j x hx => by rw [hss, List.getElem?_map, Option.map_eq_some_iff] at hx; obtain ⟨s, _, rfl⟩ := hx; exact ⟨s, rfl⟩⟩, ⟨⟨rfl, rfl, rfl, rfl, rfl, rfl, rfl, trivial⟩, ⟨rfl, rfl, rfl, rfl, rfl, rfl, rfl, rfl, trivial⟩, rfl⟩⟩ ?_
    rintro J up z d ⟨i, k, zs, rfl, hi, hzl, hk, rfl, hzs⟩
    have hlz : O .len zs = ss.length := by rw [o_len hO, hzl]
    conv => cbv
    rintro (_ | _) g2
    · conv => cbv
      refine ⟨_, k0, ?_⟩
      conv => cbv
      refine ⟨hcx, hal1, _, ka2, ?_⟩
      conv => cbv
      refine ⟨hcy, hbl1, _, kb2, ?_⟩
      conv => cbv
      trivial
    · replace g2 := t_lss hO g2
      rw [hlz] at g2
      have hadd : O .iop .add .i64 i 1 = ((k + 1 : Nat) : Int) := by rw [o_add64 hO (by omega) (by omega)]; omega
      have hnat : O .nat i = k := by rw [o_nat hO, hi]; rfl
      obtain ⟨x, hx⟩ : ∃ x, zs[k]? = some x := ⟨_, List.getElem?_eq_getElem (by omega)⟩
      obtain ⟨s, rfl⟩ := hzs k x hx
      have hset : O .set zs k (D.str ⟨⟨[64]⟩⟩) = zs.set k (mkS [64]) := by rw [o_set hO]; rfl
      have h0 : LeX 0 i := ⟨by omega⟩
      have h1 : LtX i (O .len zs) := ⟨by rw [hlz]; omega⟩
      conv => cbv
      refine ⟨h0, h1, ?_⟩
      rw [hnat]
      conv => cbv
      refine ⟨_, hx, ?_⟩
      conv => cbv
      exact ⟨_, _, up _ _ ⟨_, k + 1, O .set zs k (D.str ⟨⟨[64]⟩⟩), rfl, hadd, by rw [hset, List.length_set]; exact hzl, by omega, rfl, fun j x hj => by
        rw [hset, List.getElem?_set] at hj
        split at hj
        · split at hj
          · exact ⟨[64], by simpa using hj.symm⟩
          · simp at hj
        · exact hzs j x hj⟩, ⟨⟨rfl, rfl, rfl, rfl, rfl, rfl, rfl, trivial⟩, ⟨rfl, rfl, rfl, rfl, rfl, rfl, rfl, rfl, trivial⟩, rfl⟩, by omega⟩
  · obtain rfl : ss = ts := by rw [hss, hts]
    obtain ⟨tm, tn, tu, tl, tlo, thi⟩ := T
    simp only at k25 ks hss htl
    rw [← halx, ← hbly] at k25
    conv => cbv
    intro g7
    conv => cbv
    refine ⟨hal1, hbl1, _, k25, ?_⟩
    conv => cbv
    intro g9
    conv => cbv
    rintro (_ | _) g1
    · conv => cbv
      exfalso; exact f_eql hO g1 rfl
    conv => cbv
    refine ⟨hcT, hcT, _, ks, ?_⟩
    conv => cbv
    refine loop_of (fun z d => ∃ (i : Int) (k : Nat) (zs : List D), d = ⟨[(2, .ptr 2 1 0), (3, .ptr 3 1 0), (5, .ptr 5 1 0), (6, .ptr 6 1 0), (7, .ptr 7 g7 0), (11, .bool true), (12, .int .i64 i)], [(2, ⟨1, .rw, .var, [.bool am, .bool an, .bool au, .sl 1 false xs, .int .i64 alo, .int .i64 ahi]⟩), (3, ⟨1, .rw, .var, [.bool bm, .bool bn, .bool bu, .sl 1 false ys, .int .i64 blo, .int .i64 bhi]⟩), (5, ⟨1, .rw, .var, [.bool am, .bool an, .bool au, .own 15 2, .int .i64 alo, .int .i64 ahi]⟩), (6, ⟨1, .rw, .var, [.bool bm, .bool bn, .bool bu, .own 20 2, .int .i64 blo, .int .i64 bhi]⟩), (15, ⟨2, .ro, .arr 1 9, al⟩), (20, ⟨2, .ro, .arr 1 9, bl⟩), (7, ⟨g7, .rw, .var, [.bool tm, .bool tn, .bool tu, .own 900 g, .int .i64 tlo, .int .i64 thi]⟩), (900, ⟨g, .rw, .arr 1 9, zs⟩)], false⟩ ∧ i = k ∧ zs.length = ss.length ∧ k ≤ ss.length ∧ z = ss.length - k ∧ ∀ (j : Nat) x, zs[j]? = some x → ∃ s, x = mkS s) ⟨_, _, ⟨_, 0, ss, rfl, rfl, rfl, by omega, rfl, fun j x hx => by rw [hss, List.getElem?_map, Option.map_eq_some_iff] at hx; obtain ⟨s, _, rfl⟩ := hx; exact ⟨s, rfl⟩⟩, ⟨⟨rfl, rfl, rfl, rfl, rfl, rfl, rfl, trivial⟩, ⟨rfl, rfl, rfl, rfl, rfl, rfl, rfl, rfl, trivial⟩, rfl⟩⟩ ?_
    rintro J up z d ⟨i, k, zs, rfl, hi, hzl, hk, rfl, hzs⟩
    have hlz : O .len zs = ss.length := by rw [o_len hO, hzl]
    conv => cbv
    rintro (_ | _) g2
    · conv => cbv
      refine ⟨_, k0, ?_⟩
      conv => cbv
      refine ⟨hcx, hal1, _, ka2, ?_⟩
      conv => cbv
      refine ⟨hcy, hbl1, _, kb2, ?_⟩
      conv => cbv
      trivial
    · replace g2 := t_lss hO g2
      rw [hlz] at g2
      have hadd : O .iop .add .i64 i 1 = ((k + 1 : Nat) : Int) := by rw [o_add64 hO (by omega) (by omega)]; omega
      have hnat : O .nat i = k := by rw [o_nat hO, hi]; rfl
      obtain ⟨x, hx⟩ : ∃ x, zs[k]? = some x := ⟨_, List.getElem?_eq_getElem (by omega)⟩
      obtain ⟨s, rfl⟩ := hzs k x hx
      have hset : O .set zs k (D.str ⟨⟨[64]⟩⟩) = zs.set k (mkS [64]) := by rw [o_set hO]; rfl
      have h0 : LeX 0 i := ⟨by omega⟩
      have h1 : LtX i (O .len zs) := ⟨by rw [hlz]; omega⟩
      conv => cbv
      refine ⟨h0, h1, ?_⟩
      rw [hnat]
      conv => cbv
      refine ⟨_, hx, ?_⟩
      conv => cbv
      exact ⟨_, _, up _ _ ⟨_, k + 1, O .set zs k (D.str ⟨⟨[64]⟩⟩), rfl, hadd, by rw [hset, List.length_set]; exact hzl, by omega, rfl, fun j x hj => by
        rw [hset, List.getElem?_set] at hj
        split at hj
        · split at hj
          · exact ⟨[64], by simpa using hj.symm⟩
          · simp at hj
        · exact hzs j x hj⟩, ⟨⟨rfl, rfl, rfl, rfl, rfl, rfl, rfl, trivial⟩, ⟨rfl, rfl, rfl, rfl, rfl, rfl, rfl, rfl, trivial⟩, rfl⟩, by omega⟩
end Go.Proofs.AM
namespace Go.Proofs.AM
open Go Go.Lib
open Classical in
noncomputable def wantB (q : ReqV) (v : Str) : Bool :=
  if q.op = 1 then decide (v ∈ q.l) else if q.op = 2 then valueB v && !decide (v ∈ q.l) else if q.op = 3 then valueB v
  else if q.op = 5 then decide (∃ n, numS v = some n ∧ q.n < n) else if q.op = 6 then decide (∃ n, numS v = some n ∧ n < q.n) else false
theorem num_range {v : Str} {n : Int} (h : numS v = some n) : least ≤ n ∧ n ≤ most := (numS_iff.1 h).2
theorem of_nums {q : ReqV} {lo hi : Int} (h1 : least ≤ lo) (h2 : hi ≤ most) {S : SetV} (hS : (numbersS lo hi []).getD zeroS = S) :
    CheckP S ∧ S.m = false ∧ ∀ v, hasB S v = true ↔ ∃ n, numS v = some n ∧ lo ≤ n ∧ n ≤ hi := by
  obtain ⟨T, hT⟩ := numbersS_nil lo hi
  rw [hT] at hS
  obtain rfl : T = S := hS
  obtain ⟨c, m, r⟩ := numbersS_spec h1 h2 hT
  refine ⟨c, m, fun v => ?_⟩
  rw [hasB_raw c, Bool.and_eq_true, r]
  constructor
  · rintro ⟨_, _, h⟩; exact h
  · rintro ⟨n, h⟩; exact ⟨value_num h.1, by simp, n, h⟩
theorem of_spec {q : ReqV} (hw : wrongE q = 0) : CheckP (ofS q) ∧ ((ofS q).m = true ↔ q.op = 2 ∨ q.op = 4) ∧ ∀ v, hasB (ofS q) v = wantB q v := by
  obtain ⟨_, hb, hl, hv, hn⟩ := wrongE_0 hw
  unfold BadOp at hb
  have hord : OrdP (risingS q.l) := ⟨by rw [risingS_len_eq hn]; omega, fun j x hx => hv x (risingS_mem.1 (List.mem_of_getElem? hx)), (risingS_rises _).adj⟩
  have hval : ∀ v, v ∈ q.l → valueB v = true := hv
  by_cases h1 : q.op = 1
  · have e : ofS q = ⟨false, false, false, risingS q.l, 0, 0⟩ := by unfold ofS; rw [if_pos h1]
    have c : CheckP (⟨false, false, false, risingS q.l, 0, 0⟩ : SetV) := ⟨hord, by simp, by simp, by simp⟩
    rw [e]
    refine ⟨c, by simp; omega, fun v => ?_⟩
    rw [hasB_raw c]
    unfold wantB
    rw [if_pos h1]
    apply bool_eq
    rw [Bool.and_eq_true, hasRaw_iff]
    simp only [Bool.false_eq_true, false_iff, Decidable.not_not, false_imp_iff, and_true, risingS_mem, decide_eq_true_eq]
    exact ⟨fun h => h.2, fun h => ⟨hval v h, h⟩⟩
  by_cases h2 : q.op = 2
  · have e : ofS q = ⟨true, true, false, risingS q.l, 0, 0⟩ := by unfold ofS; rw [if_neg h1, if_pos h2]
    have c : CheckP (⟨true, true, false, risingS q.l, 0, 0⟩ : SetV) := ⟨hord, by simp, by simp, by simp⟩
    rw [e]
    refine ⟨c, by simp [h2], fun v => ?_⟩
    rw [hasB_raw c]
    unfold wantB
    rw [if_neg h1, if_pos h2]
    congr 1
    apply bool_eq
    rw [hasRaw_iff]
    simp [risingS_mem]
  by_cases h3 : q.op = 3
  · have e : ofS q = ⟨false, true, false, [], 0, 0⟩ := by unfold ofS; rw [if_neg h1, if_neg h2, if_pos h3]
    have c : CheckP (⟨false, true, false, [], 0, 0⟩ : SetV) := ⟨ord_nil, by simp, by simp, by simp⟩
    rw [e]
    refine ⟨c, by simp; omega, fun v => ?_⟩
    rw [hasB_raw c]
    unfold wantB
    rw [if_neg h1, if_neg h2, if_pos h3]
    simp [hasRaw]
  by_cases h4 : q.op = 4
  · have e : ofS q = ⟨true, false, false, [], 0, 0⟩ := by unfold ofS; rw [if_neg h1, if_neg h2, if_neg h3, if_pos h4]
    have c : CheckP (⟨true, false, false, [], 0, 0⟩ : SetV) := ⟨ord_nil, by simp, by simp, by simp⟩
    rw [e]
    refine ⟨c, by simp [h4], fun v => ?_⟩
    rw [hasB_raw c]
    unfold wantB
    rw [if_neg h1, if_neg h2, if_neg h3, if_neg (by omega), if_neg (by omega)]
    simp [hasRaw]
  by_cases h5 : q.op = 5
  · have e : ofS q = (numbersS (q.n + 1) most []).getD zeroS := by unfold ofS; rw [if_neg h1, if_neg h2, if_neg h3, if_neg h4, if_pos h5]
    obtain ⟨c, m, r⟩ := of_nums (q := q) (lo := q.n + 1) (hi := most) (by unfold least; omega) (by omega) e.symm
    refine ⟨c, by rw [m]; simp; omega, fun v => ?_⟩
    unfold wantB
    rw [if_neg h1, if_neg h2, if_neg h3, if_pos h5]
    apply bool_eq
    rw [r, decide_eq_true_eq]
    constructor
    · rintro ⟨n, h6, h7, h8⟩; exact ⟨n, h6, by omega⟩
    · rintro ⟨n, h6, h7⟩; exact ⟨n, h6, by omega, (num_range h6).2⟩
  · have e : ofS q = (numbersS least (q.n - 1) []).getD zeroS := by unfold ofS; rw [if_neg h1, if_neg h2, if_neg h3, if_neg h4, if_neg h5]
    obtain ⟨c, m, r⟩ := of_nums (q := q) (lo := least) (hi := q.n - 1) (by omega) (by unfold most; omega) e.symm
    refine ⟨c, by rw [m]; simp; omega, fun v => ?_⟩
    unfold wantB
    rw [if_neg h1, if_neg h2, if_neg h3, if_neg h5, if_pos (by omega)]
    apply bool_eq
    rw [r, decide_eq_true_eq]
    constructor
    · rintro ⟨n, h6, h7, h8⟩; exact ⟨n, h6, by omega⟩
    · rintro ⟨n, h6, h7⟩; exact ⟨n, h6, (num_range h6).1, by omega⟩
end Go.Proofs.AM
namespace Go.Proofs.AM
open Go Go.RowKit Go.Lib Cd
set_option maxRecDepth 100000
theorem U34 : funcT Tryd.prog [70, 93] Tryd.f34 = some c34o.erase := by kernel_rfl
theorem U12 : funcT Tryd.prog [16, 37, 47] Tryd.f12 = some c12o.erase := by kernel_rfl
theorem U24 : funcT Tryd.prog [52, 94, 109, 65, 51] Tryd.f24 = some c24o.erase := by kernel_rfl
theorem U5 : funcT Tryd.prog [17] Tryd.f5 = some c5o.erase := by kernel_rfl
theorem U7 : funcT Tryd.prog [28] Tryd.f7 = some c7o.erase := by kernel_rfl
theorem o34v (lo hi : Int) (h1 : least ≤ lo) (h2 : lo ≤ most + 1) (h3 : hi ≤ most) (h4 : least - 1 ≤ hi) :
    SCall PR3 600 34 [.int .i64 lo, .int .i64 hi, .mapv []] [] (fun r kn => ∃ S b g ss, r = .tup [.agg [.bool S.m, .bool S.n, .bool S.u, .own 900 g, .int .i64 S.lo, .int .i64 S.hi], .bool b] ∧ NumsR lo hi [] S b ∧ ss = S.l.map mkS ∧ kn = [(900, ⟨g, .rw, .arr 1 9, ss⟩)]) :=
  (SCall.of (Gd.grows _) follows_mixed E34 Tryd.func34 U34 ⟨rfl, by decide⟩ (numbers34_own0 _ k13 fmt36 (rising32v 900) (rising32m 900) lo hi h1 h2 h3 h4 [] rfl (by simp))).mono
    fun r kn ⟨S, b, g, ss, e1, e2, e3, e4⟩ => ⟨_, e4, S, b, g, ss, e1, e2, e3, rfl⟩
theorem o34m (lo hi : Int) (K : List Str) (gm : Nat) (c0 : Int) (h1 : least ≤ lo) (h2 : lo ≤ most + 1) (h3 : hi ≤ most) (h4 : least - 1 ≤ hi) (hn : K.Nodup) (hs : ∀ s ∈ K, SL s) (hl : K.length ≤ 8796093022208) :
    SCall PR3 600 34 [.int .i64 lo, .int .i64 hi, .mapr 308 gm] [(308, ⟨gm, .rw, .map, .int .i64 c0 :: K.map ent⟩)] (fun r kn => ∃ S b g ss, r = .tup [.agg [.bool S.m, .bool S.n, .bool S.u, .own 900 g, .int .i64 S.lo, .int .i64 S.hi], .bool b] ∧ NumsR lo hi K S b ∧ ss = S.l.map mkS ∧ kn = [(900, ⟨g, .rw, .arr 1 9, ss⟩)]) :=
  (SCall.of (Gd.grows _) follows_mixed E34 Tryd.func34 U34 ⟨rfl, by decide⟩ (numbers34_own _ k13 fmt36 (rising32v 900) (rising32m 900) lo hi h1 h2 h3 h4 K hn hs hl gm c0)).mono
    fun r kn ⟨S, b, g, ss, e1, e2, e3, e4⟩ => ⟨_, e4, S, b, g, ss, e1, e2, e3, rfl⟩
theorem o12 (q : ReqV) (hq : FR q) (e : Int) (T : SetV) (he : e = wrongE q) (hT : T = ofSet q) :
    SCall PR3 300 12 [reqD q] [] (fun r kn => (e ≠ 0 ∧ (∃ nl, r = .tup [.agg [.bool false, .bool false, .bool false, .sl 1 nl [], .int .i64 0, .int .i64 0], .int .i64 e]) ∧ kn = []) ∨ (e = 0 ∧ ∃ g ss, r = .tup [.agg [.bool T.m, .bool T.n, .bool T.u, .own 900 g, .int .i64 T.lo, .int .i64 T.hi], .int .i64 0] ∧ ss = T.l.map mkS ∧ kn = [(900, ⟨g, .rw, .arr 1 9, ss⟩)])) :=
  (SCall.of (Gd.grows _) follows_mixed E12 Tryd.func12 U12 ⟨rfl, by decide⟩ (of12_own _ q hq e T he (fun h => by
    rw [hT]; unfold ofSet; rw [if_pos (by rw [← he]; exact h)]) (k31 q hq) k33 (rising32v 900) o34v)).mono
    fun r kn h => by
      rcases h with ⟨h1, h2⟩ | ⟨h1, g, ss, e1, e2, e3⟩
      · exact ⟨[], trivial, .inl ⟨h1, h2, rfl⟩⟩
      · exact ⟨_, e3, .inr ⟨h1, g, ss, e1, e2, rfl⟩⟩
theorem o24 (a b : SetV) (ha : FS a) (hb : FS b) (T : SetV) (e : Int) (hTe : meetS a b = (T, e)) :
    SCall PR3 100 24 [setD a, setD b] [] (fun r kn => (e ≠ 0 ∧ (∃ nl, r = .tup [.agg [.bool false, .bool false, .bool false, .sl 1 nl [], .int .i64 0, .int .i64 0], .int .i64 e]) ∧ kn = []) ∨ (e = 0 ∧ ∃ k g ss, (k = 250 ∨ k = 900) ∧ r = .tup [.agg [.bool T.m, .bool T.n, .bool T.u, .own k g, .int .i64 T.lo, .int .i64 T.hi], .int .i64 0] ∧ ss = T.l.map mkS ∧ kn = [(k, ⟨g, .rw, .arr 1 9, ss⟩)])) :=
  (SCall.of (Gd.grows _) follows_mixed E24 Tryd.func24 U24 ⟨rfl, by decide⟩ (meet24_own _ a b ha hb T e hTe k23 k43 (rising32m 900) k33s o34m)).mono
    fun r kn h => by
      rcases h with ⟨h1, h2⟩ | ⟨h1, k, g, ss, e0, e1, e2, e3⟩
      · exact ⟨[], trivial, .inl ⟨h1, h2, rfl⟩⟩
      · exact ⟨_, e3, .inr ⟨h1, k, g, ss, e0, e1, e2, rfl⟩⟩
theorem ofSet_fs (q : ReqV) : FS (ofSet q) := by
  unfold ofSet
  split
  · next h => exact (of_spec h).1.fs
  · exact fs_zero
theorem l5 (q : ReqV) (hq : FR q) : PR3.v 5 [reqD q] (.bool true) :=
  pr3 E5 Tryd.func5 U5 (of5_ok _ c3_all q hq _ _ rfl rfl (ofSet_fs q) (o12 q hq _ _ rfl rfl))
theorem l7 (a b : SetV) (ha : FS a) (hb : FS b) : PR3.v 7 [setD a, setD b] (.bool true) :=
  pr3 E7 Tryd.func7 U7 (meets7_ok _ c3_all a b ha hb _ _ rfl (o24 a b ha hb _ _ rfl))
end Go.Proofs.AM
