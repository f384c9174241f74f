/- Part 8 of the lemmas: VVg, VVn, PVg, VVy. -/
import Derived.Test.YteaklhcejjiinaaDoorM07
import Derived.Test.YteaklhcejjiinaaDoorM06
namespace Go.Proofs.AM
open Go Go.Lib Cd
def NumR (s : Str) (v : Int) (b : Bool) : Prop := (b = true ∧ numS s = some v) ∨ (b = false ∧ v = 0 ∧ numS s = none)
theorem numS_none_len {s : Str} (h : 11 < s.length) : numS s = none := by
  cases hn : numS s with
  | none => rfl
  | some n => have := numS_len hn; omega
theorem NumR.ex (s : Str) : ∃ v b, NumR s v b := by
  cases h : numS s with
  | none => exact ⟨0, false, .inr ⟨rfl, rfl, h⟩⟩
  | some n => exact ⟨n, true, .inl ⟨rfl, h⟩⟩
theorem NumR.fi {s : Str} {v : Int} {b : Bool} (h : NumR s v b) : least ≤ v ∧ v ≤ most := by
  rcases h with ⟨_, h⟩ | ⟨_, h, _⟩
  · exact (numS_iff.1 h).2
  · subst h; decide
theorem NumR.of {s : Str} {v n : Int} {b : Bool} (h : NumR s v b) (hn : numS s = some n) : b = true ∧ v = n := by
  rcases h with ⟨h1, h2⟩ | ⟨_, _, h2⟩
  · rw [h2] at hn; simp only [Option.some.injEq] at hn; exact ⟨h1, hn⟩
  · rw [h2] at hn; simp at hn
theorem NumR.none {s : Str} {v : Int} {b : Bool} (h : NumR s v b) (hn : numS s = none) : b = false ∧ v = 0 := by
  rcases h with ⟨_, h2⟩ | ⟨h1, h2, _⟩
  · rw [h2] at hn; simp at hn
  · exact ⟨h1, h2⟩
theorem dig_lt : ∀ (l : Str), l.foldl digv 0 < 10 ^ l.length := by
  have key : ∀ (l : Str) (a : Nat), l.foldl digv a < (a + 1) * 10 ^ l.length := by
    intro l
    induction l with
    | nil => intro a; simp
    | cons c r ih =>
      intro a
      rw [List.foldl_cons, List.length_cons]
      refine Nat.lt_of_lt_of_le (ih (digv a c)) ?_
      rw [Nat.pow_succ, Nat.mul_comm (10 ^ r.length) 10, ← Nat.mul_assoc]
      refine Nat.mul_le_mul_right _ ?_
      unfold digv
      split <;> omega
  intro l
  have := key l 0
  simpa using this
set_option maxHeartbeats 2000000 in
theorem number15_ok (R : Ans) (h37 : ∀ n, FI n → R.v 37 [.int .i64 n] (mkS (itoa n))) (s : Str) (hs : SL s) (v : Int) (b : Bool) (hvb : NumR s v b) : AnsF R c15 [mkS s] (.tup [.int .i64 v, .bool b]) := by
  unfold SL at hs
  refine wpF_sound ⟨rfl, by decide⟩ fun O hO V hV => ?_
  subst hV
  conv => cbv
  rintro (_ | _) h1
  · replace h1 := f_gtr hO h1
    rw [o_slen hO] at h1
    have h11 : s.length ≤ 11 := by omega
    conv => cbv
    refine loop_of (fun c d => ∃ (i a : Int) (k : Nat), d = ⟨[(0, mkS s), (4, .int .i64 a), (5, .int .i64 i)], [], false⟩ ∧ i = k ∧ k ≤ s.length ∧ c = s.length - k ∧ a = ((s.take k).foldl digv 0 : Nat)) ⟨_, _, ⟨_, _, 0, rfl, rfl, by omega, rfl, by simp⟩, ⟨⟨rfl, rfl, rfl, trivial⟩, trivial, rfl⟩⟩ ?_
    rintro J up c d ⟨i, a, k, rfl, hi, hk, rfl, ha⟩
    have hbound : (s.take k).foldl digv 0 < 100000000000 := by
      have h2 := dig_lt (s.take k)
      have h3 : (10 : Nat) ^ (s.take k).length ≤ 10 ^ 11 := Nat.pow_le_pow_right (by decide) (by simp; omega)
      have : (10 : Nat) ^ 11 = 100000000000 := by decide
      omega
    conv => cbv
    rintro (_ | _) h2
    · replace h2 := f_lss hO h2
      rw [o_slen hO] at h2
      have hk2 : s.take k = s := List.take_of_length_le (by omega)
      rw [hk2] at ha hbound
      have fin : ∀ n : Int, n = valS s → (∀ g : Int, g = n → FI g) ∧ (itoa n ≠ s → NumR s 0 false) ∧ (n < least → NumR s 0 false) ∧ (most < n → NumR s 0 false) ∧ (itoa n = s → least ≤ n → n ≤ most → NumR s n true) := by
        intro n hn
        subst hn
        have hb : -100000000000 < valS s ∧ valS s < 100000000000 := by unfold valS dig; split <;> omega
        refine ⟨fun g hg => by unfold FI; omega, fun h => .inr ⟨rfl, rfl, ?_⟩, fun h => .inr ⟨rfl, rfl, ?_⟩, fun h => .inr ⟨rfl, rfl, ?_⟩, fun h3 h4 h5 => .inl ⟨rfl, ?_⟩⟩
        · unfold numS; rw [if_neg (fun hc => h hc.1)]
        · unfold numS; rw [if_neg (fun hc => by omega)]
        · unfold numS; rw [if_neg (fun hc => by omega)]
        · unfold numS; rw [if_pos ⟨h3, h4, h5⟩]
      have same : ∀ v' b', NumR s v' b' → v = v' ∧ b = b' := by
        intro v' b' h
        rcases h with ⟨h4, h5⟩ | ⟨h4, h5, h6⟩
        · obtain ⟨h7, h8⟩ := hvb.of h5; exact ⟨h8, by rw [h7, h4]⟩
        · obtain ⟨h7, h8⟩ := hvb.none h6; exact ⟨by rw [h8, h5], by rw [h7, h4]⟩
      conv => cbv
      have br : ∀ x : Int, x = valS s → ∃ z : Str, V.v 37 [.int .i64 x] (.str ⟨⟨z⟩⟩) ∧ z = itoa x := fun x hx => ⟨_, h37 x ((fin x hx).1 x rfl), rfl⟩
      rintro (_ | _) h3
      · replace h3 := f_gtr hO h3
        rw [o_slen hO] at h3
        conv => cbv
        have hs0 : s = [] := List.length_eq_zero_iff.1 (by omega)
        obtain ⟨n, hn⟩ : ∃ n : Int, n = a := ⟨_, rfl⟩
        have hnv : n = valS s := by rw [hn, ha, hs0]; rfl
        rw [← hn]
        clear hn
        obtain ⟨z, hz, hzi⟩ := br n hnv
        obtain ⟨_, f1, f2, f3, f4⟩ := fin n hnv
        refine ⟨_, hz, ?_⟩
        conv => cbv
        rintro (_ | _) h5
        · replace h5 : z = s := f_sneq hO h5
          conv => cbv
          rintro (_ | _) h6
          · replace h6 := f_lss hO h6
            conv => cbv
            rintro (_ | _) h7
            · replace h7 := f_gtr hO h7
              conv => cbv
              obtain ⟨e1, e2⟩ := same _ _ (f4 (by rw [← hzi]; exact h5) (by unfold least; omega) (by unfold most; omega))
              rw [e1, e2]
            · replace h7 := t_gtr hO h7
              conv => cbv
              obtain ⟨e1, e2⟩ := same _ _ (f3 (by unfold most; omega))
              rw [e1, e2]
          · replace h6 := t_lss hO h6
            conv => cbv
            obtain ⟨e1, e2⟩ := same _ _ (f2 (by unfold least; omega))
            rw [e1, e2]
        · replace h5 : z ≠ s := t_sneq hO h5
          conv => cbv
          obtain ⟨e1, e2⟩ := same _ _ (f1 (by rw [← hzi]; exact h5))
          rw [e1, e2]
      · replace h3 := t_gtr hO h3
        rw [o_slen hO] at h3
        conv => cbv
        obtain ⟨c0, hc0⟩ : ∃ c, s[0]? = some c := ⟨_, List.getElem?_eq_getElem (by omega)⟩
        obtain ⟨u, hu⟩ : ∃ u : Int, u = O .u8 c0 := ⟨_, rfl⟩
        have hu2 := hu
        rw [o_u8 hO] at hu2
        refine ⟨c0, ⟨by decide⟩, hc0, ?_⟩
        rw [← hu]
        conv => cbv
        rintro (_ | _) h4
        · replace h4 := f_eql hO h4
          conv => cbv
          obtain ⟨n, hn⟩ : ∃ n : Int, n = a := ⟨_, rfl⟩
          have hnv : n = valS s := by
            unfold valS
            rw [hc0, if_neg (fun e => by simp only [Option.some.injEq] at e; subst e; exact h4 hu2), hn, ha]
            rfl
          rw [← hn]
          clear hn
          obtain ⟨z, hz, hzi⟩ := br n hnv
          obtain ⟨_, f1, f2, f3, f4⟩ := fin n hnv
          refine ⟨_, hz, ?_⟩
          conv => cbv
          rintro (_ | _) h5
          · replace h5 : z = s := f_sneq hO h5
            conv => cbv
            rintro (_ | _) h6
            · replace h6 := f_lss hO h6
              conv => cbv
              rintro (_ | _) h7
              · replace h7 := f_gtr hO h7
                conv => cbv
                obtain ⟨e1, e2⟩ := same _ _ (f4 (by rw [← hzi]; exact h5) (by unfold least; omega) (by unfold most; omega))
                rw [e1, e2]
              · replace h7 := t_gtr hO h7
                conv => cbv
                obtain ⟨e1, e2⟩ := same _ _ (f3 (by unfold most; omega))
                rw [e1, e2]
            · replace h6 := t_lss hO h6
              conv => cbv
              obtain ⟨e1, e2⟩ := same _ _ (f2 (by unfold least; omega))
              rw [e1, e2]
          · replace h5 : z ≠ s := t_sneq hO h5
            conv => cbv
            obtain ⟨e1, e2⟩ := same _ _ (f1 (by rw [← hzi]; exact h5))
            rw [e1, e2]
        · replace h4 := t_eql hO h4
          have hneg : O .neg .neg .i64 a = -a := by rw [o_neg hO, wrap_i64 (by omega) (by omega)]; omega
          conv => cbv
          rw [hneg]
          obtain ⟨n, hn⟩ : ∃ n : Int, n = -a := ⟨_, rfl⟩
          have hnv : n = valS s := by
            unfold valS
            have : c0 = 45 := by
              apply UInt8.toNat_inj.1
              have : (45 : UInt8).toNat = 45 := by decide
              omega
            rw [hc0, if_pos (by rw [this]), hn, ha]
            rfl
          rw [← hn]
          clear hn
          obtain ⟨z, hz, hzi⟩ := br n hnv
          obtain ⟨_, f1, f2, f3, f4⟩ := fin n hnv
          refine ⟨_, hz, ?_⟩
          conv => cbv
          rintro (_ | _) h5
          · replace h5 : z = s := f_sneq hO h5
            conv => cbv
            rintro (_ | _) h6
            · replace h6 := f_lss hO h6
              conv => cbv
              rintro (_ | _) h7
              · replace h7 := f_gtr hO h7
                conv => cbv
                obtain ⟨e1, e2⟩ := same _ _ (f4 (by rw [← hzi]; exact h5) (by unfold least; omega) (by unfold most; omega))
                rw [e1, e2]
              · replace h7 := t_gtr hO h7
                conv => cbv
                obtain ⟨e1, e2⟩ := same _ _ (f3 (by unfold most; omega))
                rw [e1, e2]
            · replace h6 := t_lss hO h6
              conv => cbv
              obtain ⟨e1, e2⟩ := same _ _ (f2 (by unfold least; omega))
              rw [e1, e2]
          · replace h5 : z ≠ s := t_sneq hO h5
            conv => cbv
            obtain ⟨e1, e2⟩ := same _ _ (f1 (by rw [← hzi]; exact h5))
            rw [e1, e2]
    · replace h2 := t_lss hO h2
      rw [o_slen hO] at h2
      conv => cbv
      obtain ⟨b', hb'⟩ : ∃ b', s[k]? = some b' := ⟨_, List.getElem?_eq_getElem (by omega)⟩
      obtain ⟨u, hu⟩ : ∃ u : Int, u = O .u8 b' := ⟨_, rfl⟩
      have hu2 := hu
      rw [o_u8 hO] at hu2
      have hstep : (s.take (k + 1)).foldl digv 0 = digv ((s.take k).foldl digv 0) b' := by
        rw [List.take_add_one, hb', List.foldl_append]
        rfl
      refine ⟨b', ⟨by omega⟩, by rw [hi]; exact hb', ?_⟩
      rw [← hu]
      conv => cbv
      rintro (_ | _) h3
      · replace h3 := f_geq hO h3
        conv => cbv
        refine ⟨_, _, up _ _ ⟨_, _, k + 1, rfl, ?_, by omega, rfl, ?_⟩, ⟨⟨rfl, rfl, rfl, trivial⟩, trivial, rfl⟩, by omega⟩
        · rw [o_add64 hO (by omega) (by omega)]; omega
        · rw [ha, hstep]; unfold digv; rw [if_neg (by omega)]
      · replace h3 := t_geq hO h3
        conv => cbv
        refine ⟨b', ⟨by omega⟩, by rw [hi]; exact hb', ?_⟩
        rw [← hu]
        conv => cbv
        rintro (_ | _) h4
        · replace h4 := f_leq hO h4
          conv => cbv
          refine ⟨_, _, up _ _ ⟨_, _, k + 1, rfl, ?_, by omega, rfl, ?_⟩, ⟨⟨rfl, rfl, rfl, trivial⟩, trivial, rfl⟩, by omega⟩
          · rw [o_add64 hO (by omega) (by omega)]; omega
          · rw [ha, hstep]; unfold digv; rw [if_neg (by omega)]
        · replace h4 := t_leq hO h4
          conv => cbv
          refine ⟨b', ⟨by omega⟩, by rw [hi]; exact hb', ?_⟩
          rw [← hu]
          conv => cbv
          refine ⟨_, _, up _ _ ⟨_, _, k + 1, rfl, ?_, by omega, rfl, ?_⟩, ⟨⟨rfl, rfl, rfl, trivial⟩, trivial, rfl⟩, by omega⟩
          · rw [o_add64 hO (by omega) (by omega)]; omega
          · rw [o_mul64 hO (by omega) (by omega), o_sub hO, wrap_u8 (by omega) (by omega), o_wrap hO, wrap_i64 (by omega) (by omega), o_add64 hO (by omega) (by omega), ha, hstep]
            unfold digv
            rw [if_pos (by omega)]
            omega
  · replace h1 := t_gtr hO h1
    rw [o_slen hO] at h1
    conv => cbv
    obtain ⟨h2, h3⟩ := hvb.none (numS_none_len (by omega))
    rw [h2, h3]
def ParseC (V : Ans) (f : Nat) : Prop := ∀ s : Str, SL s → ∃ (v : Int) (e : D), V.v f [mkS s, .int .i64 10, .int .i64 64] (.tup [.int .i64 v, e]) ∧ FI v ∧ ((e = .nili ∧ Lib.parseIntB 64 s = .ok v) ∨ (e = .opq ∧ ∀ n, Lib.parseIntB 64 s ≠ .ok n))
set_option maxHeartbeats 2000000 in
theorem number13_ok (R : Ans) (h35 : ParseC R 35) (h36 : ∀ n, FI n → R.v 36 [.int .i64 n, .int .i64 10] (mkS (itoa n))) (s : Str) (hs : SL s) (v : Int) (b : Bool) (hvb : NumR s v b) : AnsF R c13 [mkS s] (.tup [.int .i64 v, .bool b]) := by
  obtain ⟨x, e, hx, hfi, hcase⟩ := h35 s hs
  have same : ∀ v' b', NumR s v' b' → v = v' ∧ b = b' := by
    intro v' b' h
    rcases h with ⟨h4, h5⟩ | ⟨h4, h5, h6⟩
    · obtain ⟨h7, h8⟩ := hvb.of h5; exact ⟨h8, by rw [h7, h4]⟩
    · obtain ⟨h7, h8⟩ := hvb.none h6; exact ⟨by rw [h8, h5], by rw [h7, h4]⟩
  have none : (∀ n, NumP s n → False) → NumR s 0 false := fun h => .inr ⟨rfl, rfl, by
    cases hn : numS s with
    | none => rfl
    | some n => exact (h n (numS_iff.1 hn)).elim⟩
  refine wpF_sound ⟨rfl, by decide⟩ fun O hO V hV => ?_
  subst hV
  rcases hcase with ⟨rfl, hp⟩ | ⟨rfl, hp⟩
  · have only : ∀ n, NumP s n → n = x := by
      rintro n ⟨rfl, h1, h2⟩
      rw [parse_itoa h1 h2] at hp
      simpa using hp
    obtain ⟨z, hz, hzi⟩ : ∃ z : Str, V.v 36 [.int .i64 x, .int .i64 10] (.str ⟨⟨z⟩⟩) ∧ z = itoa x := ⟨_, h36 x hfi, rfl⟩
    conv => cbv
    refine ⟨_, hx, ?_⟩
    conv => cbv
    rintro (_ | _) h1
    · replace h1 := f_lss hO h1
      conv => cbv
      rintro (_ | _) h2
      · replace h2 := f_gtr hO h2
        conv => cbv
        refine ⟨_, hz, ?_⟩
        conv => cbv
        rintro (_ | _) h3
        · replace h3 : z = s := f_sneq hO h3
          conv => cbv
          obtain ⟨e1, e2⟩ := same x true (.inl ⟨rfl, numS_iff.2 ⟨by rw [← h3, hzi], by unfold least; omega, by unfold most; omega⟩⟩)
          rw [e1, e2]
        · replace h3 : z ≠ s := t_sneq hO h3
          conv => cbv
          obtain ⟨e1, e2⟩ := same _ _ (none fun n hn => h3 (by rw [hzi, ← only n hn]; exact hn.1.symm))
          rw [e1, e2]
      · replace h2 := t_gtr hO h2
        conv => cbv
        obtain ⟨e1, e2⟩ := same _ _ (none fun n hn => by have := only n hn; have := hn.2.2; unfold most at this; omega)
        rw [e1, e2]
    · replace h1 := t_lss hO h1
      conv => cbv
      obtain ⟨e1, e2⟩ := same _ _ (none fun n hn => by have := only n hn; have := hn.2.1; unfold least at this; omega)
      rw [e1, e2]
  · obtain ⟨e1, e2⟩ := same _ _ (none fun n hn => hp n (by obtain ⟨rfl, h1, h2⟩ := hn; exact parse_itoa h1 h2))
    conv => cbv
    refine ⟨_, hx, ?_⟩
    conv => cbv
    rw [e1, e2]
theorem value_split (s : Str) {v : Int} {b : Bool} (h : NumR s v b) : valueB s = (b || nameB s) := by
  rw [valueB_or]
  rcases h with ⟨h1, h2⟩ | ⟨h1, _, h2⟩ <;> rw [h1, h2] <;> simp
theorem value17_ok (R : Ans) (h16 : ∀ s, SL s → R.v 16 [mkS s] (.bool (nameB s))) (h15 : ∀ s, SL s → ∀ v b, NumR s v b → R.v 15 [mkS s] (.tup [.int .i64 v, .bool b])) (s : Str) (hs : SL s) : AnsF R c17 [mkS s] (.bool (valueB s)) := by
  obtain ⟨v, b, hvb⟩ := NumR.ex s
  have hv := value_split s hvb
  have k1 := h16 s hs
  have k2 := h15 s hs v b hvb
  obtain ⟨r, hr⟩ : ∃ r, r = valueB s := ⟨_, rfl⟩
  obtain ⟨q, hq⟩ : ∃ q, q = nameB s := ⟨_, rfl⟩
  rw [← hr, ← hq] at hv
  rw [← hq] at k1
  rw [← hr]
  clear hr hq hvb
  refine wpF_sound ⟨rfl, by decide⟩ fun O hO V hV => ?_
  subst hV
  conv => cbv
  refine ⟨_, k1, ?_⟩
  conv => cbv
  refine ⟨_, k2, ?_⟩
  subst hv
  cases q <;> cases b <;> (conv => cbv) <;> trivial
theorem value19_ok (R : Ans) (h18 : ∀ s, SL s → R.v 18 [mkS s] (.bool (nameB s))) (h13 : ∀ s, SL s → ∀ v b, NumR s v b → R.v 13 [mkS s] (.tup [.int .i64 v, .bool b])) (s : Str) (hs : SL s) : AnsF R c19 [mkS s] (.bool (valueB s)) := by
  obtain ⟨v, b, hvb⟩ := NumR.ex s
  have hv := value_split s hvb
  have k1 := h18 s hs
  have k2 := h13 s hs v b hvb
  obtain ⟨r, hr⟩ : ∃ r, r = valueB s := ⟨_, rfl⟩
  obtain ⟨q, hq⟩ : ∃ q, q = nameB s := ⟨_, rfl⟩
  rw [← hr, ← hq] at hv
  rw [← hq] at k1
  rw [← hr]
  clear hr hq hvb
  refine wpF_sound ⟨rfl, by decide⟩ fun O hO V hV => ?_
  subst hV
  conv => cbv
  refine ⟨_, k2, ?_⟩
  subst hv
  cases b
  · conv => cbv
    refine ⟨_, k1, ?_⟩
    conv => cbv
    trivial
  · conv => cbv
    trivial
end Go.Proofs.AM
namespace Go.Proofs.AM
open Go Go.Lib Cd
theorem seen_S (z : Str) : ∀ (S : List Str), seenIn (mkS z) (S.map mkS) = some (decide (z ∈ S))
  | [] => rfl
  | x :: r => by
    have ih := seen_S z r
    have hb : (({ data := { toList := z } } : ByteArray) == { data := { toList := x } }) = decide (z = x) := by
      show (({ toList := z } : Array UInt8) == { toList := x }) = _
      rw [Bool.eq_iff_iff]
      simp
    have hd : dynEq (mkS z) (mkS x) = some (decide (z = x)) := by
      show some (_ == _) = _
      rw [hb]
    simp only [List.map_cons, seenIn, hd, Option.bind_some, ih]
    by_cases h : z = x <;> simp [h]
theorem lookDyn_ent (z : Str) : ∀ (K : List Str), z ∈ K → lookDyn (mkS z) (K.map ent) = some (some (.bool true))
  | [], h => by simp at h
  | x :: r, h => by
    have hb : (({ data := { toList := z } } : ByteArray) == { data := { toList := x } }) = decide (z = x) := by
      show (({ toList := z } : Array UInt8) == { toList := x }) = _
      rw [Bool.eq_iff_iff]
      simp
    have hd : dynEq (mkS z) (mkS x) = some (decide (z = x)) := by
      show some (_ == _) = _
      rw [hb]
    simp only [List.map_cons, ent, lookDyn, hd, Option.bind_some]
    by_cases e : z = x
    · simp [e]
    · have hm : z ∈ r := by
        rcases List.mem_cons.1 h with h | h
        · exact absurd h e
        · exact h
      simp only [e, decide_false, Bool.false_eq_true, if_false]
      exact lookDyn_ent z r hm
def NumsR (lo hi : Int) (K : List Str) (S : SetV) (b : Bool) : Prop := (b = true ∧ numbersS lo hi K = some S) ∨ (b = false ∧ numbersS lo hi K = none)
theorem upTo_get (lo : Int) : ∀ (n : Nat), upTo lo (n + 1) = upTo lo n ++ [itoa (lo + n)]
  | 0 => by simp [upTo]
  | n + 1 => by
    rw [show upTo lo (n + 1 + 1) = itoa lo :: upTo (lo + 1) (n + 1) from rfl, upTo_get (lo + 1) n]
    simp only [upTo, List.cons_append]
    rw [show lo + 1 + (n : Int) = lo + ((n + 1 : Nat) : Int) by omega]
def accN (lo : Int) (K : List Str) (j : Nat) : List Str := ((upTo lo j).filter fun s => decide (s ∉ K)).foldl insS []
theorem accN_step {lo : Int} {K : List Str} {j : Nat} {z : Str} (hz : z = itoa (lo + j)) : accN lo K (j + 1) = if z ∈ K then accN lo K j else insS (accN lo K j) z := by
  unfold accN
  rw [upTo_get, List.filter_append, List.foldl_append, ← hz]
  by_cases h : z ∈ K <;> simp [h]
theorem accN_mem {lo hi : Int} {K : List Str} {z : Str} : z ∈ accN lo K (hi + 1 - lo).toNat ↔ z ∈ listN lo hi K := by
  have := (ins_aux ((upTo lo (hi + 1 - lo).toNat).filter fun s => decide (s ∉ K)) [] List.nodup_nil).2.1 z
  unfold accN listN
  simpa using this
theorem accN_nodup (lo : Int) (K : List Str) (j : Nat) : (accN lo K j).Nodup := (ins_aux _ [] List.nodup_nil).1
theorem upTo_len (lo : Int) : ∀ n, (upTo lo n).length = n
  | 0 => rfl
  | n + 1 => by simp [upTo, upTo_len (lo + 1) n]
theorem accN_len (lo : Int) (K : List Str) (j : Nat) : (accN lo K j).length ≤ j := by
  have h1 := (ins_aux ((upTo lo j).filter fun s => decide (s ∉ K)) [] List.nodup_nil).2.2
  have h2 := List.length_filter_le (fun s => decide (s ∉ K)) (upTo lo j)
  rw [upTo_len] at h2
  unfold accN
  simp only [List.length_nil, Nat.add_zero] at h1
  omega
theorem listN_congr {lo hi : Int} {K K' : List Str} (h : ∀ z, z ∈ K ↔ z ∈ K') : listN lo hi K = listN lo hi K' := by
  unfold listN
  congr 1
  funext s
  simp [h s]
theorem upS_ge {hi : Int} {K : List Str} : ∀ (n : Nat) (lo : Int), (hi + 1 - lo).toNat ≤ n → lo ≤ upS hi K lo ∧ (lo ≤ hi + 1 → upS hi K lo ≤ hi + 1) ∧ (hi < lo → upS hi K lo = lo) := by
  intro n
  induction n with
  | zero => intro lo h; rw [upS_stop (fun h' => by omega)]; omega
  | succ n ih =>
    intro lo h
    by_cases hc : lo ≤ hi ∧ itoa lo ∈ K
    · rw [upS_step hc]; have := ih (lo + 1) (by omega); omega
    · rw [upS_stop hc]; omega
theorem dnS_le {lo : Int} {K : List Str} : ∀ (n : Nat) (hi : Int), (hi + 1 - lo).toNat ≤ n → dnS lo K hi ≤ hi ∧ (lo - 1 ≤ hi → lo - 1 ≤ dnS lo K hi) ∧ (hi < lo → dnS lo K hi = hi) := by
  intro n
  induction n with
  | zero => intro hi h; rw [dnS_stop (fun h' => by omega)]; omega
  | succ n ih =>
    intro hi h
    by_cases hc : lo ≤ hi ∧ itoa hi ∈ K
    · rw [dnS_step hc]; have := ih (hi - 1) (by omega); omega
    · rw [dnS_stop hc]; omega
theorem itoa_SL {n : Int} (h : FI n) : SL (itoa n) := by
  unfold FI at h
  have := decDigits_le 18 n.natAbs (by have : (10 : Nat) ^ (18 + 1) = 10000000000000000000 := by decide
                                       omega)
  unfold SL
  by_cases h : n < 0
  · rw [itoa_neg' h]; simp; omega
  · rw [itoa_pos' (by omega)]; omega
theorem upTo_SL {lo : Int} : ∀ {j : Nat}, (∀ i : Nat, i < j → FI (lo + i)) → ∀ s ∈ upTo lo j, SL s
  | 0, _, s, hs => by simp [upTo] at hs
  | j + 1, h, s, hs => by
    rw [upTo_get, List.mem_append] at hs
    rcases hs with hs | hs
    · exact upTo_SL (fun i hi => h i (by omega)) s hs
    · simp only [List.mem_singleton] at hs
      subst hs
      exact itoa_SL (h j (by omega))
theorem accN_SL {lo : Int} {K : List Str} {j : Nat} (h : ∀ i : Nat, i < j → FI (lo + i)) : ∀ s ∈ accN lo K j, SL s := by
  intro s hs
  have hm := ((ins_aux ((upTo lo j).filter fun s => decide (s ∉ K)) [] List.nodup_nil).2.1 s).1 hs
  simp only [List.not_mem_nil, or_false, List.mem_filter] at hm
  exact upTo_SL h s hm.1
theorem left_SL {lo hi : Int} {K K2 : List Str} (h : ∀ z, z ∈ K2 ↔ z ∈ K ∧ inR lo hi z = true) : ∀ s ∈ K2, SL s := fun s hs => by
  obtain ⟨n, hn, _⟩ := inR_iff.1 ((h s).1 hs).2
  have := numS_len hn
  unfold SL
  omega
theorem left_vals {lo hi : Int} {K K2 : List Str} (h2 : K2.Nodup) (h : ∀ z, z ∈ K2 ↔ z ∈ K ∧ inR lo hi z = true) : risingS K2 = valsN lo hi K ∧ (valsN lo hi K).length = K2.length ∧ ∀ z, z ∈ K2 ↔ z ∈ valsN lo hi K := by
  have e : risingS K2 = valsN lo hi K := risingS_congr fun z => by rw [h z]; simp
  refine ⟨e, by rw [← e, risingS_len_eq h2], fun z => by rw [← e, risingS_mem]⟩
set_option maxRecDepth 100000 in
set_option maxHeartbeats 8000000 in
theorem numbers34_ok (R : Ans) (h13 : ∀ s, SL s → ∀ v b, NumR s v b → R.v 13 [mkS s] (.tup [.int .i64 v, .bool b])) (h36 : ∀ n, FI n → R.v 36 [.int .i64 n, .int .i64 10] (mkS (itoa n)))
    (h32 : ∀ K : List Str, K.Nodup → (∀ s ∈ K, SL s) → K.length ≤ 8796093022208 → R.v 32 [.mapv (K.map ent)] (.sl 1 false ((risingS K).map mkS))) (lo0 hi0 : Int) (hb1 : least ≤ lo0) (hb2 : lo0 ≤ most + 1) (hb3 : hi0 ≤ most) (hb4 : least - 1 ≤ hi0) (K : List Str) (hK : K = []) (hKl : K.length ≤ 8796093022208) (S : SetV) (b : Bool) (hS : NumsR lo0 hi0 K S b) : AnsF R c34 [.int .i64 lo0, .int .i64 hi0, .mapv (K.map ent)] (.tup [setD S, .bool b]) := by
  unfold least at hb1 hb4
  unfold most at hb2 hb3
  refine wpF_sound ⟨rfl, by decide⟩ fun O hO V hV => ?_
  subst hV
  obtain ⟨es, hes⟩ : ∃ es, es = K.map ent := ⟨_, rfl⟩
  rw [← hes]
  obtain ⟨r, hrr⟩ : ∃ r, r = D.tup [setD S, .bool b] := ⟨_, rfl⟩
  rw [← hrr]
  have hleq : O .len es = K.length := by rw [o_len hO, hes]; simp
  have look : ∀ z : Str, ∃ r, lookD kS (mkS z) es = some r ∧ ((z ∈ K ∧ r = some (.bool true)) ∨ (z ∉ K ∧ r = none)) := fun z => by
    rw [hes, look_ent]
    by_cases h : z ∈ K
    · exact ⟨_, rfl, .inl ⟨h, by simp [h]⟩⟩
    · exact ⟨_, rfl, .inr ⟨h, by simp [h]⟩⟩
  have fmt : ∀ x : Int, FI x → ∃ z : Str, V.v 36 [.int .i64 x, .int .i64 10] (.str ⟨⟨z⟩⟩) ∧ z = itoa x := fun x hx => ⟨_, h36 x hx, rfl⟩
  conv => cbv
  refine join_of (fun d => ∃ x : Int, d = ⟨[(0, .int .i64 x), (1, .int .i64 hi0), (2, .mapv es), (6, .ptr 6 1 0)], [(6, ⟨1, .rw, .var, [.bool false, .bool false, .bool false, .sl 1 true [], .int .i64 0, .int .i64 0]⟩)], false⟩ ∧ x = upS hi0 K lo0) (fun M upm => ?_) ?_
  · conv => cbv
    refine loop_of (fun n d => ∃ x : Int, d = ⟨[(0, .int .i64 x), (1, .int .i64 hi0), (2, .mapv es), (6, .ptr 6 1 0)], [(6, ⟨1, .rw, .var, [.bool false, .bool false, .bool false, .sl 1 true [], .int .i64 0, .int .i64 0]⟩)], false⟩ ∧ n = (hi0 + 1 - x).toNat ∧ (x ≤ hi0 + 1 ∨ x = lo0) ∧ lo0 ≤ x ∧ upS hi0 K x = upS hi0 K lo0) ⟨_, _, ⟨_, rfl, rfl, .inr rfl, Int.le_refl _, rfl⟩, ⟨⟨rfl, rfl, rfl, rfl, trivial⟩, ⟨rfl, trivial⟩, rfl⟩⟩ ?_
    rintro J up n d ⟨x, rfl, rfl, hx1, hx2, hx3⟩
    conv => cbv
    rintro (_ | _) h1
    · replace h1 := f_leq hO h1
      conv => cbv
      exact ⟨_, upm _ ⟨x, rfl, by rw [← hx3, upS_stop (fun h => by omega)]⟩, ⟨⟨rfl, rfl, rfl, rfl, trivial⟩, ⟨rfl, trivial⟩, rfl⟩⟩
    · replace h1 := t_leq hO h1
      conv => cbv
      obtain ⟨z, hz, hzi⟩ := fmt x (by unfold FI; omega)
      refine ⟨_, hz, ?_⟩
      conv => cbv
      obtain ⟨q, hq, hcase⟩ := look z
      refine ⟨q, hq, ?_⟩
      rcases hcase with ⟨hm, rfl⟩ | ⟨hm, rfl⟩
      · conv => cbv
        refine ⟨_, _, up _ _ ⟨_, rfl, rfl, ?_, ?_, ?_⟩, ⟨⟨rfl, rfl, rfl, rfl, trivial⟩, ⟨rfl, trivial⟩, rfl⟩, ?_⟩
        all_goals rw [o_add64 hO (by omega) (by omega)]
        · omega
        · omega
        · rw [← hx3, ← upS_step ⟨h1, by rw [← hzi]; exact hm⟩]
        · omega
      · conv => cbv
        exact ⟨_, upm _ ⟨x, rfl, by rw [← hx3, upS_stop (fun h => hm (by rw [hzi]; exact h.2))]⟩, ⟨⟨rfl, rfl, rfl, rfl, trivial⟩, ⟨rfl, trivial⟩, rfl⟩⟩
  rintro d ⟨x, rfl, hx⟩
  have hxb := upS_ge (hi := hi0) (K := K) _ lo0 (Nat.le_refl _)
  rw [← hx] at hxb
  conv => cbv
  refine join_of (fun d => ∃ y : Int, d = ⟨[(0, .int .i64 x), (1, .int .i64 y), (2, .mapv es), (6, .ptr 6 1 0)], [(6, ⟨1, .rw, .var, [.bool false, .bool false, .bool false, .sl 1 true [], .int .i64 0, .int .i64 0]⟩)], false⟩ ∧ y = dnS x K hi0) (fun M upm => ?_) ?_
  · conv => cbv
    refine loop_of (fun n d => ∃ y : Int, d = ⟨[(0, .int .i64 x), (1, .int .i64 y), (2, .mapv es), (6, .ptr 6 1 0)], [(6, ⟨1, .rw, .var, [.bool false, .bool false, .bool false, .sl 1 true [], .int .i64 0, .int .i64 0]⟩)], false⟩ ∧ n = (y + 1 - x).toNat ∧ (x - 1 ≤ y ∨ y = hi0) ∧ y ≤ hi0 ∧ dnS x K y = dnS x K hi0) ⟨_, _, ⟨_, rfl, rfl, .inr rfl, Int.le_refl _, rfl⟩, ⟨⟨rfl, rfl, rfl, rfl, trivial⟩, ⟨rfl, trivial⟩, rfl⟩⟩ ?_
    rintro J up n d ⟨y, rfl, rfl, hx1, hx2, hx3⟩
    conv => cbv
    rintro (_ | _) h1
    · replace h1 := f_leq hO h1
      conv => cbv
      exact ⟨_, upm _ ⟨y, rfl, by rw [← hx3, dnS_stop (fun h => by omega)]⟩, ⟨⟨rfl, rfl, rfl, rfl, trivial⟩, ⟨rfl, trivial⟩, rfl⟩⟩
    · replace h1 := t_leq hO h1
      conv => cbv
      obtain ⟨z, hz, hzi⟩ := fmt y (by unfold FI; omega)
      refine ⟨_, hz, ?_⟩
      conv => cbv
      obtain ⟨q, hq, hcase⟩ := look z
      refine ⟨q, hq, ?_⟩
      rcases hcase with ⟨hm, rfl⟩ | ⟨hm, rfl⟩
      · conv => cbv
        refine ⟨_, _, up _ _ ⟨_, rfl, rfl, ?_, ?_, ?_⟩, ⟨⟨rfl, rfl, rfl, rfl, trivial⟩, ⟨rfl, trivial⟩, rfl⟩, ?_⟩
        all_goals rw [o_sub64 hO (by omega) (by omega)]
        · omega
        · omega
        · rw [← hx3, ← dnS_step ⟨h1, by rw [← hzi]; exact hm⟩]
        · omega
      · conv => cbv
        exact ⟨_, upm _ ⟨y, rfl, by rw [← hx3, dnS_stop (fun h => hm (by rw [hzi]; exact h.2))]⟩, ⟨⟨rfl, rfl, rfl, rfl, trivial⟩, ⟨rfl, trivial⟩, rfl⟩⟩
  rintro d ⟨y, rfl, hy⟩
  have hyb := dnS_le (lo := x) (K := K) _ hi0 (Nat.le_refl _)
  rw [← hy] at hyb
  conv => cbv
  refine join_of (fun d => ∃ (K2 : List Str) (es2 : List D), d = ⟨[(0, .int .i64 x), (1, .int .i64 y), (2, .mapv es2), (6, .ptr 6 1 0)], [(6, ⟨1, .rw, .var, [.bool false, .bool false, .bool false, .sl 1 true [], .int .i64 0, .int .i64 0]⟩)], false⟩ ∧ es2 = K2.map ent ∧ K2.Nodup ∧ K2.length ≤ K.length ∧ ∀ z, z ∈ K2 ↔ z ∈ K ∧ inR x y z = true) (fun M upm => ?_) ?_
  · conv => cbv
    intro g37
    conv => cbv
    subst hK
    rw [List.map_nil] at hes
    refine loop_of (fun n d => n = 0 ∧ d = ⟨[(0, .int .i64 x), (1, .int .i64 y), (2, .mapv es), (6, .ptr 6 1 0), (37, .ptr 37 g37 0)], [(6, ⟨1, .rw, .var, [.bool false, .bool false, .bool false, .sl 1 true [], .int .i64 0, .int .i64 0]⟩), (37, ⟨g37, .rw, .iter, [.mapv es, .int .i64 0]⟩)], false⟩) ⟨_, _, ⟨rfl, rfl⟩, ⟨⟨rfl, rfl, rfl, rfl, rfl, trivial⟩, ⟨rfl, rfl, trivial⟩, rfl⟩⟩ ?_
    rintro J up n d ⟨rfl, rfl⟩
    conv => cbv
    refine ⟨fun w hw => by rw [hes] at hw; simp at hw, fun _ => ?_, fun k w hw => by rw [hes] at hw; simp at hw⟩
    conv => cbv
    exact ⟨_, upm _ ⟨[], es, rfl, hes, List.nodup_nil, Nat.le_refl _, fun z => by simp⟩, ⟨⟨rfl, rfl, rfl, rfl, trivial⟩, ⟨rfl, trivial⟩, rfl⟩⟩
  rintro d ⟨K2, es2, rfl, hes2, hnd, hlen2, hmem⟩
  obtain ⟨hv1, hv2, hv3⟩ := left_vals hnd hmem
  have hl2 : O .len es2 = K2.length := by rw [o_len hO, hes2]; simp
  have hc2 : CleanL es2 := cleanL_map clean_ent hes2
  have hans : numbersS lo0 hi0 K = numbersN x y K := by unfold numbersS; rw [← hx, ← hy]
  have hspan : O .iop .sub .i64 (O .iop .add .i64 (O .iop .sub .i64 y x) 1) (O .len es2) = y - x + 1 - K2.length := by
    have e1 : O .iop .sub .i64 y x = y - x := o_sub64 hO (by omega) (by omega)
    rw [e1, o_add64 hO (by omega) (by omega), hl2, o_sub64 hO (by omega) (by omega)]
  have look2 : ∀ z : Str, ∃ r, lookD kS (mkS z) es2 = some r ∧ ((z ∈ K2 ∧ r = some (.bool true)) ∨ (z ∉ K2 ∧ r = none)) := fun z => by
    rw [hes2, look_ent]
    by_cases h : z ∈ K2
    · exact ⟨_, rfl, .inl ⟨h, by simp [h]⟩⟩
    · exact ⟨_, rfl, .inr ⟨h, by simp [h]⟩⟩
  conv => cbv
  rintro (_ | _) h1
  · replace h1 := f_gtr hO h1
    rw [hspan] at h1
    conv => cbv
    intro g77
    conv => cbv
    refine loop_of (fun n d => ∃ (v : Int) (j : Nat) (ac : List D) (tk : Int), d = ⟨[(1, .int .i64 y), (2, .mapv es2), (6, .ptr 6 1 0), (11, .mapr 77 g77), (12, .int .i64 v)], [(6, ⟨1, .rw, .var, [.bool false, .bool false, .bool false, .sl 1 true [], .int .i64 0, .int .i64 0]⟩), (77, ⟨g77, .rw, .map, .int .i64 tk :: ac⟩)], false⟩ ∧ v = x + j ∧ (j = 0 ∨ v ≤ y + 1) ∧ n = (y + 1 - v).toNat ∧ ac = (accN x K2 j).map ent) ⟨_, _, ⟨x, 0, _, _, rfl, by omega, .inl rfl, rfl, rfl⟩, ⟨⟨rfl, rfl, rfl, rfl, rfl, trivial⟩, ⟨rfl, rfl, trivial⟩, rfl⟩⟩ ?_
    rintro J up n d ⟨v, j, ac, tk, rfl, hv, hvj, rfl, hac⟩
    conv => cbv
    rintro (_ | _) h2
    · replace h2 := f_leq hO h2
      conv => cbv
      have hj : accN x K2 j = accN x K2 (y + 1 - x).toNat := by
        rcases hvj with h | h
        · subst h; rw [show (y + 1 - x).toNat = 0 by omega]
        · rw [show (y + 1 - x).toNat = j by omega]
      have hcac : CleanL ac := cleanL_map clean_ent hac
      have hal := accN_len x K2 j
      have hr := h32 (accN x K2 j) (accN_nodup _ _ _) (accN_SL fun i hi => ⟨by omega, by omega⟩) (by omega)
      rw [← hac] at hr
      obtain ⟨rs, hrs⟩ : ∃ rs, rs = (risingS (accN x K2 j)).map mkS := ⟨_, rfl⟩
      have hcr : CleanL rs := cleanL_map clean_S hrs
      rw [← hrs] at hr
      have hfin : risingS (accN x K2 j) = risingS (listN x y (valsN x y K)) := by
        rw [hj, ← listN_congr hv3]
        exact risingS_congr fun z => accN_mem
      refine ⟨hcac, _, hr, ?_⟩
      conv => cbv
      have hN : numbersN x y K = some ⟨false, false, false, risingS (accN x K2 j), 0, 0⟩ := by unfold numbersN; rw [if_pos (by rw [hv2]; omega), hfin]
      refine ⟨hcr, ?_⟩
      conv => cbv
      rcases hS with ⟨rfl, hS⟩ | ⟨rfl, hS⟩
      · rw [hans, hN] at hS
        simp only [Option.some.injEq] at hS
        subst hS
        rw [hrr]
        simp only [setD, ]
        rw [← hrs]
      · rw [hans, hN] at hS
        simp at hS
    · replace h2 := t_leq hO h2
      conv => cbv
      obtain ⟨z, hz, hzi⟩ := fmt v (by unfold FI; omega)
      refine ⟨_, hz, ?_⟩
      conv => cbv
      obtain ⟨q, hq, hcase⟩ := look2 z
      have hadd : O .iop .add .i64 v 1 = v + 1 := o_add64 hO (by omega) (by omega)
      have hst := accN_step (lo := x) (K := K2) (j := j) (z := z) (by rw [hzi, hv])
      refine ⟨q, hq, ?_⟩
      rcases hcase with ⟨hm, rfl⟩ | ⟨hm, rfl⟩
      · conv => cbv
        rw [hadd]
        refine ⟨_, _, up _ _ ⟨v + 1, j + 1, ac, tk, rfl, by omega, .inr (by omega), rfl, ?_⟩, ⟨⟨rfl, rfl, rfl, rfl, rfl, trivial⟩, ⟨rfl, rfl, trivial⟩, rfl⟩, by omega⟩
        rw [hac, hst, if_pos hm]
      · conv => cbv
        obtain ⟨ac3, hac3⟩ : ∃ ac3, ac3 = (insS (accN x K2 j) z).map ent := ⟨_, rfl⟩
        refine ⟨ac3, by rw [hac, hac3]; exact mput_ent _ _, fun c => ?_⟩
        conv => cbv
        rw [hadd]
        refine ⟨_, _, up _ _ ⟨v + 1, j + 1, ac3, c, rfl, by omega, .inr (by omega), rfl, ?_⟩, ⟨⟨rfl, rfl, rfl, rfl, rfl, trivial⟩, ⟨rfl, rfl, trivial⟩, rfl⟩, by omega⟩
        rw [hac3, hst, if_neg hm]
  · replace h1 := t_gtr hO h1
    rw [hspan] at h1
    conv => cbv
    have hr := h32 K2 hnd (left_SL hmem) (by omega)
    rw [← hes2] at hr
    obtain ⟨rs, hrs⟩ : ∃ rs, rs = (risingS K2).map mkS := ⟨_, rfl⟩
    have hcr : CleanL rs := cleanL_map clean_S hrs
    rw [← hrs] at hr
    refine ⟨hc2, _, hr, ?_⟩
    conv => cbv
    rintro (_ | _) h2
    · replace h2 := f_leq hO h2
      rw [hl2] at h2
      conv => cbv
      exfalso
      subst hK
      simp only [List.length_nil] at hlen2
      omega
    · replace h2 := t_leq hO h2
      rw [hl2] at h2
      conv => cbv
      have hN : numbersN x y K = some ⟨false, true, true, valsN x y K, x, y⟩ := by unfold numbersN; rw [if_neg (by rw [hv2]; omega), if_neg (by rw [hv2]; omega)]
      refine ⟨hcr, ?_⟩
      conv => cbv
      rcases hS with ⟨rfl, hS⟩ | ⟨rfl, hS⟩
      · rw [hans, hN] at hS
        simp only [Option.some.injEq] at hS
        subst hS
        rw [hrr]
        simp only [setD, ← hv1]
        rw [← hrs]
      · rw [hans, hN] at hS
        simp at hS
set_option maxRecDepth 100000 in
set_option maxHeartbeats 8000000 in
theorem numbers34_shared (R : Ans) (h13 : ∀ s, SL s → ∀ v b, NumR s v b → R.v 13 [mkS s] (.tup [.int .i64 v, .bool b])) (h36 : ∀ n, FI n → R.v 36 [.int .i64 n, .int .i64 10] (mkS (itoa n)))
    (h32 : ∀ K : List Str, K.Nodup → (∀ s ∈ K, SL s) → K.length ≤ 8796093022208 → R.v 32 [.mapv (K.map ent)] (.sl 1 false ((risingS K).map mkS))) (lo0 hi0 : Int) (hb1 : least ≤ lo0) (hb2 : lo0 ≤ most + 1) (hb3 : hi0 ≤ most) (hb4 : least - 1 ≤ hi0) (K : List Str) (hKn : K.Nodup) (hKs : ∀ s ∈ K, SL s) (hKl : K.length ≤ 8796093022208) (gm : Nat) (c0 : Int) : ∀ O : Ops, O = Ops.std → ∀ V : Ans, V = R → wpS O V 600 c34 [.int .i64 lo0, .int .i64 hi0, .mapr 308 gm] [(308, ⟨gm, .rw, .map, .int .i64 c0 :: K.map ent⟩)] (fun r _ => ∃ S b, r = .tup [setD S, .bool b] ∧ NumsR lo0 hi0 K S b) := by
  unfold least at hb1 hb4
  unfold most at hb2 hb3
  intro O hO V hV
  subst hV
  obtain ⟨es, hes⟩ : ∃ es, es = K.map ent := ⟨_, rfl⟩
  rw [← hes]
  have hleq : O .len es = K.length := by rw [o_len hO, hes]; simp
  have look : ∀ z : Str, ∃ r, lookD kS (mkS z) es = some r ∧ ((z ∈ K ∧ r = some (.bool true)) ∨ (z ∉ K ∧ r = none)) := fun z => by
    rw [hes, look_ent]
    by_cases h : z ∈ K
    · exact ⟨_, rfl, .inl ⟨h, by simp [h]⟩⟩
    · exact ⟨_, rfl, .inr ⟨h, by simp [h]⟩⟩
  have fmt : ∀ x : Int, FI x → ∃ z : Str, V.v 36 [.int .i64 x, .int .i64 10] (.str ⟨⟨z⟩⟩) ∧ z = itoa x := fun x hx => ⟨_, h36 x hx, rfl⟩
  conv => cbv
  intro g6
  conv => cbv
  refine join_of (fun d => ∃ x : Int, d = ⟨[(0, .int .i64 x), (1, .int .i64 hi0), (2, .mapr 308 gm), (6, .ptr 606 g6 0)], [(606, ⟨g6, .rw, .var, [.bool false, .bool false, .bool false, .sl 1 true [], .int .i64 0, .int .i64 0]⟩), (308, ⟨gm, .rw, .map, .int .i64 c0 :: es⟩)], false⟩ ∧ x = upS hi0 K lo0) (fun M upm => ?_) ?_
  · conv => cbv
    refine loop_of (fun n d => ∃ x : Int, d = ⟨[(0, .int .i64 x), (1, .int .i64 hi0), (2, .mapr 308 gm), (6, .ptr 606 g6 0)], [(606, ⟨g6, .rw, .var, [.bool false, .bool false, .bool false, .sl 1 true [], .int .i64 0, .int .i64 0]⟩), (308, ⟨gm, .rw, .map, .int .i64 c0 :: es⟩)], false⟩ ∧ n = (hi0 + 1 - x).toNat ∧ (x ≤ hi0 + 1 ∨ x = lo0) ∧ lo0 ≤ x ∧ upS hi0 K x = upS hi0 K lo0) ⟨_, _, ⟨_, rfl, rfl, .inr rfl, Int.le_refl _, rfl⟩, ⟨⟨rfl, rfl, rfl, rfl, trivial⟩, ⟨rfl, rfl, trivial⟩, rfl⟩⟩ ?_
    rintro J up n d ⟨x, rfl, rfl, hx1, hx2, hx3⟩
    conv => cbv
    rintro (_ | _) h1
    · replace h1 := f_leq hO h1
      conv => cbv
      exact ⟨_, upm _ ⟨x, rfl, by rw [← hx3, upS_stop (fun h => by omega)]⟩, ⟨⟨rfl, rfl, rfl, rfl, trivial⟩, ⟨rfl, rfl, trivial⟩, rfl⟩⟩
    · replace h1 := t_leq hO h1
      conv => cbv
      obtain ⟨z, hz, hzi⟩ := fmt x (by unfold FI; omega)
      refine ⟨_, hz, ?_⟩
      conv => cbv
      obtain ⟨q, hq, hcase⟩ := look z
      refine ⟨q, hq, ?_⟩
      rcases hcase with ⟨hm, rfl⟩ | ⟨hm, rfl⟩
      · conv => cbv
        refine ⟨_, _, up _ _ ⟨_, rfl, rfl, ?_, ?_, ?_⟩, ⟨⟨rfl, rfl, rfl, rfl, trivial⟩, ⟨rfl, rfl, trivial⟩, rfl⟩, ?_⟩
        all_goals rw [o_add64 hO (by omega) (by omega)]
        · omega
        · omega
        · rw [← hx3, ← upS_step ⟨h1, by rw [← hzi]; exact hm⟩]
        · omega
      · conv => cbv
        exact ⟨_, upm _ ⟨x, rfl, by rw [← hx3, upS_stop (fun h => hm (by rw [hzi]; exact h.2))]⟩, ⟨⟨rfl, rfl, rfl, rfl, trivial⟩, ⟨rfl, rfl, trivial⟩, rfl⟩⟩
  rintro d ⟨x, rfl, hx⟩
  have hxb := upS_ge (hi := hi0) (K := K) _ lo0 (Nat.le_refl _)
  rw [← hx] at hxb
  conv => cbv
  refine join_of (fun d => ∃ y : Int, d = ⟨[(0, .int .i64 x), (1, .int .i64 y), (2, .mapr 308 gm), (6, .ptr 606 g6 0)], [(606, ⟨g6, .rw, .var, [.bool false, .bool false, .bool false, .sl 1 true [], .int .i64 0, .int .i64 0]⟩), (308, ⟨gm, .rw, .map, .int .i64 c0 :: es⟩)], false⟩ ∧ y = dnS x K hi0) (fun M upm => ?_) ?_
  · conv => cbv
    refine loop_of (fun n d => ∃ y : Int, d = ⟨[(0, .int .i64 x), (1, .int .i64 y), (2, .mapr 308 gm), (6, .ptr 606 g6 0)], [(606, ⟨g6, .rw, .var, [.bool false, .bool false, .bool false, .sl 1 true [], .int .i64 0, .int .i64 0]⟩), (308, ⟨gm, .rw, .map, .int .i64 c0 :: es⟩)], false⟩ ∧ n = (y + 1 - x).toNat ∧ (x - 1 ≤ y ∨ y = hi0) ∧ y ≤ hi0 ∧ dnS x K y = dnS x K hi0) ⟨_, _, ⟨_, rfl, rfl, .inr rfl, Int.le_refl _, rfl⟩, ⟨⟨rfl, rfl, rfl, rfl, trivial⟩, ⟨rfl, rfl, trivial⟩, rfl⟩⟩ ?_
    rintro J up n d ⟨y, rfl, rfl, hx1, hx2, hx3⟩
    conv => cbv
    rintro (_ | _) h1
    · replace h1 := f_leq hO h1
      conv => cbv
      exact ⟨_, upm _ ⟨y, rfl, by rw [← hx3, dnS_stop (fun h => by omega)]⟩, ⟨⟨rfl, rfl, rfl, rfl, trivial⟩, ⟨rfl, rfl, trivial⟩, rfl⟩⟩
    · replace h1 := t_leq hO h1
      conv => cbv
      obtain ⟨z, hz, hzi⟩ := fmt y (by unfold FI; omega)
      refine ⟨_, hz, ?_⟩
      conv => cbv
      obtain ⟨q, hq, hcase⟩ := look z
      refine ⟨q, hq, ?_⟩
      rcases hcase with ⟨hm, rfl⟩ | ⟨hm, rfl⟩
      · conv => cbv
        refine ⟨_, _, up _ _ ⟨_, rfl, rfl, ?_, ?_, ?_⟩, ⟨⟨rfl, rfl, rfl, rfl, trivial⟩, ⟨rfl, rfl, trivial⟩, rfl⟩, ?_⟩
        all_goals rw [o_sub64 hO (by omega) (by omega)]
        · omega
        · omega
        · rw [← hx3, ← dnS_step ⟨h1, by rw [← hzi]; exact hm⟩]
        · omega
      · conv => cbv
        exact ⟨_, upm _ ⟨y, rfl, by rw [← hx3, dnS_stop (fun h => hm (by rw [hzi]; exact h.2))]⟩, ⟨⟨rfl, rfl, rfl, rfl, trivial⟩, ⟨rfl, rfl, trivial⟩, rfl⟩⟩
  rintro d ⟨y, rfl, hy⟩
  have hyb := dnS_le (lo := x) (K := K) _ hi0 (Nat.le_refl _)
  rw [← hy] at hyb
  conv => cbv
  refine join_of (fun d => ∃ (K2 : List Str) (es2 : List D), d = ⟨[(0, .int .i64 x), (1, .int .i64 y), (2, .mapr 308 gm), (6, .ptr 606 g6 0)], [(606, ⟨g6, .rw, .var, [.bool false, .bool false, .bool false, .sl 1 true [], .int .i64 0, .int .i64 0]⟩), (308, ⟨gm, .rw, .map, .int .i64 c0 :: es2⟩)], false⟩ ∧ es2 = K2.map ent ∧ K2.Nodup ∧ K2.length ≤ K.length ∧ ∀ z, z ∈ K2 ↔ z ∈ K ∧ inR x y z = true) (fun M upm => ?_) ?_
  · conv => cbv
    intro g37
    conv => cbv
    refine loop_of (fun n d => ∃ (K' S : List Str) (es' ks : List D), d = ⟨[(0, .int .i64 x), (1, .int .i64 y), (2, .mapr 308 gm), (6, .ptr 606 g6 0), (37, .ptr 637 g37 0)], [(606, ⟨g6, .rw, .var, [.bool false, .bool false, .bool false, .sl 1 true [], .int .i64 0, .int .i64 0]⟩), (308, ⟨gm, .rw, .map, .int .i64 c0 :: es'⟩), (637, ⟨g37, .rw, .iter, .mapr 308 gm :: .int .i64 c0 :: ks⟩)], false⟩ ∧ es' = K'.map ent ∧ ks = S.map mkS ∧ K'.Nodup ∧ (∀ z ∈ K', z ∈ K) ∧ K'.length ≤ K.length ∧ S.Nodup ∧ (∀ z ∈ S, z ∈ K) ∧ (∀ z ∈ K, z ∉ K' → inR x y z = false) ∧ (∀ z ∈ S, z ∈ K' → inR x y z = true) ∧ n = K.length - S.length) ⟨_, _, ⟨K, [], es, [], rfl, hes, rfl, hKn, fun _ h => h, Nat.le_refl _, List.nodup_nil, by simp, fun z h h' => absurd h h', by simp, rfl⟩, ⟨⟨rfl, rfl, rfl, rfl, rfl, trivial⟩, ⟨rfl, rfl, rfl, trivial⟩, rfl⟩⟩ ?_
    rintro J up n d ⟨K', S, es', ks, rfl, hes', hks, hK1, hK2, hK3, hS1, hS2, hK4, hS3, rfl⟩
    conv => cbv
    refine ⟨fun w hw => ?_, fun hall => ?_, fun k w hw hs => ?_⟩
    · rw [hes'] at hw
      obtain ⟨z, _, rfl⟩ := List.mem_map.1 hw
      exact ⟨mkS z, .bool true, decide (z ∈ S), rfl, by rw [hks]; exact seen_S z S⟩
    · conv => cbv
      refine ⟨_, upm _ ⟨K', es', rfl, hes', hK1, hK3, fun z => ⟨fun hz => ⟨hK2 z hz, ?_⟩, fun hz => ?_⟩⟩, ⟨⟨rfl, rfl, rfl, rfl, trivial⟩, ⟨rfl, rfl, trivial⟩, rfl⟩⟩
      · have h1 := hall (mkS z) (.bool true) (by rw [hes']; exact List.mem_map.2 ⟨z, hz, rfl⟩)
        rw [hks, seen_S] at h1
        exact hS3 z (by simpa using h1) hz
      · refine Classical.byContradiction fun hn => ?_
        have := hK4 z hz.1 hn
        rw [this] at hz
        simp at hz
    · have hw2 := hw
      rw [hes'] at hw2
      obtain ⟨z, hzK, he⟩ := List.mem_map.1 hw2
      simp only [ent, D.tup.injEq, List.cons.injEq, and_true] at he
      obtain ⟨rfl, rfl⟩ := he
      rw [hks, seen_S] at hs
      have hzS : z ∉ S := by simpa using hs
      obtain ⟨ks2, hks2'⟩ : ∃ ks2, ks2 = O .app ks [mkS z] := ⟨_, rfl⟩
      have hks2 : ks2 = (S ++ [z]).map mkS := by rw [hks2', o_app hO, hks]; simp
      have hS1' : (S ++ [z]).Nodup := by
        rw [List.nodup_append]
        refine ⟨hS1, by simp, fun a ha b hb => ?_⟩
        simp only [List.mem_singleton] at hb
        subst hb
        exact fun e => hzS (by rw [← e]; exact ha)
      have hS2' : ∀ w ∈ S ++ [z], w ∈ K := fun w hw => by
        rcases List.mem_append.1 hw with hw | hw
        · exact hS2 w hw
        · simp only [List.mem_singleton] at hw; subst hw; exact hK2 w hzK
      have hmeas : K.length - (S ++ [z]).length < K.length - S.length := by
        have := nodup_len hS1' hS2'
        simp at this ⊢
        omega
      obtain ⟨v, b, hvb⟩ := NumR.ex z
      have hv := h13 z (hKs z (hK2 z hzK)) v b hvb
      have hbad : (¬ ∃ n, numS z = some n ∧ x < n ∧ n < y) → inR x y z = false := fun h => by
        cases hi : inR x y z with
        | false => rfl
        | true => exact absurd (inR_iff.1 hi) h
      conv => cbv
      rw [← hks2']
      refine ⟨mkS z, .bool true, by rw [hks2]; simp, by rw [hes']; exact lookDyn_ent z K' hzK, ?_⟩
      conv => cbv
      refine ⟨_, hv, ?_⟩
      cases b with
      | false =>
        conv => cbv
        refine ⟨_, by rw [hes']; exact mdel_ent z K', ?_⟩
        obtain ⟨es3, hes3⟩ : ∃ es3, es3 = (K'.erase z).map ent := ⟨_, rfl⟩
        rw [← hes3]
        conv => cbv
        exact ⟨_, _, up _ _ ⟨K'.erase z, S ++ [z], es3, _, rfl, hes3, hks2, hK1.erase z, fun w hw => hK2 w (List.mem_of_mem_erase hw), Nat.le_trans List.length_erase_le hK3, hS1', hS2', fun w hw hn => (by
          by_cases e : w = z
          · subst e; exact hbad (fun ⟨n, hn, _⟩ => by have := (hvb.of hn).1; simp at this)
          · exact hK4 w hw fun h => hn ((List.mem_erase_of_ne e).2 h)), fun w hw hw2 => (by
          rcases List.mem_append.1 hw with hw | hw
          · exact hS3 w hw (List.mem_of_mem_erase hw2)
          · simp only [List.mem_singleton] at hw; subst hw; exact absurd hw2 (List.Nodup.not_mem_erase hK1)), rfl⟩, ⟨⟨rfl, rfl, rfl, rfl, rfl, trivial⟩, ⟨rfl, rfl, rfl, trivial⟩, rfl⟩, hmeas⟩
      | true =>
        have hnum : numS z = some v := by
          rcases hvb with ⟨_, h⟩ | ⟨h, _⟩
          · exact h
          · simp at h
        conv => cbv
        rintro (_ | _) h1
        · replace h1 := f_leq hO h1
          conv => cbv
          rintro (_ | _) h2
          · replace h2 := f_geq hO h2
            conv => cbv
            exact ⟨_, _, up _ _ ⟨K', S ++ [z], es', _, rfl, hes', hks2, hK1, hK2, hK3, hS1', hS2', hK4, fun w hw hw2 => (by
              rcases List.mem_append.1 hw with hw | hw
              · exact hS3 w hw hw2
              · simp only [List.mem_singleton] at hw; subst hw; exact inR_iff.2 ⟨v, hnum, h1, h2⟩), rfl⟩, ⟨⟨rfl, rfl, rfl, rfl, rfl, trivial⟩, ⟨rfl, rfl, rfl, trivial⟩, rfl⟩, hmeas⟩
          · replace h2 := t_geq hO h2
            conv => cbv
            refine ⟨_, by rw [hes']; exact mdel_ent z K', ?_⟩
            obtain ⟨es3, hes3⟩ : ∃ es3, es3 = (K'.erase z).map ent := ⟨_, rfl⟩
            rw [← hes3]
            conv => cbv
            exact ⟨_, _, up _ _ ⟨K'.erase z, S ++ [z], es3, _, rfl, hes3, hks2, hK1.erase z, fun w hw => hK2 w (List.mem_of_mem_erase hw), Nat.le_trans List.length_erase_le hK3, hS1', hS2', fun w hw hn => (by
              by_cases e : w = z
              · subst e; exact hbad (fun ⟨n, hn, h8, h9⟩ => by rw [hnum] at hn; simp only [Option.some.injEq] at hn; omega)
              · exact hK4 w hw fun h => hn ((List.mem_erase_of_ne e).2 h)), fun w hw hw2 => (by
              rcases List.mem_append.1 hw with hw | hw
              · exact hS3 w hw (List.mem_of_mem_erase hw2)
              · simp only [List.mem_singleton] at hw; subst hw; exact absurd hw2 (List.Nodup.not_mem_erase hK1)), rfl⟩, ⟨⟨rfl, rfl, rfl, rfl, rfl, trivial⟩, ⟨rfl, rfl, rfl, trivial⟩, rfl⟩, hmeas⟩
        · replace h1 := t_leq hO h1
          conv => cbv
          refine ⟨_, by rw [hes']; exact mdel_ent z K', ?_⟩
          obtain ⟨es3, hes3⟩ : ∃ es3, es3 = (K'.erase z).map ent := ⟨_, rfl⟩
          rw [← hes3]
          conv => cbv
          exact ⟨_, _, up _ _ ⟨K'.erase z, S ++ [z], es3, _, rfl, hes3, hks2, hK1.erase z, fun w hw => hK2 w (List.mem_of_mem_erase hw), Nat.le_trans List.length_erase_le hK3, hS1', hS2', fun w hw hn => (by
            by_cases e : w = z
            · subst e; exact hbad (fun ⟨n, hn, h8, h9⟩ => by rw [hnum] at hn; simp only [Option.some.injEq] at hn; omega)
            · exact hK4 w hw fun h => hn ((List.mem_erase_of_ne e).2 h)), fun w hw hw2 => (by
            rcases List.mem_append.1 hw with hw | hw
            · exact hS3 w hw (List.mem_of_mem_erase hw2)
            · simp only [List.mem_singleton] at hw; subst hw; exact absurd hw2 (List.Nodup.not_mem_erase hK1)), rfl⟩, ⟨⟨rfl, rfl, rfl, rfl, rfl, trivial⟩, ⟨rfl, rfl, rfl, trivial⟩, rfl⟩, hmeas⟩
  rintro d ⟨K2, es2, rfl, hes2, hnd, hlen2, hmem⟩
  obtain ⟨hv1, hv2, hv3⟩ := left_vals hnd hmem
  have hl2 : O .len es2 = K2.length := by rw [o_len hO, hes2]; simp
  have hc2 : CleanL es2 := cleanL_map clean_ent hes2
  have hans : numbersS lo0 hi0 K = numbersN x y K := by unfold numbersS; rw [← hx, ← hy]
  have hspan : O .iop .sub .i64 (O .iop .add .i64 (O .iop .sub .i64 y x) 1) (O .len es2) = y - x + 1 - K2.length := by
    have e1 : O .iop .sub .i64 y x = y - x := o_sub64 hO (by omega) (by omega)
    rw [e1, o_add64 hO (by omega) (by omega), hl2, o_sub64 hO (by omega) (by omega)]
  have look2 : ∀ z : Str, ∃ r, lookD kS (mkS z) es2 = some r ∧ ((z ∈ K2 ∧ r = some (.bool true)) ∨ (z ∉ K2 ∧ r = none)) := fun z => by
    rw [hes2, look_ent]
    by_cases h : z ∈ K2
    · exact ⟨_, rfl, .inl ⟨h, by simp [h]⟩⟩
    · exact ⟨_, rfl, .inr ⟨h, by simp [h]⟩⟩
  conv => cbv
  rintro (_ | _) h1
  · replace h1 := f_gtr hO h1
    rw [hspan] at h1
    conv => cbv
    intro g77
    conv => cbv
    refine loop_of (fun n d => ∃ (v : Int) (j : Nat) (ac : List D) (tk : Int), d = ⟨[(1, .int .i64 y), (2, .mapr 308 gm), (6, .ptr 606 g6 0), (11, .mapr 677 g77), (12, .int .i64 v)], [(606, ⟨g6, .rw, .var, [.bool false, .bool false, .bool false, .sl 1 true [], .int .i64 0, .int .i64 0]⟩), (308, ⟨gm, .rw, .map, .int .i64 c0 :: es2⟩), (677, ⟨g77, .rw, .map, .int .i64 tk :: ac⟩)], false⟩ ∧ v = x + j ∧ (j = 0 ∨ v ≤ y + 1) ∧ n = (y + 1 - v).toNat ∧ ac = (accN x K2 j).map ent) ⟨_, _, ⟨x, 0, _, _, rfl, by omega, .inl rfl, rfl, rfl⟩, ⟨⟨rfl, rfl, rfl, rfl, rfl, trivial⟩, ⟨rfl, rfl, rfl, trivial⟩, rfl⟩⟩ ?_
    rintro J up n d ⟨v, j, ac, tk, rfl, hv, hvj, rfl, hac⟩
    conv => cbv
    rintro (_ | _) h2
    · replace h2 := f_leq hO h2
      conv => cbv
      have hj : accN x K2 j = accN x K2 (y + 1 - x).toNat := by
        rcases hvj with h | h
        · subst h; rw [show (y + 1 - x).toNat = 0 by omega]
        · rw [show (y + 1 - x).toNat = j by omega]
      have hcac : CleanL ac := cleanL_map clean_ent hac
      have hal := accN_len x K2 j
      have hr := h32 (accN x K2 j) (accN_nodup _ _ _) (accN_SL fun i hi => ⟨by omega, by omega⟩) (by omega)
      rw [← hac] at hr
      obtain ⟨rs, hrs⟩ : ∃ rs, rs = (risingS (accN x K2 j)).map mkS := ⟨_, rfl⟩
      have hcr : CleanL rs := cleanL_map clean_S hrs
      rw [← hrs] at hr
      have hfin : risingS (accN x K2 j) = risingS (listN x y (valsN x y K)) := by
        rw [hj, ← listN_congr hv3]
        exact risingS_congr fun z => accN_mem
      refine ⟨hcac, _, hr, ?_⟩
      conv => cbv
      have hN : numbersN x y K = some ⟨false, false, false, risingS (accN x K2 j), 0, 0⟩ := by unfold numbersN; rw [if_pos (by rw [hv2]; omega), hfin]
      exact ⟨⟨false, false, false, risingS (accN x K2 j), 0, 0⟩, true, by rw [setD]; rw [hrs], .inl ⟨rfl, by rw [hans, hN]⟩⟩
    · replace h2 := t_leq hO h2
      conv => cbv
      obtain ⟨z, hz, hzi⟩ := fmt v (by unfold FI; omega)
      refine ⟨_, hz, ?_⟩
      conv => cbv
      obtain ⟨q, hq, hcase⟩ := look2 z
      have hadd : O .iop .add .i64 v 1 = v + 1 := o_add64 hO (by omega) (by omega)
      have hst := accN_step (lo := x) (K := K2) (j := j) (z := z) (by rw [hzi, hv])
      refine ⟨q, hq, ?_⟩
      rcases hcase with ⟨hm, rfl⟩ | ⟨hm, rfl⟩
      · conv => cbv
        rw [hadd]
        refine ⟨_, _, up _ _ ⟨v + 1, j + 1, ac, tk, rfl, by omega, .inr (by omega), rfl, ?_⟩, ⟨⟨rfl, rfl, rfl, rfl, rfl, trivial⟩, ⟨rfl, rfl, rfl, trivial⟩, rfl⟩, by omega⟩
        rw [hac, hst, if_pos hm]
      · conv => cbv
        obtain ⟨ac3, hac3⟩ : ∃ ac3, ac3 = (insS (accN x K2 j) z).map ent := ⟨_, rfl⟩
        refine ⟨ac3, by rw [hac, hac3]; exact mput_ent _ _, fun c => ?_⟩
        conv => cbv
        rw [hadd]
        refine ⟨_, _, up _ _ ⟨v + 1, j + 1, ac3, c, rfl, by omega, .inr (by omega), rfl, ?_⟩, ⟨⟨rfl, rfl, rfl, rfl, rfl, trivial⟩, ⟨rfl, rfl, rfl, trivial⟩, rfl⟩, by omega⟩
        rw [hac3, hst, if_neg hm]
  · replace h1 := t_gtr hO h1
    rw [hspan] at h1
    conv => cbv
    have hr := h32 K2 hnd (left_SL hmem) (by omega)
    rw [← hes2] at hr
    obtain ⟨rs, hrs⟩ : ∃ rs, rs = (risingS K2).map mkS := ⟨_, rfl⟩
    have hcr : CleanL rs := cleanL_map clean_S hrs
    rw [← hrs] at hr
    refine ⟨hc2, _, hr, ?_⟩
    conv => cbv
    rintro (_ | _) h2
    · replace h2 := f_leq hO h2
      rw [hl2] at h2
      conv => cbv
      have hN : numbersN x y K = none := by unfold numbersN; rw [if_neg (by rw [hv2]; omega), if_pos (by rw [hv2]; omega)]
      exact ⟨⟨false, true, true, valsN x y K, x, y⟩, false, by rw [setD]; rw [← hv1, hrs], .inr ⟨rfl, by rw [hans, hN]⟩⟩
    · replace h2 := t_leq hO h2
      rw [hl2] at h2
      conv => cbv
      have hN : numbersN x y K = some ⟨false, true, true, valsN x y K, x, y⟩ := by unfold numbersN; rw [if_neg (by rw [hv2]; omega), if_neg (by rw [hv2]; omega)]
      exact ⟨⟨false, true, true, valsN x y K, x, y⟩, true, by rw [setD]; rw [← hv1, hrs], .inl ⟨rfl, by rw [hans, hN]⟩⟩
end Go.Proofs.AM
namespace Go.Proofs.AM
open Go Go.Lib
theorem nameP_cons {c : UInt8} {r : Str} : NameP (c :: r) ↔ r.length ≤ 15 ∧ small c ∧ ∀ x ∈ r, okc x := by
  unfold NameP
  constructor
  · rintro ⟨h1, h2, h3⟩
    refine ⟨by simpa using h2, (h3 0 c rfl).2 rfl, fun x hx => ?_⟩
    obtain ⟨j, hj⟩ := List.getElem?_of_mem hx
    exact (h3 (j + 1) x (by simpa using hj)).1
  · rintro ⟨h1, h2, h3⟩
    refine ⟨by simp, by simpa using h1, fun i x hx => ?_⟩
    cases i with
    | zero => simp at hx; subst hx; exact ⟨.inl h2, fun _ => h2⟩
    | succ i => exact ⟨h3 x (List.mem_of_getElem? (by simpa using hx)), by simp⟩
theorem nameB_cons (c : UInt8) (r : Str) : nameB (c :: r) = (decide (r.length ≤ 15) && decide (small c) && r.all fun x => decide (okc x)) := by
  rw [Bool.eq_iff_iff]
  unfold nameB
  simp only [decide_eq_true_eq, Bool.and_eq_true, List.all_eq_true]
  rw [nameP_cons, and_assoc]
theorem itoa_d {n : Nat} (h : n < 10) : itoa (n : Int) = [UInt8.ofNat (48 + n)] := by
  rw [itoa_pos' (by omega), Int.natAbs_natCast, decDigits_small h]
theorem numS_d {n : Nat} (h : n < 10) : numS [UInt8.ofNat (48 + n)] = some (n : Int) := by
  rw [← itoa_d h]
  exact numS_itoa (by unfold least; omega) (by unfold most; omega)
theorem wrongE_ok {r : ReqV} (h1 : nameB r.key = true) (h2 : ¬ BadOp r) (h3 : r.l.length ≤ 8) (h4 : ∀ v ∈ r.l, valueB v = true) (h5 : r.l.Nodup) : wrongE r = 0 := by
  unfold wrongE
  rw [if_neg (by simp [h1]), if_neg h2, if_neg (by omega), if_neg (fun ⟨v, hv, e⟩ => by rw [h4 v hv] at e; simp at e), if_neg (by simpa using h5)]
theorem wrongE_op {r : ReqV} (h1 : nameB r.key = true) (h2 : BadOp r) : wrongE r = 30 := by
  unfold wrongE
  rw [if_neg (by simp [h1]), if_pos h2]
theorem numbersS_empty {lo hi : Int} : numbersS lo hi [] = if hi - lo + 1 ≤ 64 then some ⟨false, false, false, risingS (upTo lo (hi + 1 - lo).toNat), 0, 0⟩ else some ⟨false, true, true, [], lo, hi⟩ := by
  unfold numbersS
  rw [upS_stop (by simp), dnS_stop (by simp)]
  unfold numbersN
  have hv : valsN lo hi [] = [] := by simp [valsN, risingS]
  rw [hv]
  simp only [List.length_nil, Int.natCast_zero, Int.sub_zero]
  have hl : listN lo hi [] = upTo lo (hi + 1 - lo).toNat := by
    unfold listN
    rw [List.filter_eq_self.2 (by simp)]
  rw [hl]
  by_cases h : hi - lo + 1 ≤ 64
  · rw [if_pos (by omega), if_pos h]
  · rw [if_neg (by omega), if_neg (by omega), if_neg h]
theorem upTo_mem {lo : Int} {z : Str} : ∀ {n : Nat}, z ∈ upTo lo n ↔ ∃ i : Nat, i < n ∧ z = itoa (lo + i)
  | 0 => by simp [upTo]
  | n + 1 => by
    rw [upTo_get, List.mem_append, upTo_mem]
    constructor
    · rintro (⟨i, h, e⟩ | h)
      · exact ⟨i, by omega, e⟩
      · exact ⟨n, by omega, by simpa using h⟩
    · rintro ⟨i, h, e⟩
      by_cases hi : i < n
      · exact .inl ⟨i, hi, e⟩
      · have : i = n := by omega
        subst this
        exact .inr (by simpa using e)
theorem upTo_nodup (lo : Int) : ∀ n, (upTo lo n).Nodup
  | 0 => List.nodup_nil
  | n + 1 => by
    rw [upTo_get, List.nodup_append]
    refine ⟨upTo_nodup lo n, by simp, fun a ha b hb => ?_⟩
    simp only [List.mem_singleton] at hb
    obtain ⟨i, h, rfl⟩ := upTo_mem.1 ha
    subst hb
    intro e
    have := itoa_inj e
    omega
def zoneS : Str := [122, 111, 110, 101]
def genS : Str := [103, 101, 110]
def qZone : ReqV := ⟨zoneS, 1, [[98], [97]], 0⟩
def qAbove : ReqV := ⟨genS, 5, [], 3⟩
def qBelow : ReqV := ⟨genS, 6, [], 6⟩
def qNone : ReqV := ⟨zoneS, 1, [], 0⟩
def sAB : SetV := ⟨false, false, false, [[97], [98]], 0, 0⟩
def sAbove : SetV := ⟨false, true, true, [], 4, 2147483648⟩
def sBelow : SetV := ⟨false, true, true, [], -2147483648, 5⟩
def s45 : SetV := ⟨false, false, false, [[52], [53]], 0, 0⟩
theorem name_zone : nameB zoneS = true := by unfold zoneS; rw [nameB_cons]; decide
theorem name_gen : nameB genS = true := by unfold genS; rw [nameB_cons]; decide
theorem value_name {s : Str} (h : nameB s = true) : valueB s = true := by rw [valueB_or, h]; rfl
theorem wrong_zone : wrongE qZone = 0 := wrongE_ok name_zone (by decide) (by decide) (fun v hv => by
  simp only [qZone, List.mem_cons, List.not_mem_nil, or_false] at hv
  rcases hv with rfl | rfl <;> exact value_name (by rw [nameB_cons]; decide)) (by decide)
theorem wrong_above : wrongE qAbove = 0 := wrongE_ok name_gen (by decide) (by decide) (fun v hv => by simp [qAbove] at hv) (by decide)
theorem wrong_below : wrongE qBelow = 0 := wrongE_ok name_gen (by decide) (by decide) (fun v hv => by simp [qBelow] at hv) (by decide)
theorem wrong_none : wrongE qNone = 30 := wrongE_op name_zone (by decide)
theorem set_zone : ofSet qZone = sAB := by
  unfold ofSet
  rw [if_pos wrong_zone]
  unfold ofS
  rw [if_pos (by decide)]
  have : risingS qZone.l = [[97], [98]] := by decide
  rw [this]
  rfl
theorem set_above : ofSet qAbove = sAbove := by
  unfold ofSet
  rw [if_pos wrong_above]
  unfold ofS
  rw [if_neg (by decide), if_neg (by decide), if_neg (by decide), if_neg (by decide), if_pos (by decide), numbersS_empty, if_neg (by decide)]
  rfl
theorem set_below : ofSet qBelow = sBelow := by
  unfold ofSet
  rw [if_pos wrong_below]
  unfold ofS
  rw [if_neg (by decide), if_neg (by decide), if_neg (by decide), if_neg (by decide), if_neg (by decide), numbersS_empty, if_neg (by decide)]
  rfl
theorem set_none : ofSet qNone = zeroS := by
  unfold ofSet
  rw [if_neg (by rw [wrong_none]; decide)]
theorem ord_nil : OrdP [] := by unfold OrdP AdjP; simp
theorem check_above : CheckP sAbove := ⟨ord_nil, fun _ => rfl, fun h => by simp [sAbove] at h, fun _ => ⟨by decide, by decide, by decide, by decide, by simp [sAbove]⟩⟩
theorem check_below : CheckP sBelow := ⟨ord_nil, fun _ => rfl, fun h => by simp [sBelow] at h, fun _ => ⟨by decide, by decide, by decide, by decide, by simp [sBelow]⟩⟩
theorem upTo45 : risingS (upTo 4 2) = [[52], [53]] := by
  have h1 : itoa 4 = [52] := itoa_d (n := 4) (by decide)
  have h2 : itoa (4 + 1) = [53] := itoa_d (n := 5) (by decide)
  simp only [upTo, h1, h2]
  decide
theorem meet_live : meetS sAbove sBelow = (s45, 0) := by
  unfold meetS
  rw [if_neg (by rw [checkE_0 check_above]; simp), if_neg (by rw [checkE_0 check_below]; simp)]
  have : meetN sAbove sBelow = some s45 := by
    unfold meetN
    rw [if_neg (by decide), if_neg (by decide), if_neg (by decide), if_neg (by decide), if_neg (by decide)]
    have : risingS (sAbove.l ++ sBelow.l) = [] := rfl
    rw [this, numbersS_empty, if_pos (by decide)]
    have : (min sAbove.hi sBelow.hi + 1 - max sAbove.lo sBelow.lo).toNat = 2 := by decide
    rw [this]
    have : max sAbove.lo sBelow.lo = 4 := by decide
    rw [this, upTo45]
    rfl
  rw [this]
  rfl
theorem num_4 : numS [52] = some 4 := numS_d (n := 4) (by decide)
theorem has_4 : hasB sAbove [52] = true := by
  unfold hasB
  rw [checkE_0 check_above, valueB_or, num_4]
  unfold hasRaw
  rw [rangeB_some num_4]
  simp [sAbove]
theorem num_04 : numS [48, 52] = none := by
  cases h : numS [48, 52] with
  | none => rfl
  | some n =>
    obtain ⟨h1, _, _⟩ := numS_iff.1 h
    have h2 : valS [48, 52] = n := by rw [h1, valS_itoa]
    have h3 : valS [48, 52] = 4 := by decide
    have h4 : n = ((4 : Nat) : Int) := by omega
    rw [h4, itoa_d (by decide)] at h1
    exact absurd h1 (by decide)
theorem has_04 : hasB sAbove [48, 52] = false := by
  unfold hasB
  rw [valueB_or, num_04, nameB_cons]
  have : decide (small 48) = false := by decide
  rw [this]
  simp
theorem value_x1 : valueB [120, 45, 49] = true := value_name (by rw [nameB_cons]; decide)
theorem name_5 : nameB [53] = false := by rw [nameB_cons]; decide
theorem fl_small {l : List Str} (h1 : l.length ≤ 8) (h2 : ∀ s ∈ l, s.length ≤ 16) : FL l := ⟨by omega, fun s hs => by have := h2 s hs; unfold SL; omega⟩
theorem fr_zone : FR qZone := ⟨by unfold SL; decide, fl_small (by decide) (by decide), ⟨by decide, by decide⟩, ⟨by decide, by decide⟩⟩
theorem fr_above : FR qAbove := ⟨by unfold SL; decide, fl_small (by decide) (by decide), ⟨by decide, by decide⟩, ⟨by decide, by decide⟩⟩
theorem fr_below : FR qBelow := ⟨by unfold SL; decide, fl_small (by decide) (by decide), ⟨by decide, by decide⟩, ⟨by decide, by decide⟩⟩
theorem fr_none : FR qNone := ⟨by unfold SL; decide, fl_small (by decide) (by decide), ⟨by decide, by decide⟩, ⟨by decide, by decide⟩⟩
theorem fs_above : FS sAbove := ⟨fl_small (by decide) (by decide), ⟨by decide, by decide⟩, ⟨by decide, by decide⟩⟩
theorem fs_below : FS sBelow := ⟨fl_small (by decide) (by decide), ⟨by decide, by decide⟩, ⟨by decide, by decide⟩⟩
theorem fs_AB : FS sAB := ⟨fl_small (by decide) (by decide), ⟨by decide, by decide⟩, ⟨by decide, by decide⟩⟩
theorem fs_45 : FS s45 := ⟨fl_small (by decide) (by decide), ⟨by decide, by decide⟩, ⟨by decide, by decide⟩⟩
end Go.Proofs.AM
namespace Go.Proofs.AM
open Go Go.Lib Cd
structure C3 (R : Ans) : Prop where
  name18 : ∀ s, SL s → R.v 18 [mkS s] (.bool (nameB s))
  value19 : ∀ s, SL s → R.v 19 [mkS s] (.bool (valueB s))
  number13 : ∀ s, SL s → ∀ v b, NumR s v b → R.v 13 [mkS s] (.tup [.int .i64 v, .bool b])
  name16 : ∀ s, SL s → R.v 16 [mkS s] (.bool (nameB s))
  value17 : ∀ s, SL s → R.v 17 [mkS s] (.bool (valueB s))
  number15 : ∀ s, SL s → ∀ v b, NumR s v b → R.v 15 [mkS s] (.tup [.int .i64 v, .bool b])
  check22 : ∀ s, FS s → R.v 22 [setD s] (.int .i64 (checkE s))
  check23 : ∀ s, FS s → R.v 23 [setD s] (.int .i64 (checkE s))
  of12 : ∀ q, FR q → R.v 12 [reqD q] (.tup [setD (ofSet q), .int .i64 (wrongE q)])
  of20 : ∀ q, FR q → R.v 20 [reqD q] (.tup [setD (ofSet q), .int .i64 (wrongE q)])
  meet24 : ∀ a b, FS a → FS b → R.v 24 [setD a, setD b] (.tup [setD (meetS a b).1, .int .i64 (meetS a b).2])
  meet25 : ∀ a b, FS a → FS b → R.v 25 [setD a, setD b] (.tup [setD (meetS a b).1, .int .i64 (meetS a b).2])
  has26 : ∀ s x, FS s → SL x → R.v 26 [setD s, mkS x] (.bool (hasB s x))
  has28 : ∀ s x, FS s → SL x → R.v 28 [setD s, mkS x] (.bool (hasB s x))
  empty27 : ∀ s, FS s → R.v 27 [setD s] (.bool (emptyB s))
  empty29 : ∀ s, FS s → R.v 29 [setD s] (.bool (emptyB s))
  same30 : ∀ a b, FS a → FS b → R.v 30 [setD a, setD b] (.bool (decide (a = b)))
  same21 : ∀ a b, FS a → FS b → R.v 21 [setD a, setD b] (.bool (decide (a = b)))
  live14 : R.v 14 [] (.bool true)
theorem no_bb {b : Bool} (h : false = (b == b)) : False := by simp at h
theorem setD_eq (s : SetV) : ∃ xs, xs = s.l.map mkS ∧ CleanL xs ∧ setD s = .agg [.bool s.m, .bool s.n, .bool s.u, .sl 1 false xs, .int .i64 s.lo, .int .i64 s.hi] := ⟨_, rfl, cleanL_map clean_S rfl, rfl⟩
set_option maxRecDepth 100000 in
set_option maxHeartbeats 4000000 in
theorem texts4_ok (R : Ans) (h : C3 R) (s : Str) (hs : SL s) : AnsF R c4 [mkS s] (.bool true) := by
  obtain ⟨v, b, hv⟩ := NumR.ex s
  have k1 := h.number13 s hs v b hv
  have k2 := h.number15 s hs v b hv
  have k3 := h.name16 s hs
  have k4 := h.value17 s hs
  have k5 := h.name18 s hs
  have k6 := h.value19 s hs
  have k7 := h.live14
  obtain ⟨nb, hnb⟩ : ∃ x, x = nameB s := ⟨_, rfl⟩
  obtain ⟨vb, hvb⟩ : ∃ x, x = valueB s := ⟨_, rfl⟩
  rw [← hnb] at k3 k5
  rw [← hvb] at k4 k6
  clear h hv hnb hvb
  refine wpF_sound ⟨rfl, by decide⟩ fun O hO V hV => ?_
  subst hV
  conv => cbv
  refine ⟨_, k1, ?_⟩
  conv => cbv
  refine ⟨_, k2, ?_⟩
  conv => cbv
  refine ⟨_, k3, ?_⟩
  conv => cbv
  refine ⟨_, k4, ?_⟩
  conv => cbv
  refine ⟨_, k7, ?_⟩
  conv => cbv
  rintro (_ | _) h1
  · conv => cbv
    exfalso; exact f_eql hO h1 rfl
  conv => cbv
  rintro (_ | _) h2
  · conv => cbv
    exfalso; exact no_bb (b_eq hO h2)
  conv => cbv
  refine ⟨_, k5, ?_⟩
  conv => cbv
  rintro (_ | _) h3
  · conv => cbv
    exfalso; exact no_bb (b_eq hO h3)
  conv => cbv
  refine ⟨_, k6, ?_⟩
  conv => cbv
  rintro (_ | _) h4
  · conv => cbv
    exfalso; exact no_bb (b_eq hO h4)
  conv => cbv
  trivial
set_option maxRecDepth 100000 in
set_option maxHeartbeats 4000000 in
theorem checks6_ok (R : Ans) (h : C3 R) (s : SetV) (hs : FS s) : AnsF R c6 [setD s] (.bool true) := by
  have k1 := h.check22 s hs
  have k2 := h.check23 s hs
  have k7 := h.live14
  obtain ⟨e, he⟩ : ∃ x, x = checkE s := ⟨_, rfl⟩
  rw [← he] at k1 k2
  obtain ⟨xs, _, hcx, hsd⟩ := setD_eq s
  rw [hsd] at k1 k2 ⊢
  clear h he hsd
  refine wpF_sound ⟨rfl, by decide⟩ fun O hO V hV => ?_
  subst hV
  conv => cbv
  refine ⟨hcx, _, k1, ?_⟩
  conv => cbv
  refine ⟨_, k7, ?_⟩
  conv => cbv
  refine ⟨hcx, _, k2, ?_⟩
  conv => cbv
  rintro (_ | _) h1
  · conv => cbv
    exfalso; exact f_eql hO h1 rfl
  conv => cbv
  trivial
set_option maxRecDepth 100000 in
set_option maxHeartbeats 4000000 in
theorem asks11_ok (R : Ans) (h : C3 R) (a b : SetV) (v : Str) (ha : FS a) (hb : FS b) (hv : SL v) : AnsF R c11 [setD a, setD b, mkS v] (.bool true) := by
  have k1 := h.has28 a v ha hv
  have k2 := h.empty29 a ha
  have k3 := h.same21 a b ha hb
  have k4 := h.live14
  have k5 := h.has26 a v ha hv
  have k6 := h.empty27 a ha
  have k7 := h.same30 a b ha hb
  have k8 := h.same30 a a ha ha
  rw [decide_eq_true rfl] at k8
  obtain ⟨q, hq⟩ : ∃ x, x = hasB a v := ⟨_, rfl⟩
  obtain ⟨e, he⟩ : ∃ x, x = emptyB a := ⟨_, rfl⟩
  obtain ⟨t, ht⟩ : ∃ x, x = decide (a = b) := ⟨_, rfl⟩
  rw [← hq] at k1 k5
  rw [← he] at k2 k6
  rw [← ht] at k3 k7
  obtain ⟨xs, _, hcx, hsd⟩ := setD_eq a
  obtain ⟨ys, _, hcy, hsd'⟩ := setD_eq b
  rw [hsd] at k1 k2 k3 k5 k6 k7 k8 ⊢
  rw [hsd'] at k3 k7 ⊢
  clear h hq he ht hsd hsd'
  refine wpF_sound ⟨rfl, by decide⟩ fun O hO V hV => ?_
  subst hV
  conv => cbv
  refine ⟨hcx, _, k1, ?_⟩
  conv => cbv
  refine ⟨hcx, _, k2, ?_⟩
  conv => cbv
  refine ⟨hcx, hcy, _, k3, ?_⟩
  conv => cbv
  refine ⟨_, k4, ?_⟩
  conv => cbv
  refine ⟨hcx, _, k5, ?_⟩
  conv => cbv
  rintro (_ | _) h1
  · conv => cbv
    exfalso; exact no_bb (b_eq hO h1)
  conv => cbv
  refine ⟨hcx, _, k6, ?_⟩
  conv => cbv
  rintro (_ | _) h2
  · conv => cbv
    exfalso; exact no_bb (b_eq hO h2)
  conv => cbv
  refine ⟨hcx, hcy, _, k7, ?_⟩
  conv => cbv
  rintro (_ | _) h3
  · conv => cbv
    exfalso; exact no_bb (b_eq hO h3)
  conv => cbv
  refine ⟨hcx, hcx, _, k8, ?_⟩
  conv => cbv
  trivial
end Go.Proofs.AM
