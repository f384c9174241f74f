/- Part 10 of the lemmas: ZVVd, ZVVe, ZVVh, ZVVi, ZVVj, ZVVk, ZVVl, ZVVm, ZVVn, ZVVo, PVe, ZVVp. -/
import Derived.Test.YtococcgeoknmjaaGreatDoorM08
import Derived.Test.YtococcgeoknmjaaGreatDoorM09
namespace Go.Proofs.AM
open Go Go.Lib Cd
theorem in45_ok (R : Ans) (l : List Str) (hl : l.length < 4611686018427387904) (x : Str) : AnsF R c229 [.sl 1 false (l.map mkS), mkS x] (.bool (decide (x ∈ l))) := by
  obtain ⟨xs, hxs⟩ : ∃ xs, xs = l.map mkS := ⟨_, rfl⟩
  obtain ⟨r, hr⟩ : ∃ r, r = decide (x ∈ l) := ⟨_, rfl⟩
  rw [← hxs, ← hr]
  refine wpF_sound ⟨rfl, by decide⟩ fun O hO V hV => ?_
  have hlen : O .len xs = l.length := by rw [o_len hO, hxs]; simp
  conv => cbv
  refine loop_of (fun n d => ∃ (i : Int) (k : Nat), d = ⟨[(0, .sl 1 false xs), (1, mkS x), (5, .int .i64 i)], [], false⟩ ∧ i = k ∧ k ≤ l.length ∧ n = l.length - k ∧ ∀ j, j < k → l[j]? ≠ some x) ⟨_, _, ⟨_, 0, rfl, rfl, by omega, rfl, by simp⟩, ⟨⟨rfl, rfl, rfl, trivial⟩, trivial, rfl⟩⟩ ?_
  rintro J up n d ⟨i, k, rfl, hi, hk, rfl, hno⟩
  conv => cbv
  rintro (_ | _) h1
  · replace h1 := f_lss hO h1
    rw [hlen] at h1
    conv => cbv
    rw [hr]
    simp
    intro hm
    obtain ⟨j, hj⟩ := List.getElem?_of_mem hm
    exact hno j (by have := (List.getElem?_eq_some_iff.1 hj).1; omega) hj
  · replace h1 := t_lss hO h1
    rw [hlen] at h1
    obtain ⟨y, hy⟩ : ∃ y, l[k]? = some y := ⟨_, List.getElem?_eq_getElem (by omega)⟩
    conv => cbv
    refine ⟨mkS y, atX_map hy hxs hi, ?_⟩
    conv => cbv
    rintro (_ | _) h2
    · replace h2 : y ≠ x := f_seql hO h2
      conv => cbv
      refine ⟨_, _, up _ _ ⟨_, k + 1, rfl, ?_, by omega, rfl, ?_⟩, ⟨⟨rfl, rfl, rfl, trivial⟩, trivial, rfl⟩, by omega⟩
      · rw [o_add64 hO (by omega) (by omega)]; omega
      · intro j hj
        by_cases e : j = k
        · subst e; rw [hy]; simpa using h2
        · exact hno j (by omega)
    · replace h2 : y = x := t_seql hO h2
      conv => cbv
      rw [hr]
      subst h2
      simp [List.mem_of_getElem? hy]
theorem first_ix {x : Str} : ∀ {l : List Str}, x ∈ l → ∃ k : Nat, l[k]? = some x ∧ ∀ j, j < k → l[j]? ≠ some x
  | [], h => by simp at h
  | y :: r, h => by
    by_cases e : y = x
    · exact ⟨0, by simp [e], fun j hj => by omega⟩
    · have hm : x ∈ r := by
        rcases List.mem_cons.1 h with h | h
        · exact absurd h.symm e
        · exact h
      obtain ⟨k, h1, h2⟩ := first_ix hm
      refine ⟨k + 1, by simpa using h1, fun j hj => ?_⟩
      cases j with
      | zero => simpa using e
      | succ j => simpa using h2 j (by omega)
theorem index69_ok (R : Ans) (l : List Str) (hl : l.length < 4611686018427387904) (x : Str) : ∃ n : Int, AnsF R c234 [.sl 1 false (l.map mkS), mkS x] (.int .i64 n) ∧ (x ∈ l → 0 ≤ n) ∧ (x ∉ l → n = -1) := by
  obtain ⟨xs, hxs⟩ : ∃ xs, xs = l.map mkS := ⟨_, rfl⟩
  obtain ⟨r, hr⟩ : ∃ r : Int, (x ∉ l ∧ r = -1) ∨ ∃ k : Nat, r = k ∧ l[k]? = some x ∧ ∀ j, j < k → l[j]? ≠ some x := by
    by_cases hm : x ∈ l
    · obtain ⟨k, hk, hmin⟩ := first_ix hm
      exact ⟨k, .inr ⟨k, rfl, hk, hmin⟩⟩
    · exact ⟨-1, .inl ⟨hm, rfl⟩⟩
  refine ⟨r, ?_, ?_, ?_⟩
  · rw [← hxs]
    refine wpF_sound ⟨rfl, by decide⟩ fun O hO V hV => ?_
    have hlen : O .len xs = l.length := by rw [o_len hO, hxs]; simp
    conv => cbv
    refine loop_of (fun n d => ∃ (i : Int) (k : Nat), d = ⟨[(0, .sl 1 false xs), (1, mkS x), (7, .int .i64 (O .len xs)), (8, .int .i64 i)], [], false⟩ ∧ i = k ∧ k ≤ l.length ∧ n = l.length - k ∧ ∀ j, j < k → l[j]? ≠ some x) ⟨_, _, ⟨_, 0, rfl, rfl, by omega, rfl, by simp⟩, ⟨⟨rfl, rfl, rfl, rfl, trivial⟩, trivial, rfl⟩⟩ ?_
    rintro J up n d ⟨i, k, rfl, hi, hk, rfl, hno⟩
    conv => cbv
    rintro (_ | _) h1
    · replace h1 := f_lss hO h1
      rw [hlen] at h1
      rcases hr with ⟨_, rfl⟩ | ⟨j, _, hj, _⟩
      · conv => cbv
        trivial
      · exact absurd hj (hno j (by have := (List.getElem?_eq_some_iff.1 hj).1; omega))
    · replace h1 := t_lss hO h1
      rw [hlen] at h1
      obtain ⟨y, hy⟩ : ∃ y, l[k]? = some y := ⟨_, List.getElem?_eq_getElem (by omega)⟩
      conv => cbv
      refine ⟨mkS y, atX_map hy hxs hi, ?_⟩
      conv => cbv
      rintro (_ | _) h2
      · replace h2 : x ≠ y := f_seql hO h2
        conv => cbv
        refine ⟨_, _, up _ _ ⟨_, k + 1, rfl, ?_, by omega, rfl, ?_⟩, ⟨⟨rfl, rfl, rfl, rfl, trivial⟩, trivial, rfl⟩, by omega⟩
        · rw [o_add64 hO (by omega) (by omega)]; omega
        · intro j hj
          by_cases e : j = k
          · subst e; rw [hy]; simpa using Ne.symm h2
          · exact hno j (by omega)
      · replace h2 : x = y := t_seql hO h2
        conv => cbv
        subst h2
        rcases hr with ⟨hm, _⟩ | ⟨j, rfl, hj, hmin⟩
        · exact absurd (List.mem_of_getElem? hy) hm
        · have : j = k := by
            rcases Nat.lt_trichotomy j k with h | h | h
            · exact absurd hj (hno j h)
            · exact h
            · exact absurd hy (hmin k h)
          rw [hi, this]
  · intro hm
    rcases hr with ⟨h, _⟩ | ⟨k, rfl, _⟩
    · exact absurd hm h
    · omega
  · intro hm
    rcases hr with ⟨_, h⟩ | ⟨k, _, hk, _⟩
    · exact h
    · exact absurd (List.mem_of_getElem? hk) hm
theorem contains55_ok (R : Ans) (l : List Str) (x : Str) (h69 : ∃ n : Int, R.v 234 [.sl 1 false (l.map mkS), mkS x] (.int .i64 n) ∧ (x ∈ l → 0 ≤ n) ∧ (x ∉ l → n = -1)) : AnsF R c197 [.sl 1 false (l.map mkS), mkS x] (.bool (decide (x ∈ l))) := by
  obtain ⟨n, hn, h1, h2⟩ := h69
  have hc : CleanL (l.map mkS) := cleanL_map clean_S rfl
  obtain ⟨xs, hxs⟩ : ∃ xs, xs = l.map mkS := ⟨_, rfl⟩
  obtain ⟨r, hr⟩ : ∃ r, r = decide (x ∈ l) := ⟨_, rfl⟩
  rw [← hxs] at hn hc ⊢
  rw [← hr]
  refine wpF_sound ⟨rfl, by decide⟩ fun O hO V hV => ?_
  subst hV
  conv => cbv
  refine ⟨hc, _, hn, ?_⟩
  conv => cbv
  rintro (_ | _) h3
  · replace h3 := f_geq hO h3
    conv => cbv
    by_cases hm : x ∈ l
    · have := h1 hm; omega
    · rw [hr]; simp [hm]
  · replace h3 := t_geq hO h3
    conv => cbv
    by_cases hm : x ∈ l
    · rw [hr]; simp [hm]
    · have := h2 hm; omega
end Go.Proofs.AM
namespace Go.Proofs.AM
open Go Go.Lib Cd
theorem ne_at {l l' : List Str} {k : Nat} {x y : Str} (h1 : l[k]? = some x) (h2 : l'[k]? = some y) (h : x ≠ y) : l ≠ l' := fun e => by
  subst e; rw [h1] at h2; simp only [Option.some.injEq] at h2; exact h h2
theorem same41_ok (R : Ans) (a b : SetV) (ha : FS a) (hb : FS b) : AnsF R c39 [setD a, setD b] (.bool (decide (a = b))) := by
  obtain ⟨r, hr⟩ : ∃ r, r = decide (a = b) := ⟨_, rfl⟩
  rw [← hr]
  have hrf : ¬ (a.m = b.m ∧ a.n = b.n ∧ a.u = b.u ∧ a.lo = b.lo ∧ a.hi = b.hi ∧ a.l = b.l) → r = false := fun h => by rw [hr]; simpa [SetV.eq_iff] using h
  have hrt : (a.m = b.m ∧ a.n = b.n ∧ a.u = b.u ∧ a.lo = b.lo ∧ a.hi = b.hi ∧ a.l = b.l) → r = true := fun h => by rw [hr]; simpa [SetV.eq_iff] using h
  have hl1 := ha.l.len
  obtain ⟨m, n, u, l, lo, hi⟩ := a
  obtain ⟨m', n', u', l', lo', hi'⟩ := b
  simp only at hrf hrt hl1
  clear hr ha hb
  unfold setD
  simp only
  obtain ⟨xs, hxs⟩ : ∃ xs, xs = l.map mkS := ⟨_, rfl⟩
  obtain ⟨ys, hys⟩ : ∃ ys, ys = l'.map mkS := ⟨_, rfl⟩
  rw [← hxs, ← hys]
  refine wpF_sound ⟨rfl, by decide⟩ fun O hO V hV => ?_
  have hlx : O .len xs = l.length := by rw [o_len hO, hxs]; simp
  have hly : O .len ys = l'.length := by rw [o_len hO, hys]; simp
  conv => cbv
  rintro (_ | _) h1
  · replace h1 := b_ne hO h1
    conv => cbv
    rintro (_ | _) h2
    · replace h2 := b_ne hO h2
      conv => cbv
      rintro (_ | _) h3
      · replace h3 := b_ne hO h3
        conv => cbv
        rintro (_ | _) h4
        · replace h4 := f_neq hO h4
          conv => cbv
          rintro (_ | _) h5
          · replace h5 := f_neq hO h5
            conv => cbv
            rintro (_ | _) h6
            · replace h6 := f_neq hO h6
              rw [hlx, hly] at h6
              conv => cbv
              refine loop_of (fun c d => ∃ (i : Int) (k : Nat), d = ⟨[(2, .ptr 2 1 0), (3, .ptr 3 1 0), (5, .int .i64 i)], [(2, ⟨1, .rw, .var, [.bool m, .bool n, .bool u, .sl 1 false xs, .int .i64 lo, .int .i64 hi]⟩), (3, ⟨1, .rw, .var, [.bool m', .bool n', .bool u', .sl 1 false ys, .int .i64 lo', .int .i64 hi']⟩)], false⟩ ∧ i = k ∧ k ≤ l.length ∧ c = l.length - k ∧ ∀ j, j < k → l[j]? = l'[j]?) ⟨_, _, ⟨_, 0, rfl, rfl, by omega, rfl, by simp⟩, ⟨⟨rfl, rfl, rfl, trivial⟩, ⟨rfl, rfl, trivial⟩, rfl⟩⟩ ?_
              rintro J up c d ⟨i, k, rfl, hi, hk, rfl, hno⟩
              conv => cbv
              rintro (_ | _) h7
              · replace h7 := f_lss hO h7
                rw [hlx] at h7
                conv => cbv
                have : l = l' := by
                  apply List.ext_getElem?
                  intro j
                  by_cases hj : j < k
                  · exact hno j hj
                  · rw [List.getElem?_eq_none (by omega), List.getElem?_eq_none (by omega)]
                rw [hrt ⟨by simpa using h1, by simpa using h2, by simpa using h3, h4, h5, this⟩]
              · replace h7 := t_lss hO h7
                rw [hlx] at h7
                obtain ⟨x, hx⟩ : ∃ x, l[k]? = some x := ⟨_, List.getElem?_eq_getElem (by omega)⟩
                obtain ⟨y, hy⟩ : ∃ y, l'[k]? = some y := ⟨_, List.getElem?_eq_getElem (by omega)⟩
                conv => cbv
                refine ⟨mkS x, atX_map hx hxs hi, ?_⟩
                conv => cbv
                refine ⟨mkS y, atX_map hy hys hi, ?_⟩
                conv => cbv
                rintro (_ | _) h8
                · replace h8 : x = y := f_sneq hO h8
                  conv => cbv
                  refine ⟨_, _, up _ _ ⟨_, k + 1, rfl, ?_, by omega, rfl, ?_⟩, ⟨⟨rfl, rfl, rfl, trivial⟩, ⟨rfl, rfl, trivial⟩, rfl⟩, by omega⟩
                  · rw [o_add64 hO (by omega) (by omega)]; omega
                  · intro j hj
                    by_cases e : j = k
                    · subst e; rw [hx, hy, h8]
                    · exact hno j (by omega)
                · replace h8 : x ≠ y := t_sneq hO h8
                  conv => cbv
                  rw [hrf (fun h => ne_at hx hy h8 h.2.2.2.2.2)]
            · replace h6 := t_neq hO h6
              rw [hlx, hly] at h6
              conv => cbv
              rw [hrf (fun h => h6 (by rw [h.2.2.2.2.2]))]
          · replace h5 := t_neq hO h5
            conv => cbv
            rw [hrf (fun h => h5 h.2.2.2.2.1)]
        · replace h4 := t_neq hO h4
          conv => cbv
          rw [hrf (fun h => h4 h.2.2.2.1)]
      · replace h3 := b_ne hO h3
        conv => cbv
        rw [hrf (fun h => by rw [h.2.2.1] at h3; simp at h3)]
    · replace h2 := b_ne hO h2
      conv => cbv
      rw [hrf (fun h => by rw [h.2.1] at h2; simp at h2)]
  · replace h1 := b_ne hO h1
    conv => cbv
    rw [hrf (fun h => by rw [h.1] at h1; simp at h1)]
end Go.Proofs.AM
namespace Go.Proofs.AM
open Go Go.Lib Cd
set_option maxHeartbeats 4000000 in
theorem put54_ok (R : Ans) (l : List Str) (hl : l.length < 8796093022208) (x : Str) : AnsF R c230 [.sl 1 false (l.map mkS), mkS x] (.sl 1 false ((putS x l).map mkS)) := by
  obtain ⟨xs, hxs⟩ : ∃ xs, xs = l.map mkS := ⟨_, rfl⟩
  have hcx : CleanL xs := cleanL_map clean_S hxs
  obtain ⟨rs, hrs⟩ : ∃ rs, rs = (putS x l).map mkS := ⟨_, rfl⟩
  have hcr : CleanL rs := cleanL_map clean_S hrs
  rw [← hxs, ← hrs]
  refine wpF_sound ⟨rfl, by decide⟩ fun O hO V hV => ?_
  have hlen : O .len xs = l.length := by rw [o_len hO, hxs]; simp
  conv => cbv
  refine loop_of (fun n d => ∃ (i : Int) (k : Nat), d = ⟨[(0, .sl 1 false xs), (1, mkS x), (5, .int .i64 i)], [], false⟩ ∧ i = k ∧ k ≤ l.length ∧ n = l.length - k ∧ ∀ j y, j < k → l[j]? = some y → y < x) ⟨_, _, ⟨_, 0, rfl, rfl, by omega, rfl, by simp⟩, ⟨⟨rfl, rfl, rfl, trivial⟩, trivial, rfl⟩⟩ ?_
  rintro J up n d ⟨i, k, rfl, hi, hk, rfl, hno⟩
  have lay : (∀ y, l[k]? = some y → ¬ y < x) → l[k]? ≠ some x → rs = O .app (O .app (O .subL xs 0 i) [mkS x]) (O .subL xs i (O .len xs)) ∧ CleanL (O .subL xs 0 i) ∧ CleanL (O .subL xs i (O .len xs)) ∧ O .len (O .subL xs 0 i) = k ∧ O .len [mkS x] = 1 ∧ O .len (O .app (O .subL xs 0 i) [mkS x]) = k + 1 ∧ O .len (O .subL xs i (O .len xs)) = l.length - k := by
    intro h1 h2
    obtain ⟨_, hp⟩ := putS_at x l k hk hno h1
    have e1 : O .subL xs 0 i = (l.take k).map mkS := by rw [o_subL hO, hxs, hi, ← List.map_take]; simp
    have e2 : O .subL xs i (O .len xs) = (l.drop k).map mkS := by rw [o_subL hO, hlen, hxs, hi, List.take_of_length_le (by simp)]; simp
    refine ⟨?_, cleanL_map clean_S e1, cleanL_map clean_S e2, ?_, ?_, ?_, ?_⟩
    · rw [hrs, hp h2, e1, e2, o_app hO, o_app hO]; simp
    · rw [o_len hO, e1]; simp; omega
    · rw [o_len hO]; rfl
    · rw [o_len hO, o_app hO, e1]; simp; omega
    · rw [o_len hO, e2]; simp; omega
  have h1x : CleanL [mkS x] := ⟨rfl, rfl⟩
  conv => cbv
  rintro (_ | _) h1
  · replace h1 := f_lss hO h1
    rw [hlen] at h1
    conv => cbv
    have hn : l[k]? = none := List.getElem?_eq_none (by omega)
    obtain ⟨hr, hc1, hc2, g1, g2, g3, g4⟩ := lay (by rw [hn]; simp) (by rw [hn]; simp)
    obtain ⟨ys, hys⟩ : ∃ ys, ys = O .subL xs 0 i := ⟨_, rfl⟩
    obtain ⟨zs, hzs⟩ : ∃ zs, zs = O .subL xs i (O .len xs) := ⟨_, rfl⟩
    obtain ⟨ws, hws⟩ : ∃ ws, ws = O .app ys [mkS x] := ⟨_, rfl⟩
    rw [← hys, ← hzs, ← hws] at hr
    rw [← hys] at hc1 g1
    rw [← hzs] at hc2 g4
    rw [← hys, ← hws] at g3
    rintro (_ | _) h2
    · conv => cbv
      refine ⟨⟨by omega⟩, ⟨by omega⟩, ⟨by omega⟩, ?_⟩
      rw [← hys]
      conv => cbv
      refine ⟨hc1.x, ⟨by rw [g1]; omega⟩, fun g => ?_⟩
      conv => cbv
      intro g'
      conv => cbv
      refine ⟨h1x.x, ⟨by rw [g1]; show ((k : Int) + O .len [mkS x]) * _ ≤ _; rw [g2]; omega⟩, ?_⟩
      conv => cbv
      refine ⟨⟨by omega⟩, ⟨by omega⟩, ⟨by omega⟩, ?_⟩
      rw [← hzs]
      conv => cbv
      refine ⟨hc2.x, ⟨?_⟩, ?_⟩
      · show (O .len (O .app ys [mkS x]) + O .len zs) * _ ≤ _
        rw [← hws, g3, g4]; omega
      · conv => cbv
        have : O .app (O .app ys [D.str ⟨⟨x⟩⟩]) zs = rs := by rw [hr, hws]; rfl
        rw [this]
        refine ⟨hcr, ?_⟩
        conv => cbv
        trivial
    · replace h2 := t_lss hO h2
      rw [hlen] at h2
      exfalso
      omega
  · replace h1 := t_lss hO h1
    rw [hlen] at h1
    obtain ⟨y, hy⟩ : ∃ y, l[k]? = some y := ⟨_, List.getElem?_eq_getElem (by omega)⟩
    conv => cbv
    refine ⟨mkS y, atX_map hy hxs hi, ?_⟩
    conv => cbv
    rintro (_ | _) h2
    · replace h2 : ¬ y < x := f_slss hO h2
      have hk1 : ∀ z, l[k]? = some z → ¬ z < x := fun z hz => by rw [hy] at hz; simp only [Option.some.injEq] at hz; subst hz; exact h2
      conv => cbv
      rintro (_ | _) h3
      · replace h3 := f_lss hO h3
        rw [hlen] at h3
        exfalso
        omega
      · conv => cbv
        refine ⟨mkS y, atX_map hy hxs hi, ?_⟩
        conv => cbv
        rintro (_ | _) h4
        · replace h4 : y ≠ x := f_seql hO h4
          conv => cbv
          obtain ⟨hr, hc1, hc2, g1, g2, g3, g4⟩ := lay hk1 (by rw [hy]; simpa using h4)
          obtain ⟨ys, hys⟩ : ∃ ys, ys = O .subL xs 0 i := ⟨_, rfl⟩
          obtain ⟨zs, hzs⟩ : ∃ zs, zs = O .subL xs i (O .len xs) := ⟨_, rfl⟩
          obtain ⟨ws, hws⟩ : ∃ ws, ws = O .app ys [mkS x] := ⟨_, rfl⟩
          rw [← hys, ← hzs, ← hws] at hr
          rw [← hys] at hc1 g1
          rw [← hzs] at hc2 g4
          rw [← hys, ← hws] at g3
          refine ⟨⟨by omega⟩, ⟨by omega⟩, ⟨by omega⟩, ?_⟩
          rw [← hys]
          conv => cbv
          refine ⟨hc1.x, ⟨by rw [g1]; omega⟩, fun g => ?_⟩
          conv => cbv
          intro g'
          conv => cbv
          refine ⟨h1x.x, ⟨by rw [g1]; show ((k : Int) + O .len [mkS x]) * _ ≤ _; rw [g2]; omega⟩, ?_⟩
          conv => cbv
          refine ⟨⟨by omega⟩, ⟨by omega⟩, ⟨by omega⟩, ?_⟩
          rw [← hzs]
          conv => cbv
          refine ⟨hc2.x, ⟨?_⟩, ?_⟩
          · show (O .len (O .app ys [mkS x]) + O .len zs) * _ ≤ _
            rw [← hws, g3, g4]; omega
          · conv => cbv
            have : O .app (O .app ys [D.str ⟨⟨x⟩⟩]) zs = rs := by rw [hr, hws]; rfl
            rw [this]
            refine ⟨hcr, ?_⟩
            conv => cbv
            trivial
        · replace h4 : y = x := t_seql hO h4
          have hp := (putS_at x l k hk hno hk1).1 (by rw [hy, h4])
          rw [hp, ← hxs] at hrs
          conv => cbv
          rw [hrs]
          refine ⟨hcx, ?_⟩
          conv => cbv
          trivial
    · replace h2 : y < x := t_slss hO h2
      conv => cbv
      refine ⟨_, _, up _ _ ⟨_, k + 1, rfl, ?_, by omega, rfl, ?_⟩, ⟨⟨rfl, rfl, rfl, trivial⟩, trivial, rfl⟩, by omega⟩
      · rw [o_add64 hO (by omega) (by omega)]; omega
      · intro j z hj hz
        by_cases e : j = k
        · subst e; rw [hy] at hz; simp only [Option.some.injEq] at hz; subst hz; exact h2
        · exact hno j z (by omega) hz
end Go.Proofs.AM
namespace Go.Proofs.AM
open Go Go.Lib Cd
theorem foldl_take {l : List Str} {k : Nat} {y : Str} (h : l[k]? = some y) (f : List Str → Str → List Str) (a : List Str) : (l.take (k + 1)).foldl f a = f ((l.take k).foldl f a) y := by
  rw [List.take_add_one, h, List.foldl_append]
  rfl
set_option maxHeartbeats 1000000 in
theorem rising39_ok (R : Ans) (h54 : ∀ (l : List Str) (x : Str), l.length < 8796093022208 → R.v 230 [.sl 1 false (l.map mkS), mkS x] (.sl 1 false ((putS x l).map mkS))) (l : List Str) (hl : l.length ≤ 8796093022208) : AnsF R c189 [.sl 1 false (l.map mkS)] (.sl 1 false ((risingS l).map mkS)) := by
  obtain ⟨xs, hxs⟩ : ∃ xs, xs = l.map mkS := ⟨_, rfl⟩
  have hcx : CleanL xs := cleanL_map clean_S hxs
  obtain ⟨rs, hrs⟩ : ∃ rs, rs = (risingS l).map mkS := ⟨_, rfl⟩
  rw [← hxs, ← hrs]
  refine wpF_sound ⟨rfl, by decide⟩ fun O hO V hV => ?_
  subst hV
  have hlen : O .len xs = l.length := by rw [o_len hO, hxs]; simp
  conv => cbv
  refine loop_of (fun n d => ∃ (i : Int) (k : Nat) (nl : Bool) (ac : List D), d = ⟨[(0, .sl 1 false xs), (3, .sl 1 nl ac), (4, .int .i64 i)], [], false⟩ ∧ i = k ∧ k ≤ l.length ∧ n = l.length - k ∧ ac = ((l.take k).foldl (fun a x => putS x a) []).map mkS) ⟨_, _, ⟨_, 0, _, _, rfl, rfl, by omega, rfl, by simp⟩, ⟨⟨rfl, rfl, rfl, trivial⟩, trivial, rfl⟩⟩ ?_
  rintro J up n d ⟨i, k, nl, ac, rfl, hi, hk, rfl, has⟩
  have hca : CleanL ac := cleanL_map clean_S has
  have hla : ((l.take k).foldl (fun a x => putS x a) []).length ≤ k := by
    have := (rising_aux (l.take k) [] (by simp [Rises])).2.2
    simp at this
    omega
  conv => cbv
  rintro (_ | _) h1
  · replace h1 := f_lss hO h1
    rw [hlen] at h1
    have : ac = rs := by rw [has, hrs, List.take_of_length_le (by omega)]; rfl
    conv => cbv
    rw [this] at hca ⊢
    exact ⟨hca, rfl⟩
  · replace h1 := t_lss hO h1
    rw [hlen] at h1
    conv => cbv
    obtain ⟨y, hy⟩ : ∃ y, l[k]? = some y := ⟨_, List.getElem?_eq_getElem (by omega)⟩
    have hc := h54 ((l.take k).foldl (fun a x => putS x a) []) y (by omega)
    rw [← has] at hc
    obtain ⟨bs, hbs⟩ : ∃ bs, bs = (putS y ((l.take k).foldl (fun a x => putS x a) [])).map mkS := ⟨_, rfl⟩
    rw [← hbs] at hc
    refine ⟨mkS y, atX_map hy hxs hi, ?_⟩
    conv => cbv
    refine ⟨hca, _, hc, ?_⟩
    conv => cbv
    refine ⟨_, _, up _ _ ⟨_, k + 1, false, bs, rfl, ?_, by omega, rfl, ?_⟩, ⟨⟨rfl, rfl, rfl, trivial⟩, trivial, rfl⟩, by omega⟩
    · rw [o_add64 hO (by omega) (by omega)]; omega
    · rw [hbs, foldl_take hy]
set_option maxHeartbeats 1000000 in
theorem ordered42_ok (R : Ans) (h17 : ∀ s, SL s → R.v 193 [mkS s] (.bool (valueB s))) (l : List Str) (hl : FL l) : AnsF R c233 [.sl 1 false (l.map mkS)] (.bool (ordB l)) := by
  obtain ⟨xs, hxs⟩ : ∃ xs, xs = l.map mkS := ⟨_, rfl⟩
  obtain ⟨r, hr⟩ : ∃ r, r = ordB l := ⟨_, rfl⟩
  have hl1 := hl.len
  rw [← hxs, ← hr]
  refine wpF_sound ⟨rfl, by decide⟩ fun O hO V hV => ?_
  subst hV
  have hlen : O .len xs = l.length := by rw [o_len hO, hxs]; simp
  conv => cbv
  rintro (_ | _) h1
  · replace h1 := f_gtr hO h1
    rw [hlen] at h1
    conv => cbv
    refine loop_of (fun n d => ∃ (i : Int) (k : Nat), d = ⟨[(0, .sl 1 false xs), (3, .int .i64 i)], [], false⟩ ∧ i = k ∧ k ≤ l.length ∧ n = l.length - k ∧ (∀ j x, j < k → l[j]? = some x → valueB x = true) ∧ ∀ (j : Nat) x y, j + 1 < k → l[j]? = some x → l[j + 1]? = some y → x < y) ⟨_, _, ⟨_, 0, rfl, rfl, by omega, rfl, by simp, by simp⟩, ⟨⟨rfl, rfl, trivial⟩, trivial, rfl⟩⟩ ?_
    rintro J up n d ⟨i, k, rfl, hi, hk, rfl, hno, hadj⟩
    conv => cbv
    rintro (_ | _) h2
    · replace h2 := f_lss hO h2
      rw [hlen] at h2
      conv => cbv
      rw [hr, ordB_true ⟨by omega, fun j x hx => hno j x (by have := (List.getElem?_eq_some_iff.1 hx).1; omega) hx, fun j x y hx hy => hadj j x y (by have := (List.getElem?_eq_some_iff.1 hy).1; omega) hx hy⟩]
    · replace h2 := t_lss hO h2
      rw [hlen] at h2
      conv => cbv
      obtain ⟨y, hy⟩ : ∃ y, l[k]? = some y := ⟨_, List.getElem?_eq_getElem (by omega)⟩
      have hv := h17 y (hl.all y (List.mem_of_getElem? hy))
      obtain ⟨q, hq⟩ : ∃ q, q = valueB y := ⟨_, rfl⟩
      rw [← hq] at hv
      refine ⟨mkS y, atX_map hy hxs hi, ?_⟩
      conv => cbv
      refine ⟨_, hv, ?_⟩
      cases q
      · conv => cbv
        rw [hr, ordB_false fun h => by rw [h.2.1 k y hy] at hq; simp at hq]
      · conv => cbv
        rintro (_ | _) h3
        · replace h3 := f_gtr hO h3
          conv => cbv
          refine ⟨_, _, up _ _ ⟨_, k + 1, rfl, ?_, by omega, rfl, ?_, ?_⟩, ⟨⟨rfl, rfl, trivial⟩, trivial, rfl⟩, by omega⟩
          · rw [o_add64 hO (by omega) (by omega)]; omega
          · intro j x hj hx
            by_cases e : j = k
            · subst e; rw [hy] at hx; simp only [Option.some.injEq] at hx; subst hx; exact hq.symm
            · exact hno j x (by omega) hx
          · intro j x z hj; omega
        · replace h3 := t_gtr hO h3
          conv => cbv
          obtain ⟨w, hw⟩ : ∃ w, l[k - 1]? = some w := ⟨_, List.getElem?_eq_getElem (by omega)⟩
          have hsub : O .iop .sub .i64 i 1 = ((k - 1 : Nat) : Int) := by rw [o_sub64 hO (by omega) (by omega)]; omega
          refine ⟨mkS w, atX_map hw hxs hsub, ?_⟩
          conv => cbv
          refine ⟨mkS y, atX_map hy hxs hi, ?_⟩
          conv => cbv
          rintro (_ | _) h4
          · replace h4 : w < y := f_sgeq hO h4
            conv => cbv
            refine ⟨_, _, up _ _ ⟨_, k + 1, rfl, ?_, by omega, rfl, ?_, ?_⟩, ⟨⟨rfl, rfl, trivial⟩, trivial, rfl⟩, by omega⟩
            · rw [o_add64 hO (by omega) (by omega)]; omega
            · intro j x hj hx
              by_cases e : j = k
              · subst e; rw [hy] at hx; simp only [Option.some.injEq] at hx; subst hx; exact hq.symm
              · exact hno j x (by omega) hx
            · intro j x z hj hx hz
              by_cases e : j + 1 = k
              · have e2 : j = k - 1 := by omega
                subst e2
                rw [e] at hz
                rw [hw] at hx
                rw [hy] at hz
                simp only [Option.some.injEq] at hx hz
                subst hx hz
                exact h4
              · exact hadj j x z (by omega) hx hz
          · replace h4 : ¬ w < y := t_sgeq hO h4
            conv => cbv
            rw [hr, ordB_false fun h => h4 (h.2.2 (k - 1) w y hw (by rw [show k - 1 + 1 = k by omega]; exact hy))]
  · replace h1 := t_gtr hO h1
    rw [hlen] at h1
    conv => cbv
    rw [hr, ordB_false fun h => by have := h.1; omega]
end Go.Proofs.AM
namespace Go.Proofs.AM
open Go Go.Lib Cd
theorem span_eq {O : Ops} (hO : O = Ops.std) {xs : List D} {n : Nat} (hlen : O .len xs = n) (hn : n ≤ 8796093022208) {lo hi : Int} (h1 : least ≤ lo) (h2 : hi ≤ most) (h3 : lo ≤ hi) : O .iop .sub .i64 (O .iop .add .i64 (O .iop .sub .i64 hi lo) 1) (O .len xs) = hi - lo + 1 - n := by
  unfold least at h1
  unfold most at h2
  have e1 : O .iop .sub .i64 hi lo = hi - lo := o_sub64 hO (by omega) (by omega)
  rw [e1, o_add64 hO (by omega) (by omega), hlen, o_sub64 hO (by omega) (by omega)]
set_option maxRecDepth 100000 in
set_option maxHeartbeats 2000000 in
theorem check22_ok (R : Ans) (s : SetV) (hs : FS s) (h42 : R.v 233 [.sl 1 false (s.l.map mkS)] (.bool (ordB s.l))) (h15 : ∀ s, SL s → ∀ v b, NumR s v b → R.v 232 [mkS s] (.tup [.int .i64 v, .bool b])) : AnsF R c191 [setD s] (.int .i64 (checkE s)) := by
  obtain ⟨r, hr⟩ : ∃ r, r = checkE s := ⟨_, rfl⟩
  rw [← hr]
  have hr0 : CheckP s → r = 0 := fun h => by rw [hr, checkE_0 h]
  have hr1 : ¬ CheckP s → r = 1 := fun h => by rw [hr, checkE_1 h]
  clear hr
  have hall := hs.l.all
  have hl1 := hs.l.len
  have hlo := hs.lo
  have hhi := hs.hi
  clear hs
  obtain ⟨m, n, u, l, lo, hi⟩ := s
  simp only at h42 hall hl1 hlo hhi
  unfold FI at hlo hhi
  unfold setD
  simp only
  obtain ⟨xs, hxs⟩ : ∃ xs, xs = l.map mkS := ⟨_, rfl⟩
  have hcx : CleanL xs := cleanL_map clean_S hxs
  obtain ⟨q, hq⟩ : ∃ q, q = ordB l := ⟨_, rfl⟩
  rw [← hxs, ← hq] at h42
  rw [← hxs]
  refine wpF_sound ⟨rfl, by decide⟩ fun O hO V hV => ?_
  subst hV
  have hlen : O .len xs = l.length := by rw [o_len hO, hxs]; simp
  conv => cbv
  refine ⟨hcx, _, h42, ?_⟩
  cases q with
  | false =>
    conv => cbv
    rw [hr1 fun h => by rw [ordB_true h.ord] at hq; simp at hq]
  | true =>
    have hord : OrdP l := ordB_iff.1 hq.symm
    cases u with
    | false =>
      conv => cbv
      rintro (_ | _) h1
      · replace h1 := f_neq hO h1
        conv => cbv
        rintro (_ | _) h2
        · replace h2 := f_neq hO h2
          conv => cbv
          rw [hr0 ⟨hord, by simp, fun _ => ⟨h1, h2⟩, by simp⟩]
        · replace h2 := t_neq hO h2
          conv => cbv
          rw [hr1 fun h => h2 (h.nu rfl).2]
      · replace h1 := t_neq hO h1
        conv => cbv
        rw [hr1 fun h => h1 (h.nu rfl).1]
    | true =>
      cases n with
      | false =>
        conv => cbv
        rw [hr1 fun h => by have := h.un rfl; simp at this]
      | true =>
        conv => cbv
        rintro (_ | _) h1
        · replace h1 := f_lss hO h1
          conv => cbv
          rintro (_ | _) h2
          · replace h2 := f_gtr hO h2
            conv => cbv
            rintro (_ | _) h3
            · replace h3 := f_gtr hO h3
              conv => cbv
              rintro (_ | _) h4
              · replace h4 := f_leq hO h4
                rw [span_eq hO hlen hl1 h1 h2 h3] at h4
                conv => cbv
                refine loop_of (fun c d => ∃ (i : Int) (k : Nat), d = ⟨[(1, .ptr 1 1 0), (4, .int .i64 i)], [(1, ⟨1, .rw, .var, [.bool m, .bool true, .bool true, .sl 1 false xs, .int .i64 lo, .int .i64 hi]⟩)], false⟩ ∧ i = k ∧ k ≤ l.length ∧ c = l.length - k ∧ ∀ j x, j < k → l[j]? = some x → ∃ n, numS x = some n ∧ lo < n ∧ n < hi) ⟨_, _, ⟨_, 0, rfl, rfl, by omega, rfl, by simp⟩, ⟨⟨rfl, rfl, trivial⟩, ⟨rfl, trivial⟩, rfl⟩⟩ ?_
                rintro J up c d ⟨i, k, rfl, hi', hk, rfl, hno⟩
                conv => cbv
                rintro (_ | _) h5
                · replace h5 := f_lss hO h5
                  rw [hlen] at h5
                  conv => cbv
                  rw [hr0 ⟨hord, fun _ => rfl, by simp, fun _ => ⟨h1, h2, h3, h4, fun j x hx => hno j x (by have : j < l.length := (List.getElem?_eq_some_iff.1 hx).1; omega) hx⟩⟩]
                · replace h5 := t_lss hO h5
                  rw [hlen] at h5
                  conv => cbv
                  obtain ⟨y, hy⟩ : ∃ y, l[k]? = some y := ⟨_, List.getElem?_eq_getElem (by omega)⟩
                  obtain ⟨v, b, hvb⟩ := NumR.ex y
                  have hv := h15 y (hall y (List.mem_of_getElem? hy)) v b hvb
                  have bad : ¬ (∃ n, numS y = some n ∧ lo < n ∧ n < hi) → r = 1 := fun h => hr1 fun hc => h ((hc.u rfl).2.2.2.2 k y hy)
                  refine ⟨mkS y, atX_map hy hxs hi', ?_⟩
                  conv => cbv
                  refine ⟨_, hv, ?_⟩
                  cases b with
                  | false =>
                    conv => cbv
                    rw [bad fun ⟨n, hn, _⟩ => by have := (hvb.of hn).1; simp at this]
                  | true =>
                    have hnum : numS y = some v := by
                      rcases hvb with ⟨_, h⟩ | ⟨h, _⟩
                      · exact h
                      · simp at h
                    conv => cbv
                    rintro (_ | _) h6
                    · replace h6 := f_leq hO h6
                      conv => cbv
                      rintro (_ | _) h7
                      · replace h7 := f_geq hO h7
                        conv => cbv
                        refine ⟨_, _, up _ _ ⟨_, k + 1, rfl, ?_, by omega, rfl, ?_⟩, ⟨⟨rfl, rfl, trivial⟩, ⟨rfl, trivial⟩, rfl⟩, by omega⟩
                        · rw [o_add64 hO (by omega) (by omega)]; omega
                        · intro j x hj hx
                          by_cases e : j = k
                          · subst e; rw [hy] at hx; simp only [Option.some.injEq] at hx; subst hx; exact ⟨v, hnum, h6, h7⟩
                          · exact hno j x (by omega) hx
                      · replace h7 := t_geq hO h7
                        conv => cbv
                        rw [bad fun ⟨n, hn, h8, h9⟩ => by rw [hnum] at hn; simp only [Option.some.injEq] at hn; omega]
                    · replace h6 := t_leq hO h6
                      conv => cbv
                      rw [bad fun ⟨n, hn, h8, h9⟩ => by rw [hnum] at hn; simp only [Option.some.injEq] at hn; omega]
              · replace h4 := t_leq hO h4
                rw [span_eq hO hlen hl1 h1 h2 h3] at h4
                conv => cbv
                rw [hr1 fun h => by have := (h.u rfl).2.2.2.1; simp only at this; omega]
            · replace h3 := t_gtr hO h3
              conv => cbv
              rw [hr1 fun h => by have := (h.u rfl).2.2.1; simp only at this; omega]
          · replace h2 := t_gtr hO h2
            conv => cbv
            rw [hr1 fun h => by have := (h.u rfl).2.1; simp only at this; unfold most at this; omega]
        · replace h1 := t_lss hO h1
          conv => cbv
          rw [hr1 fun h => by have := (h.u rfl).1; simp only at this; unfold least at this; omega]
end Go.Proofs.AM
namespace Go.Proofs.AM
open Go Go.Lib Cd
set_option maxRecDepth 100000 in
set_option maxHeartbeats 4000000 in
theorem check23_ok (R : Ans) (s : SetV) (hs : FS s) (h19 : ∀ s, SL s → R.v 90 [mkS s] (.bool (valueB s))) (h13 : ∀ s, SL s → ∀ v b, NumR s v b → R.v 187 [mkS s] (.tup [.int .i64 v, .bool b])) : AnsF R c103 [setD s] (.int .i64 (checkE s)) := by
  obtain ⟨r, hr⟩ : ∃ r, r = checkE s := ⟨_, rfl⟩
  rw [← hr]
  have hr0 : CheckP s → r = 0 := fun h => by rw [hr, checkE_0 h]
  have hr1 : ¬ CheckP s → r = 1 := fun h => by rw [hr, checkE_1 h]
  clear hr
  have hall := hs.l.all
  have hl1 := hs.l.len
  have hlo := hs.lo
  have hhi := hs.hi
  clear hs
  obtain ⟨m, n, u, l, lo, hi⟩ := s
  simp only at hall hl1 hlo hhi
  unfold FI at hlo hhi
  obtain ⟨S, hS⟩ : ∃ S : SetV, S = ⟨m, n, u, l, lo, hi⟩ := ⟨_, rfl⟩
  rw [← hS] at hr0 hr1
  have bad1 : 64 < l.length → ¬ CheckP S := fun h hc => by subst hS; have := hc.ord.1; simp only at this; omega
  have bad2 : ∀ (j : Nat) x, l[j]? = some x → valueB x = false → ¬ CheckP S := fun j x hx hv hc => by subst hS; have := hc.ord.2.1 j x hx; rw [hv] at this; simp at this
  have bad3 : ∀ (j : Nat) x y, l[j]? = some x → l[j + 1]? = some y → ¬ x < y → ¬ CheckP S := fun j x y hx hy h hc => h (by subst hS; exact hc.ord.2.2 j x y hx hy)
  have bad4 : u = true → n = false → ¬ CheckP S := fun h1 h2 hc => by subst hS; have := hc.un h1; simp only at this; rw [h2] at this; simp at this
  have bad5 : u = false → (lo ≠ 0 ∨ hi ≠ 0) → ¬ CheckP S := fun h1 h2 hc => by subst hS; have := hc.nu h1; simp only at this; omega
  have bad6 : u = true → ¬ (least ≤ lo ∧ hi ≤ most ∧ lo ≤ hi ∧ 64 < hi - lo + 1 - l.length) → ¬ CheckP S := fun h1 h2 hc => by subst hS; have := hc.u h1; exact h2 ⟨this.1, this.2.1, this.2.2.1, this.2.2.2.1⟩
  have bad7 : u = true → ∀ (j : Nat) x, l[j]? = some x → ¬ (∃ n, numS x = some n ∧ lo < n ∧ n < hi) → ¬ CheckP S := fun h1 j x hx h2 hc => by subst hS; exact h2 ((hc.u h1).2.2.2.2 j x hx)
  have good : OrdP l → (u = true → n = true) → (u = false → lo = 0 ∧ hi = 0) → (u = true → (least ≤ lo ∧ hi ≤ most ∧ lo ≤ hi ∧ 64 < hi - lo + 1 - l.length) ∧ ∀ (j : Nat) x, l[j]? = some x → ∃ n, numS x = some n ∧ lo < n ∧ n < hi) → CheckP S := fun h1 h2 h3 h4 => by
    subst hS
    exact ⟨h1, h2, h3, fun h => ⟨(h4 h).1.1, (h4 h).1.2.1, (h4 h).1.2.2.1, (h4 h).1.2.2.2, (h4 h).2⟩⟩
  clear hS
  unfold setD
  simp only
  obtain ⟨xs, hxs⟩ : ∃ xs, xs = l.map mkS := ⟨_, rfl⟩
  rw [← hxs]
  refine wpF_sound ⟨rfl, by decide⟩ fun O hO V hV => ?_
  subst hV
  have hlen : O .len xs = l.length := by rw [o_len hO, hxs]; simp
  obtain ⟨B, hB⟩ : ∃ B : List (Nat × Box), B = [(1, ⟨1, .rw, .var, [.bool m, .bool n, .bool u, .sl 1 false xs, .int .i64 lo, .int .i64 hi]⟩)] := ⟨_, rfl⟩
  conv => cbv
  refine join_of (fun d => ∃ bad : Bool, d = ⟨[(1, .ptr 1 1 0), (3, .bool bad)], B, false⟩ ∧ (bad = true → ¬ CheckP S) ∧ (bad = false → l.length ≤ 64 ∧ (u = true → n = true) ∧ (u = false → lo = 0 ∧ hi = 0))) (fun M up => ?_) ?_
  · subst hB
    conv => cbv
    rintro (_ | _) h1
    · replace h1 := f_gtr hO h1
      rw [hlen] at h1
      cases u with
      | false =>
        conv => cbv
        rintro (_ | _) h2
        · replace h2 := f_neq hO h2
          conv => cbv
          rintro (_ | _) h3
          · replace h3 := f_neq hO h3
            conv => cbv
            exact ⟨_, up _ ⟨false, rfl, by simp, fun _ => ⟨by omega, by simp, fun _ => ⟨h2, h3⟩⟩⟩, ⟨⟨rfl, rfl, trivial⟩, ⟨rfl, trivial⟩, rfl⟩⟩
          · replace h3 := t_neq hO h3
            conv => cbv
            exact ⟨_, up _ ⟨true, rfl, fun _ => bad5 rfl (.inr h3), by simp⟩, ⟨⟨rfl, rfl, trivial⟩, ⟨rfl, trivial⟩, rfl⟩⟩
        · replace h2 := t_neq hO h2
          conv => cbv
          exact ⟨_, up _ ⟨true, rfl, fun _ => bad5 rfl (.inl h2), by simp⟩, ⟨⟨rfl, rfl, trivial⟩, ⟨rfl, trivial⟩, rfl⟩⟩
      | true =>
        cases n with
        | false =>
          conv => cbv
          exact ⟨_, up _ ⟨true, rfl, fun _ => bad4 rfl rfl, by simp⟩, ⟨⟨rfl, rfl, trivial⟩, ⟨rfl, trivial⟩, rfl⟩⟩
        | true =>
          conv => cbv
          exact ⟨_, up _ ⟨false, rfl, by simp, fun _ => ⟨by omega, fun _ => rfl, by simp⟩⟩, ⟨⟨rfl, rfl, trivial⟩, ⟨rfl, trivial⟩, rfl⟩⟩
    · replace h1 := t_gtr hO h1
      rw [hlen] at h1
      conv => cbv
      exact ⟨_, up _ ⟨true, rfl, fun _ => bad1 (by omega), by simp⟩, ⟨⟨rfl, rfl, trivial⟩, ⟨rfl, trivial⟩, rfl⟩⟩
  rintro d ⟨bad, rfl, hb1, hb0⟩
  subst hB
  conv => cbv
  refine loop_of (fun c d => ∃ (i : Int) (k : Nat) (bad : Bool), d = ⟨[(1, .ptr 1 1 0), (3, .bool bad), (37, .sl 1 false xs), (38, .int .i64 (O .len xs)), (39, .int .i64 i)], [(1, ⟨1, .rw, .var, [.bool m, .bool n, .bool u, .sl 1 false xs, .int .i64 lo, .int .i64 hi]⟩)], false⟩ ∧ i = k ∧ k ≤ l.length ∧ c = l.length - k ∧ (bad = true → ¬ CheckP S) ∧ (bad = false → (l.length ≤ 64 ∧ (u = true → n = true) ∧ (u = false → lo = 0 ∧ hi = 0)) ∧ (∀ j x, j < k → l[j]? = some x → valueB x = true) ∧ (∀ (j : Nat) x y, j + 1 < k → l[j]? = some x → l[j + 1]? = some y → x < y) ∧ (u = true → ∀ j x, j < k → l[j]? = some x → ∃ n, numS x = some n ∧ lo < n ∧ n < hi))) ⟨_, _, ⟨_, 0, bad, rfl, rfl, by omega, rfl, hb1, fun h => ⟨hb0 h, by simp, by simp, by simp⟩⟩, ⟨⟨rfl, rfl, rfl, rfl, rfl, trivial⟩, ⟨rfl, trivial⟩, rfl⟩⟩ ?_
  rintro J up c d ⟨i, k, bad, rfl, hi', hk, rfl, hb1, hb0⟩
  conv => cbv
  rintro (_ | _) h1
  · replace h1 := f_lss hO h1
    rw [hlen] at h1
    have hke : k = l.length := by omega
    have done : bad = false → OrdP l ∧ (u = true → n = true) ∧ (u = false → lo = 0 ∧ hi = 0) ∧ (u = true → ∀ (j : Nat) x, l[j]? = some x → ∃ n, numS x = some n ∧ lo < n ∧ n < hi) := fun h => by
      obtain ⟨⟨g1, g2, g3⟩, g4, g5, g6⟩ := hb0 h
      exact ⟨⟨g1, fun j x hx => g4 j x (by rw [hke]; exact (List.getElem?_eq_some_iff.1 hx).1) hx, fun j x y hx hy => g5 j x y (by rw [hke]; exact (List.getElem?_eq_some_iff.1 hy).1) hx hy⟩, g2, g3, fun hu j x hx => g6 hu j x (by rw [hke]; exact (List.getElem?_eq_some_iff.1 hx).1) hx⟩
    conv => cbv
    refine join_of (fun d => ∃ bad : Bool, d = ⟨[(3, .bool bad)], [], false⟩ ∧ (bad = true → ¬ CheckP S) ∧ (bad = false → CheckP S)) (fun M up3 => ?_) ?_
    · cases u with
      | false =>
        conv => cbv
        exact ⟨_, up3 _ ⟨bad, rfl, hb1, fun h => by obtain ⟨g1, g2, g3, g4⟩ := done h; exact good g1 g2 g3 (by simp)⟩, ⟨⟨rfl, trivial⟩, trivial, rfl⟩⟩
      | true =>
        cases bad with
        | true =>
          conv => cbv
          exact ⟨_, up3 _ ⟨true, rfl, hb1, by simp⟩, ⟨⟨rfl, trivial⟩, trivial, rfl⟩⟩
        | false =>
          obtain ⟨g1, g2, g3, g4⟩ := done rfl
          conv => cbv
          rintro (_ | _) h2
          · replace h2 := f_lss hO h2
            conv => cbv
            rintro (_ | _) h3
            · replace h3 := f_gtr hO h3
              conv => cbv
              rintro (_ | _) h4
              · replace h4 := f_gtr hO h4
                conv => cbv
                rintro (_ | _) h5
                · replace h5 := f_leq hO h5
                  rw [span_eq hO hlen hl1 h2 h3 h4] at h5
                  conv => cbv
                  exact ⟨_, up3 _ ⟨false, rfl, by simp, fun _ => good g1 g2 g3 fun hu => ⟨⟨h2, h3, h4, h5⟩, g4 hu⟩⟩, ⟨⟨rfl, trivial⟩, trivial, rfl⟩⟩
                · replace h5 := t_leq hO h5
                  rw [span_eq hO hlen hl1 h2 h3 h4] at h5
                  conv => cbv
                  exact ⟨_, up3 _ ⟨true, rfl, fun _ => bad6 rfl (fun h => by omega), by simp⟩, ⟨⟨rfl, trivial⟩, trivial, rfl⟩⟩
              · replace h4 := t_gtr hO h4
                conv => cbv
                exact ⟨_, up3 _ ⟨true, rfl, fun _ => bad6 rfl (fun h => by omega), by simp⟩, ⟨⟨rfl, trivial⟩, trivial, rfl⟩⟩
            · replace h3 := t_gtr hO h3
              conv => cbv
              exact ⟨_, up3 _ ⟨true, rfl, fun _ => bad6 rfl (fun h => by have := h.2.1; unfold most at this; omega), by simp⟩, ⟨⟨rfl, trivial⟩, trivial, rfl⟩⟩
          · replace h2 := t_lss hO h2
            conv => cbv
            exact ⟨_, up3 _ ⟨true, rfl, fun _ => bad6 rfl (fun h => by have := h.1; unfold least at this; omega), by simp⟩, ⟨⟨rfl, trivial⟩, trivial, rfl⟩⟩
    · rintro d ⟨b, rfl, h1, h0⟩
      cases b with
      | false =>
        conv => cbv
        rw [hr0 (h0 rfl)]
      | true =>
        conv => cbv
        rw [hr1 (h1 rfl)]
  · replace h1 := t_lss hO h1
    rw [hlen] at h1
    conv => cbv
    obtain ⟨y, hy⟩ : ∃ y, l[k]? = some y := ⟨_, List.getElem?_eq_getElem (by omega)⟩
    have hSL := hall y (List.mem_of_getElem? hy)
    refine ⟨mkS y, atX_map hy hxs hi', ?_⟩
    conv => cbv
    refine join_of (fun d => ∃ bad : Bool, d = ⟨[(1, .ptr 1 1 0), (3, .bool bad), (5, mkS y), (37, .sl 1 false xs), (38, .int .i64 (O .len xs)), (39, .int .i64 i)], [(1, ⟨1, .rw, .var, [.bool m, .bool n, .bool u, .sl 1 false xs, .int .i64 lo, .int .i64 hi]⟩)], false⟩ ∧ (bad = true → ¬ CheckP S) ∧ (bad = false → (l.length ≤ 64 ∧ (u = true → n = true) ∧ (u = false → lo = 0 ∧ hi = 0)) ∧ (∀ j x, j < k + 1 → l[j]? = some x → valueB x = true) ∧ (∀ (j : Nat) x y, j + 1 < k + 1 → l[j]? = some x → l[j + 1]? = some y → x < y) ∧ (u = true → ∀ j x, j < k → l[j]? = some x → ∃ n, numS x = some n ∧ lo < n ∧ n < hi))) (fun M up2 => ?_) ?_
    · cases bad with
      | true =>
        conv => cbv
        exact ⟨_, up2 _ ⟨true, rfl, hb1, by simp⟩, ⟨⟨rfl, rfl, rfl, rfl, rfl, rfl, trivial⟩, ⟨rfl, trivial⟩, rfl⟩⟩
      | false =>
        obtain ⟨g0, g4, g5, g6⟩ := hb0 rfl
        have hv := h19 y hSL
        obtain ⟨q, hq⟩ : ∃ q, q = valueB y := ⟨_, rfl⟩
        rw [← hq] at hv
        have g4' : q = true → ∀ j x, j < k + 1 → l[j]? = some x → valueB x = true := fun hqt j x hj hx => by
          by_cases e : j = k
          · subst e; rw [hy] at hx; simp only [Option.some.injEq] at hx; subst hx; rw [← hq, hqt]
          · exact g4 j x (by omega) hx
        conv => cbv
        refine ⟨_, hv, ?_⟩
        cases q with
        | false =>
          conv => cbv
          exact ⟨_, up2 _ ⟨true, rfl, fun _ => bad2 k y hy hq.symm, by simp⟩, ⟨⟨rfl, rfl, rfl, rfl, rfl, rfl, trivial⟩, ⟨rfl, trivial⟩, rfl⟩⟩
        | true =>
          conv => cbv
          rintro (_ | _) h3
          · replace h3 := f_gtr hO h3
            conv => cbv
            exact ⟨_, up2 _ ⟨false, rfl, by simp, fun _ => ⟨g0, g4' rfl, fun j x z hj => by omega, g6⟩⟩, ⟨⟨rfl, rfl, rfl, rfl, rfl, rfl, trivial⟩, ⟨rfl, trivial⟩, rfl⟩⟩
          · replace h3 := t_gtr hO h3
            conv => cbv
            obtain ⟨w, hw⟩ : ∃ w, l[k - 1]? = some w := ⟨_, List.getElem?_eq_getElem (by omega)⟩
            have hsub : O .iop .sub .i64 i 1 = ((k - 1 : Nat) : Int) := by rw [o_sub64 hO (by omega) (by omega)]; omega
            have hk1 : k - 1 + 1 = k := by omega
            refine ⟨mkS w, atX_map hw hxs hsub, ?_⟩
            conv => cbv
            rintro (_ | _) h4
            · replace h4 : w < y := f_sgeq hO h4
              conv => cbv
              refine ⟨_, up2 _ ⟨false, rfl, by simp, fun _ => ⟨g0, g4' rfl, fun j x z hj hx hz => ?_, g6⟩⟩, ⟨⟨rfl, rfl, rfl, rfl, rfl, rfl, trivial⟩, ⟨rfl, trivial⟩, rfl⟩⟩
              by_cases e : j + 1 = k
              · have e2 : j = k - 1 := by omega
                subst e2
                rw [e] at hz
                rw [hw] at hx
                rw [hy] at hz
                simp only [Option.some.injEq] at hx hz
                subst hx hz
                exact h4
              · exact g5 j x z (by omega) hx hz
            · replace h4 : ¬ w < y := t_sgeq hO h4
              conv => cbv
              exact ⟨_, up2 _ ⟨true, rfl, fun _ => bad3 (k - 1) w y hw (by rw [hk1]; exact hy) h4, by simp⟩, ⟨⟨rfl, rfl, rfl, rfl, rfl, rfl, trivial⟩, ⟨rfl, trivial⟩, rfl⟩⟩
    · rintro d ⟨bad, rfl, hb1, hb0⟩
      have hadd : O .iop .add .i64 i 1 = ((k + 1 : Nat) : Int) := by rw [o_add64 hO (by omega) (by omega)]; omega
      cases u with
      | false =>
        conv => cbv
        exact ⟨_, _, up _ _ ⟨_, k + 1, bad, rfl, hadd, by omega, rfl, hb1, fun h => by obtain ⟨g0, g4, g5, g6⟩ := hb0 h; exact ⟨g0, g4, g5, by simp⟩⟩, ⟨⟨rfl, rfl, rfl, rfl, rfl, trivial⟩, ⟨rfl, trivial⟩, rfl⟩, by omega⟩
      | true =>
        cases bad with
        | true =>
          conv => cbv
          exact ⟨_, _, up _ _ ⟨_, k + 1, true, rfl, hadd, by omega, rfl, hb1, by simp⟩, ⟨⟨rfl, rfl, rfl, rfl, rfl, trivial⟩, ⟨rfl, trivial⟩, rfl⟩, by omega⟩
        | false =>
          obtain ⟨g0, g4, g5, g6⟩ := hb0 rfl
          obtain ⟨v, b, hvb⟩ := NumR.ex y
          have hv := h13 y hSL v b hvb
          conv => cbv
          refine ⟨_, hv, ?_⟩
          cases b with
          | false =>
            conv => cbv
            exact ⟨_, _, up _ _ ⟨_, k + 1, true, rfl, hadd, by omega, rfl, fun _ => bad7 rfl k y hy (fun ⟨n, hn, _⟩ => by have := (hvb.of hn).1; simp at this), by simp⟩, ⟨⟨rfl, rfl, rfl, rfl, rfl, trivial⟩, ⟨rfl, trivial⟩, rfl⟩, by omega⟩
          | true =>
            have hnum : numS y = some v := by
              rcases hvb with ⟨_, h⟩ | ⟨h, _⟩
              · exact h
              · simp at h
            have nope : ¬ (lo < v ∧ v < hi) → ¬ CheckP S := fun h => bad7 rfl k y hy (fun ⟨n, hn, h8⟩ => by rw [hnum] at hn; simp only [Option.some.injEq] at hn; subst hn; exact h h8)
            conv => cbv
            rintro (_ | _) h6
            · replace h6 := f_leq hO h6
              conv => cbv
              rintro (_ | _) h7
              · replace h7 := f_geq hO h7
                conv => cbv
                refine ⟨_, _, up _ _ ⟨_, k + 1, false, rfl, hadd, by omega, rfl, by simp, fun _ => ⟨g0, g4, g5, fun _ j x hj hx => ?_⟩⟩, ⟨⟨rfl, rfl, rfl, rfl, rfl, trivial⟩, ⟨rfl, trivial⟩, rfl⟩, by omega⟩
                by_cases e : j = k
                · subst e; rw [hy] at hx; simp only [Option.some.injEq] at hx; subst hx; exact ⟨v, hnum, h6, h7⟩
                · exact g6 rfl j x (by omega) hx
              · replace h7 := t_geq hO h7
                conv => cbv
                exact ⟨_, _, up _ _ ⟨_, k + 1, true, rfl, hadd, by omega, rfl, fun _ => nope (by omega), by simp⟩, ⟨⟨rfl, rfl, rfl, rfl, rfl, trivial⟩, ⟨rfl, trivial⟩, rfl⟩, by omega⟩
            · replace h6 := t_leq hO h6
              conv => cbv
              exact ⟨_, _, up _ _ ⟨_, k + 1, true, rfl, hadd, by omega, rfl, fun _ => nope (by omega), by simp⟩, ⟨⟨rfl, rfl, rfl, rfl, rfl, trivial⟩, ⟨rfl, trivial⟩, rfl⟩, by omega⟩
end Go.Proofs.AM
namespace Go.Proofs.AM
open Go Go.Lib Cd
set_option maxRecDepth 100000 in
set_option maxHeartbeats 2000000 in
theorem has43_ok (R : Ans) (s : SetV) (x : Str) (hx : SL x) (h55 : R.v 197 [.sl 1 false (s.l.map mkS), mkS x] (.bool (decide (x ∈ s.l)))) (h13 : ∀ s, SL s → ∀ v b, NumR s v b → R.v 187 [mkS s] (.tup [.int .i64 v, .bool b])) : AnsF R c104 [setD s, mkS x] (.bool (hasRaw s x)) := by
  obtain ⟨v, b, hvb⟩ := NumR.ex x
  have hv := h13 x hx v b hvb
  have hrg : rangeB s x = (b && decide (s.lo ≤ v ∧ v ≤ s.hi)) := by
    rcases hvb with ⟨rfl, h⟩ | ⟨rfl, _, h⟩
    · rw [rangeB_some h]; simp
    · rw [rangeB_none h]; simp
  obtain ⟨r, hr⟩ : ∃ r, r = hasRaw s x := ⟨_, rfl⟩
  rw [← hr]
  unfold hasRaw at hr
  rw [hrg] at hr
  obtain ⟨q, hq⟩ : ∃ q, q = decide (x ∈ s.l) := ⟨_, rfl⟩
  rw [← hq] at hr
  rw [← hq] at h55
  clear hq hrg hvb
  obtain ⟨m, n, u, l, lo, hi⟩ := s
  simp only at h55 hr
  unfold setD
  simp only
  have hcx : CleanL (l.map mkS) := cleanL_map clean_S rfl
  obtain ⟨xs, hxs⟩ : ∃ xs, xs = l.map mkS := ⟨_, rfl⟩
  rw [← hxs] at hcx h55 ⊢
  refine wpF_sound ⟨rfl, by decide⟩ fun O hO V hV => ?_
  subst hV
  conv => cbv
  refine ⟨hcx, _, h55, ?_⟩
  conv => cbv
  rintro (_ | _) h1
  · replace h1 := b_ne hO h1
    conv => cbv
    rw [hr, ← h1]
    rfl
  · replace h1 := b_ne hO h1
    rw [← h1] at hr
    cases u with
    | false =>
      conv => cbv
      rw [hr]
      rfl
    | true =>
      conv => cbv
      refine ⟨_, hv, ?_⟩
      cases b with
      | false =>
        conv => cbv
        rw [hr]
        rfl
      | true =>
        conv => cbv
        rintro (_ | _) h2
        · replace h2 := f_geq hO h2
          conv => cbv
          rw [hr]
          simp
          omega
        · replace h2 := t_geq hO h2
          conv => cbv
          rintro (_ | _) h3
          · replace h3 := f_leq hO h3
            conv => cbv
            rw [hr]
            simp
            omega
          · replace h3 := t_leq hO h3
            conv => cbv
            rw [hr]
            simp
            omega
set_option maxHeartbeats 1000000 in
theorem has26_ok (R : Ans) (s : SetV) (x : Str) (h23 : R.v 103 [setD s] (.int .i64 (checkE s))) (h19 : R.v 90 [mkS x] (.bool (valueB x))) (h43 : R.v 104 [setD s, mkS x] (.bool (hasRaw s x))) : AnsF R c45 [setD s, mkS x] (.bool (hasB s x)) := by
  obtain ⟨r, hr⟩ : ∃ r, r = hasB s x := ⟨_, rfl⟩
  rw [← hr]
  unfold hasB at hr
  obtain ⟨e, he⟩ : ∃ e, e = checkE s := ⟨_, rfl⟩
  obtain ⟨q, hq⟩ : ∃ q, q = valueB x := ⟨_, rfl⟩
  obtain ⟨p, hp⟩ : ∃ p, p = hasRaw s x := ⟨_, rfl⟩
  rw [← he, ← hq, ← hp] at hr
  rw [← he] at h23
  rw [← hq] at h19
  rw [← hp] at h43
  clear he hq hp
  obtain ⟨m, n, u, l, lo, hi⟩ := s
  unfold setD at h23 h43 ⊢
  simp only at h23 h43 ⊢
  have hcx : CleanL (l.map mkS) := cleanL_map clean_S rfl
  obtain ⟨xs, hxs⟩ : ∃ xs, xs = l.map mkS := ⟨_, rfl⟩
  rw [← hxs] at hcx h23 h43 ⊢
  refine wpF_sound ⟨rfl, by decide⟩ fun O hO V hV => ?_
  subst hV
  conv => cbv
  refine ⟨hcx, _, h23, ?_⟩
  conv => cbv
  rintro (_ | _) h1
  · replace h1 := f_eql hO h1
    conv => cbv
    rw [hr]
    simp [h1]
  · replace h1 := t_eql hO h1
    conv => cbv
    refine ⟨_, h19, ?_⟩
    cases q with
    | false =>
      conv => cbv
      rw [hr]
      simp
    | true =>
      conv => cbv
      refine ⟨hcx, _, h43, ?_⟩
      conv => cbv
      rw [hr]
      simp [h1]
set_option maxRecDepth 100000 in
set_option maxHeartbeats 1000000 in
theorem has28_ok (R : Ans) (s : SetV) (x : Str) (h22 : R.v 191 [setD s] (.int .i64 (checkE s))) (h17 : R.v 193 [mkS x] (.bool (valueB x))) (h45 : R.v 229 [.sl 1 false (s.l.map mkS), mkS x] (.bool (decide (x ∈ s.l)))) (h15 : ∀ v b, NumR x v b → R.v 232 [mkS x] (.tup [.int .i64 v, .bool b])) : AnsF R c194 [setD s, mkS x] (.bool (hasB s x)) := by
  obtain ⟨v, b, hvb⟩ := NumR.ex x
  have hv := h15 v b hvb
  have hrg : rangeB s x = (b && decide (s.lo ≤ v ∧ v ≤ s.hi)) := by
    rcases hvb with ⟨rfl, h⟩ | ⟨rfl, _, h⟩
    · rw [rangeB_some h]; simp
    · rw [rangeB_none h]; simp
  have hun : checkE s = 0 → s.u = true → s.n = true := fun h => (checkE_iff.1 h).un
  obtain ⟨r, hr⟩ : ∃ r, r = hasB s x := ⟨_, rfl⟩
  rw [← hr]
  unfold hasB hasRaw at hr
  rw [hrg] at hr
  obtain ⟨e, he⟩ : ∃ e, e = checkE s := ⟨_, rfl⟩
  obtain ⟨q, hq⟩ : ∃ q, q = valueB x := ⟨_, rfl⟩
  obtain ⟨p, hp⟩ : ∃ p, p = decide (x ∈ s.l) := ⟨_, rfl⟩
  rw [← hp, ← he, ← hq] at hr
  rw [← he] at h22 hun
  rw [← hq] at h17
  rw [← hp] at h45
  clear he hq hp hrg hvb
  obtain ⟨m, n, u, l, lo, hi⟩ := s
  unfold setD at h22 ⊢
  simp only at h22 h45 hr hun ⊢
  have hcx : CleanL (l.map mkS) := cleanL_map clean_S rfl
  obtain ⟨xs, hxs⟩ : ∃ xs, xs = l.map mkS := ⟨_, rfl⟩
  rw [← hxs] at hcx h22 h45 ⊢
  refine wpF_sound ⟨rfl, by decide⟩ fun O hO V hV => ?_
  subst hV
  conv => cbv
  refine ⟨hcx, _, h22, ?_⟩
  conv => cbv
  refine ⟨_, h17, ?_⟩
  conv => cbv
  rintro (_ | _) h1
  · replace h1 := f_neq hO h1
    subst h1
    cases q with
    | false =>
      conv => cbv
      rw [hr]
      simp
    | true =>
      conv => cbv
      refine ⟨hcx, _, h45, ?_⟩
      cases n with
      | false =>
        have hu : u = false := by
          cases u with
          | false => rfl
          | true => have := hun rfl rfl; simp at this
        subst hu
        conv => cbv
        rw [hr]
        cases p <;> rfl
      | true =>
        conv => cbv
        refine ⟨_, hv, ?_⟩
        cases p with
        | true =>
          conv => cbv
          rw [hr]
          rfl
        | false =>
          cases u with
          | false =>
            conv => cbv
            rw [hr]
            rfl
          | true =>
            cases b with
            | false =>
              conv => cbv
              rw [hr]
              rfl
            | true =>
              conv => cbv
              rintro (_ | _) h2
              · replace h2 := f_geq hO h2
                conv => cbv
                rw [hr]
                simp
                omega
              · replace h2 := t_geq hO h2
                conv => cbv
                rintro (_ | _) h3
                · replace h3 := f_leq hO h3
                  conv => cbv
                  rw [hr]
                  simp
                  omega
                · replace h3 := t_leq hO h3
                  conv => cbv
                  rw [hr]
                  simp
                  omega
  · replace h1 := t_neq hO h1
    conv => cbv
    rw [hr]
    simp [h1]
theorem empty_len {O : Ops} (hO : O = Ops.std) {l : List Str} {xs : List D} (hxs : xs = l.map mkS) {t : Bool} (h : t = O .icmp .eql (O .len xs) 0) : t = decide (l = []) := by
  rw [o_eql hO, o_len hO, hxs] at h
  rw [h]
  simp
set_option maxHeartbeats 1000000 in
theorem empty27_ok (R : Ans) (s : SetV) (h23 : R.v 103 [setD s] (.int .i64 (checkE s))) : AnsF R c100 [setD s] (.bool (emptyB s)) := by
  obtain ⟨r, hr⟩ : ∃ r, r = emptyB s := ⟨_, rfl⟩
  rw [← hr]
  unfold emptyB at hr
  obtain ⟨e, he⟩ : ∃ e, e = checkE s := ⟨_, rfl⟩
  rw [← he] at hr h23
  clear he
  obtain ⟨m, n, u, l, lo, hi⟩ := s
  unfold setD at h23 ⊢
  simp only at h23 hr ⊢
  have hcx : CleanL (l.map mkS) := cleanL_map clean_S rfl
  obtain ⟨xs, hxs⟩ : ∃ xs, xs = l.map mkS := ⟨_, rfl⟩
  rw [← hxs] at hcx h23 ⊢
  refine wpF_sound ⟨rfl, by decide⟩ fun O hO V hV => ?_
  subst hV
  conv => cbv
  refine ⟨hcx, _, h23, ?_⟩
  conv => cbv
  rintro (_ | _) h1
  · replace h1 := f_eql hO h1
    conv => cbv
    rw [hr]
    simp [h1]
  · replace h1 := t_eql hO h1
    cases n <;> cases m <;> (conv => cbv)
    · intro t ht
      have h2 := empty_len hO hxs ht
      conv => cbv
      rw [hr, h2]
      simp [h1]
    all_goals (rw [hr]; simp [h1])
set_option maxHeartbeats 1000000 in
theorem empty29_ok (R : Ans) (s : SetV) (h22 : R.v 191 [setD s] (.int .i64 (checkE s))) : AnsF R c101 [setD s] (.bool (emptyB s)) := by
  obtain ⟨r, hr⟩ : ∃ r, r = emptyB s := ⟨_, rfl⟩
  rw [← hr]
  unfold emptyB at hr
  obtain ⟨e, he⟩ : ∃ e, e = checkE s := ⟨_, rfl⟩
  rw [← he] at hr h22
  clear he
  obtain ⟨m, n, u, l, lo, hi⟩ := s
  unfold setD at h22 ⊢
  simp only at h22 hr ⊢
  have hcx : CleanL (l.map mkS) := cleanL_map clean_S rfl
  obtain ⟨xs, hxs⟩ : ∃ xs, xs = l.map mkS := ⟨_, rfl⟩
  rw [← hxs] at hcx h22 ⊢
  refine wpF_sound ⟨rfl, by decide⟩ fun O hO V hV => ?_
  subst hV
  conv => cbv
  refine ⟨hcx, _, h22, ?_⟩
  conv => cbv
  rintro (_ | _) h1
  · replace h1 := f_eql hO h1
    conv => cbv
    rw [hr]
    simp [h1]
  · replace h1 := t_eql hO h1
    cases n <;> cases m <;> (conv => cbv)
    · intro t ht
      have h2 := empty_len hO hxs ht
      conv => cbv
      rw [hr, h2]
      simp [h1]
    all_goals (rw [hr]; simp [h1])
end Go.Proofs.AM
namespace Go.Proofs.AM
open Go Go.Lib Cd
def lD (l : List Str) : D := .sl 1 false (l.map mkS)
theorem lD_clean (l : List Str) : Clean (lD l) := by
  have := cleanL_map clean_S (l := l) rfl
  exact ⟨by simp [lD, closed, this.c], by simp [lD, strip, this.s]⟩
theorem foldl_flat {L : List (List Str)} {k : Nat} {l : List Str} (h : L[k]? = some l) (a : List Str) : (L.take (k + 1)).flatten.foldl insS a = l.foldl insS ((L.take k).flatten.foldl insS a) := by
  rw [List.take_add_one, h, List.flatten_append, List.foldl_append]
  simp
theorem foldl_take' {l : List Str} {k : Nat} {y : Str} (h : l[k]? = some y) (a : List Str) : (l.take (k + 1)).foldl insS a = insS ((l.take k).foldl insS a) y := by
  rw [List.take_add_one, h, List.foldl_append]
  rfl
set_option maxRecDepth 100000 in
set_option maxHeartbeats 4000000 in
theorem group33_ok (R : Ans) (L : List (List Str)) (hL : L.length ≤ 8796093022208) (hl : ∀ l ∈ L, l.length ≤ 8796093022208) : AnsF R c181 [.sl 1 false (L.map lD)] (.mapv ((groupS L).map ent)) := by
  obtain ⟨xs, hxs⟩ : ∃ xs, xs = L.map lD := ⟨_, rfl⟩
  obtain ⟨rs, hrs⟩ : ∃ rs, rs = (groupS L).map ent := ⟨_, rfl⟩
  have hcr : CleanL rs := cleanL_map clean_ent hrs
  rw [← hxs, ← hrs]
  refine wpF_sound ⟨rfl, by decide⟩ fun O hO V hV => ?_
  have hlen : O .len xs = L.length := by rw [o_len hO, hxs]; simp
  conv => cbv
  refine loop_of (fun n d => ∃ (i : Int) (k : Nat) (ac : List D) (tk : Int), d = ⟨[(3, .mapr 8 1), (9, .sl 1 false xs), (10, .int .i64 (O .len xs)), (11, .int .i64 i)], [(8, ⟨1, .rw, .map, .int .i64 tk :: ac⟩)], false⟩ ∧ i = k ∧ k ≤ L.length ∧ n = L.length - k ∧ ac = ((L.take k).flatten.foldl insS []).map ent) ⟨_, _, ⟨_, 0, _, _, rfl, rfl, by omega, rfl, by simp⟩, ⟨⟨rfl, rfl, rfl, rfl, trivial⟩, ⟨rfl, trivial⟩, rfl⟩⟩ ?_
  rintro J up n d ⟨i, k, ac, tk, rfl, hi, hk, rfl, hac⟩
  conv => cbv
  rintro (_ | _) h1
  · replace h1 := f_lss hO h1
    rw [hlen] at h1
    have : ac = rs := by rw [hac, hrs, List.take_of_length_le (by omega)]; rfl
    conv => cbv
    rw [this]
    refine ⟨hcr, ?_⟩
    conv => cbv
    trivial
  · replace h1 := t_lss hO h1
    rw [hlen] at h1
    conv => cbv
    obtain ⟨l, hy⟩ : ∃ l, L[k]? = some l := ⟨_, List.getElem?_eq_getElem (by omega)⟩
    have hll := hl l (List.mem_of_getElem? hy)
    refine ⟨lD l, atX_map hy hxs hi, ?_⟩
    obtain ⟨ys, hys⟩ : ∃ ys, ys = l.map mkS := ⟨_, rfl⟩
    have hlen2 : O .len ys = l.length := by rw [o_len hO, hys]; simp
    unfold lD
    rw [← hys]
    conv => cbv
    refine loop_of (fun n d => ∃ (i2 : Int) (k2 : Nat) (ac2 : List D) (tk2 : Int), d = ⟨[(3, .mapr 8 1), (9, .sl 1 false xs), (10, .int .i64 (O .len xs)), (11, .int .i64 i), (15, .sl 1 false ys), (16, .int .i64 (O .len ys)), (17, .int .i64 i2)], [(8, ⟨1, .rw, .map, .int .i64 tk2 :: ac2⟩)], false⟩ ∧ i2 = k2 ∧ k2 ≤ l.length ∧ n = l.length - k2 ∧ ac2 = ((l.take k2).foldl insS ((L.take k).flatten.foldl insS [])).map ent) ⟨_, _, ⟨_, 0, _, _, rfl, rfl, by omega, rfl, by simpa using hac⟩, ⟨⟨rfl, rfl, rfl, rfl, rfl, rfl, rfl, trivial⟩, ⟨rfl, trivial⟩, rfl⟩⟩ ?_
    rintro J2 up2 n2 d ⟨i2, k2, ac2, tk2, rfl, hi2, hk2, rfl, hac2⟩
    conv => cbv
    rintro (_ | _) h2
    · replace h2 := f_lss hO h2
      rw [hlen2] at h2
      conv => cbv
      refine ⟨_, _, up _ _ ⟨_, k + 1, ac2, tk2, rfl, ?_, by omega, rfl, ?_⟩, ⟨⟨rfl, rfl, rfl, rfl, trivial⟩, ⟨rfl, trivial⟩, rfl⟩, by omega⟩
      · rw [o_add64 hO (by omega) (by omega)]; omega
      · have e3 : l.take k2 = l := List.take_of_length_le (by omega)
        rw [hac2, foldl_flat hy, e3]
    · replace h2 := t_lss hO h2
      rw [hlen2] at h2
      conv => cbv
      obtain ⟨y, hy2⟩ : ∃ y, l[k2]? = some y := ⟨_, List.getElem?_eq_getElem (by omega)⟩
      refine ⟨mkS y, atX_map hy2 hys hi2, ?_⟩
      conv => cbv
      obtain ⟨ac3, hac3⟩ : ∃ ac3, ac3 = (insS ((l.take k2).foldl insS ((L.take k).flatten.foldl insS [])) y).map ent := ⟨_, rfl⟩
      refine ⟨ac3, by rw [hac2, hac3]; exact mput_ent _ _, fun c => ?_⟩
      conv => cbv
      refine ⟨_, _, up2 _ _ ⟨_, k2 + 1, ac3, c, rfl, ?_, by omega, rfl, ?_⟩, ⟨⟨rfl, rfl, rfl, rfl, rfl, rfl, rfl, trivial⟩, ⟨rfl, trivial⟩, rfl⟩, by omega⟩
      · rw [o_add64 hO (by omega) (by omega)]; omega
      · rw [hac3, foldl_take' hy2]
set_option maxRecDepth 100000 in
set_option maxHeartbeats 4000000 in
theorem group33_shared (R : Ans) (L : List (List Str)) (hL : L.length ≤ 8796093022208) (hl : ∀ l ∈ L, l.length ≤ 8796093022208) : ∀ O : Ops, O = Ops.std → ∀ V : Ans, V = R → wpS O V 300 c181 [.sl 1 false (L.map lD)] [] (fun r kn => ∃ g c, r = .mapr 308 g ∧ kn = [(308, ⟨g, .rw, .map, .int .i64 c :: (groupS L).map ent⟩)]) := by
  obtain ⟨xs, hxs⟩ : ∃ xs, xs = L.map lD := ⟨_, rfl⟩
  obtain ⟨rs, hrs⟩ : ∃ rs, rs = (groupS L).map ent := ⟨_, rfl⟩
  have hcr : CleanL rs := cleanL_map clean_ent hrs
  rw [← hxs, ← hrs]
  intro O hO V hV
  have hlen : O .len xs = L.length := by rw [o_len hO, hxs]; simp
  conv => cbv
  intro g0
  conv => cbv
  refine loop_of (fun n d => ∃ (i : Int) (k : Nat) (ac : List D) (tk : Int), d = ⟨[(3, .mapr 308 g0), (9, .sl 1 false xs), (10, .int .i64 (O .len xs)), (11, .int .i64 i)], [(308, ⟨g0, .rw, .map, .int .i64 tk :: ac⟩)], false⟩ ∧ i = k ∧ k ≤ L.length ∧ n = L.length - k ∧ ac = ((L.take k).flatten.foldl insS []).map ent) ⟨_, _, ⟨_, 0, _, _, rfl, rfl, by omega, rfl, by simp⟩, ⟨⟨rfl, rfl, rfl, rfl, trivial⟩, ⟨rfl, trivial⟩, rfl⟩⟩ ?_
  rintro J up n d ⟨i, k, ac, tk, rfl, hi, hk, rfl, hac⟩
  conv => cbv
  rintro (_ | _) h1
  · replace h1 := f_lss hO h1
    rw [hlen] at h1
    have : ac = rs := by rw [hac, hrs, List.take_of_length_le (by omega)]; rfl
    conv => cbv
    rw [this]
    exact ⟨g0, tk, rfl, rfl⟩
  · replace h1 := t_lss hO h1
    rw [hlen] at h1
    conv => cbv
    obtain ⟨l, hy⟩ : ∃ l, L[k]? = some l := ⟨_, List.getElem?_eq_getElem (by omega)⟩
    have hll := hl l (List.mem_of_getElem? hy)
    refine ⟨lD l, atX_map hy hxs hi, ?_⟩
    obtain ⟨ys, hys⟩ : ∃ ys, ys = l.map mkS := ⟨_, rfl⟩
    have hlen2 : O .len ys = l.length := by rw [o_len hO, hys]; simp
    unfold lD
    rw [← hys]
    conv => cbv
    refine loop_of (fun n d => ∃ (i2 : Int) (k2 : Nat) (ac2 : List D) (tk2 : Int), d = ⟨[(3, .mapr 308 g0), (9, .sl 1 false xs), (10, .int .i64 (O .len xs)), (11, .int .i64 i), (15, .sl 1 false ys), (16, .int .i64 (O .len ys)), (17, .int .i64 i2)], [(308, ⟨g0, .rw, .map, .int .i64 tk2 :: ac2⟩)], false⟩ ∧ i2 = k2 ∧ k2 ≤ l.length ∧ n = l.length - k2 ∧ ac2 = ((l.take k2).foldl insS ((L.take k).flatten.foldl insS [])).map ent) ⟨_, _, ⟨_, 0, _, _, rfl, rfl, by omega, rfl, by simpa using hac⟩, ⟨⟨rfl, rfl, rfl, rfl, rfl, rfl, rfl, trivial⟩, ⟨rfl, trivial⟩, rfl⟩⟩ ?_
    rintro J2 up2 n2 d ⟨i2, k2, ac2, tk2, rfl, hi2, hk2, rfl, hac2⟩
    conv => cbv
    rintro (_ | _) h2
    · replace h2 := f_lss hO h2
      rw [hlen2] at h2
      conv => cbv
      refine ⟨_, _, up _ _ ⟨_, k + 1, ac2, tk2, rfl, ?_, by omega, rfl, ?_⟩, ⟨⟨rfl, rfl, rfl, rfl, trivial⟩, ⟨rfl, trivial⟩, rfl⟩, by omega⟩
      · rw [o_add64 hO (by omega) (by omega)]; omega
      · have e3 : l.take k2 = l := List.take_of_length_le (by omega)
        rw [hac2, foldl_flat hy, e3]
    · replace h2 := t_lss hO h2
      rw [hlen2] at h2
      conv => cbv
      obtain ⟨y, hy2⟩ : ∃ y, l[k2]? = some y := ⟨_, List.getElem?_eq_getElem (by omega)⟩
      refine ⟨mkS y, atX_map hy2 hys hi2, ?_⟩
      conv => cbv
      obtain ⟨ac3, hac3⟩ : ∃ ac3, ac3 = (insS ((l.take k2).foldl insS ((L.take k).flatten.foldl insS [])) y).map ent := ⟨_, rfl⟩
      refine ⟨ac3, by rw [hac2, hac3]; exact mput_ent _ _, fun c => ?_⟩
      conv => cbv
      refine ⟨_, _, up2 _ _ ⟨_, k2 + 1, ac3, c, rfl, ?_, by omega, rfl, ?_⟩, ⟨⟨rfl, rfl, rfl, rfl, rfl, rfl, rfl, trivial⟩, ⟨rfl, trivial⟩, rfl⟩, by omega⟩
      · rw [o_add64 hO (by omega) (by omega)]; omega
      · rw [hac3, foldl_take' hy2]
end Go.Proofs.AM
namespace Go.Proofs.AM
open Go Go.Lib Cd
theorem seen_S (z : Str) : ∀ (S : List Str), seenIn (mkS z) (S.map mkS) = some (decide (z ∈ S))
  | [] => rfl
  | x :: r => by
    have ih := seen_S z r
    have hb : (({ data := { toList := z } } : ByteArray) == { data := { toList := x } }) = decide (z = x) := by
      show (({ toList := z } : Array UInt8) == { toList := x }) = _
      rw [Bool.eq_iff_iff]
      simp
    have hd : dynEq (mkS z) (mkS x) = some (decide (z = x)) := by
      show some (_ == _) = _
      rw [hb]
    simp only [List.map_cons, seenIn, hd, Option.bind_some, ih]
    by_cases h : z = x <;> simp [h]
theorem lookDyn_ent (z : Str) : ∀ (K : List Str), z ∈ K → lookDyn (mkS z) (K.map ent) = some (some (.bool true))
  | [], h => by simp at h
  | x :: r, h => by
    have hb : (({ data := { toList := z } } : ByteArray) == { data := { toList := x } }) = decide (z = x) := by
      show (({ toList := z } : Array UInt8) == { toList := x }) = _
      rw [Bool.eq_iff_iff]
      simp
    have hd : dynEq (mkS z) (mkS x) = some (decide (z = x)) := by
      show some (_ == _) = _
      rw [hb]
    simp only [List.map_cons, ent, lookDyn, hd, Option.bind_some]
    by_cases e : z = x
    · simp [e]
    · have hm : z ∈ r := by
        rcases List.mem_cons.1 h with h | h
        · exact absurd h e
        · exact h
      simp only [e, decide_false, Bool.false_eq_true, if_false]
      exact lookDyn_ent z r hm
def NumsR (lo hi : Int) (K : List Str) (S : SetV) (b : Bool) : Prop := (b = true ∧ numbersS lo hi K = some S) ∨ (b = false ∧ numbersS lo hi K = none)
theorem upTo_get (lo : Int) : ∀ (n : Nat), upTo lo (n + 1) = upTo lo n ++ [itoa (lo + n)]
  | 0 => by simp [upTo]
  | n + 1 => by
    rw [show upTo lo (n + 1 + 1) = itoa lo :: upTo (lo + 1) (n + 1) from rfl, upTo_get (lo + 1) n]
    simp only [upTo, List.cons_append]
    rw [show lo + 1 + (n : Int) = lo + ((n + 1 : Nat) : Int) by omega]
def accN (lo : Int) (K : List Str) (j : Nat) : List Str := ((upTo lo j).filter fun s => decide (s ∉ K)).foldl insS []
theorem accN_step {lo : Int} {K : List Str} {j : Nat} {z : Str} (hz : z = itoa (lo + j)) : accN lo K (j + 1) = if z ∈ K then accN lo K j else insS (accN lo K j) z := by
  unfold accN
  rw [upTo_get, List.filter_append, List.foldl_append, ← hz]
  by_cases h : z ∈ K <;> simp [h]
theorem accN_mem {lo hi : Int} {K : List Str} {z : Str} : z ∈ accN lo K (hi + 1 - lo).toNat ↔ z ∈ listN lo hi K := by
  have := (ins_aux ((upTo lo (hi + 1 - lo).toNat).filter fun s => decide (s ∉ K)) [] List.nodup_nil).2.1 z
  unfold accN listN
  simpa using this
theorem accN_nodup (lo : Int) (K : List Str) (j : Nat) : (accN lo K j).Nodup := (ins_aux _ [] List.nodup_nil).1
theorem upTo_len (lo : Int) : ∀ n, (upTo lo n).length = n
  | 0 => rfl
  | n + 1 => by simp [upTo, upTo_len (lo + 1) n]
theorem accN_len (lo : Int) (K : List Str) (j : Nat) : (accN lo K j).length ≤ j := by
  have h1 := (ins_aux ((upTo lo j).filter fun s => decide (s ∉ K)) [] List.nodup_nil).2.2
  have h2 := List.length_filter_le (fun s => decide (s ∉ K)) (upTo lo j)
  rw [upTo_len] at h2
  unfold accN
  simp only [List.length_nil, Nat.add_zero] at h1
  omega
theorem listN_congr {lo hi : Int} {K K' : List Str} (h : ∀ z, z ∈ K ↔ z ∈ K') : listN lo hi K = listN lo hi K' := by
  unfold listN
  congr 1
  funext s
  simp [h s]
theorem upS_ge {hi : Int} {K : List Str} : ∀ (n : Nat) (lo : Int), (hi + 1 - lo).toNat ≤ n → lo ≤ upS hi K lo ∧ (lo ≤ hi + 1 → upS hi K lo ≤ hi + 1) ∧ (hi < lo → upS hi K lo = lo) := by
  intro n
  induction n with
  | zero => intro lo h; rw [upS_stop (fun h' => by omega)]; omega
  | succ n ih =>
    intro lo h
    by_cases hc : lo ≤ hi ∧ itoa lo ∈ K
    · rw [upS_step hc]; have := ih (lo + 1) (by omega); omega
    · rw [upS_stop hc]; omega
theorem dnS_le {lo : Int} {K : List Str} : ∀ (n : Nat) (hi : Int), (hi + 1 - lo).toNat ≤ n → dnS lo K hi ≤ hi ∧ (lo - 1 ≤ hi → lo - 1 ≤ dnS lo K hi) ∧ (hi < lo → dnS lo K hi = hi) := by
  intro n
  induction n with
  | zero => intro hi h; rw [dnS_stop (fun h' => by omega)]; omega
  | succ n ih =>
    intro hi h
    by_cases hc : lo ≤ hi ∧ itoa hi ∈ K
    · rw [dnS_step hc]; have := ih (hi - 1) (by omega); omega
    · rw [dnS_stop hc]; omega
theorem itoa_SL {n : Int} (h : FI n) : SL (itoa n) := by
  unfold FI at h
  have := decDigits_le 18 n.natAbs (by have : (10 : Nat) ^ (18 + 1) = 10000000000000000000 := by decide
                                       omega)
  unfold SL
  by_cases h : n < 0
  · rw [itoa_neg' h]; simp; omega
  · rw [itoa_pos' (by omega)]; omega
theorem upTo_SL {lo : Int} : ∀ {j : Nat}, (∀ i : Nat, i < j → FI (lo + i)) → ∀ s ∈ upTo lo j, SL s
  | 0, _, s, hs => by simp [upTo] at hs
  | j + 1, h, s, hs => by
    rw [upTo_get, List.mem_append] at hs
    rcases hs with hs | hs
    · exact upTo_SL (fun i hi => h i (by omega)) s hs
    · simp only [List.mem_singleton] at hs
      subst hs
      exact itoa_SL (h j (by omega))
theorem accN_SL {lo : Int} {K : List Str} {j : Nat} (h : ∀ i : Nat, i < j → FI (lo + i)) : ∀ s ∈ accN lo K j, SL s := by
  intro s hs
  have hm := ((ins_aux ((upTo lo j).filter fun s => decide (s ∉ K)) [] List.nodup_nil).2.1 s).1 hs
  simp only [List.not_mem_nil, or_false, List.mem_filter] at hm
  exact upTo_SL h s hm.1
theorem left_SL {lo hi : Int} {K K2 : List Str} (h : ∀ z, z ∈ K2 ↔ z ∈ K ∧ inR lo hi z = true) : ∀ s ∈ K2, SL s := fun s hs => by
  obtain ⟨n, hn, _⟩ := inR_iff.1 ((h s).1 hs).2
  have := numS_len hn
  unfold SL
  omega
theorem left_vals {lo hi : Int} {K K2 : List Str} (h2 : K2.Nodup) (h : ∀ z, z ∈ K2 ↔ z ∈ K ∧ inR lo hi z = true) : risingS K2 = valsN lo hi K ∧ (valsN lo hi K).length = K2.length ∧ ∀ z, z ∈ K2 ↔ z ∈ valsN lo hi K := by
  have e : risingS K2 = valsN lo hi K := risingS_congr fun z => by rw [h z]; simp
  refine ⟨e, by rw [← e, risingS_len_eq h2], fun z => by rw [← e, risingS_mem]⟩
set_option maxRecDepth 100000 in
set_option maxHeartbeats 8000000 in
theorem numbers34_ok (R : Ans) (h13 : ∀ s, SL s → ∀ v b, NumR s v b → R.v 187 [mkS s] (.tup [.int .i64 v, .bool b])) (h36 : ∀ n, FI n → R.v 216 [.int .i64 n, .int .i64 10] (mkS (itoa n)))
    (h32 : ∀ K : List Str, K.Nodup → (∀ s ∈ K, SL s) → K.length ≤ 8796093022208 → R.v 182 [.mapv (K.map ent)] (.sl 1 false ((risingS K).map mkS))) (lo0 hi0 : Int) (hb1 : least ≤ lo0) (hb2 : lo0 ≤ most + 1) (hb3 : hi0 ≤ most) (hb4 : least - 1 ≤ hi0) (K : List Str) (hK : K = []) (hKl : K.length ≤ 8796093022208) (S : SetV) (b : Bool) (hS : NumsR lo0 hi0 K S b) : AnsF R c183 [.int .i64 lo0, .int .i64 hi0, .mapv (K.map ent)] (.tup [setD S, .bool b]) := by
  unfold least at hb1 hb4
  unfold most at hb2 hb3
  refine wpF_sound ⟨rfl, by decide⟩ fun O hO V hV => ?_
  subst hV
  obtain ⟨es, hes⟩ : ∃ es, es = K.map ent := ⟨_, rfl⟩
  rw [← hes]
  obtain ⟨r, hrr⟩ : ∃ r, r = D.tup [setD S, .bool b] := ⟨_, rfl⟩
  rw [← hrr]
  have hleq : O .len es = K.length := by rw [o_len hO, hes]; simp
  have look : ∀ z : Str, ∃ r, lookD kS (mkS z) es = some r ∧ ((z ∈ K ∧ r = some (.bool true)) ∨ (z ∉ K ∧ r = none)) := fun z => by
    rw [hes, look_ent]
    by_cases h : z ∈ K
    · exact ⟨_, rfl, .inl ⟨h, by simp [h]⟩⟩
    · exact ⟨_, rfl, .inr ⟨h, by simp [h]⟩⟩
  have fmt : ∀ x : Int, FI x → ∃ z : Str, V.v 216 [.int .i64 x, .int .i64 10] (.str ⟨⟨z⟩⟩) ∧ z = itoa x := fun x hx => ⟨_, h36 x hx, rfl⟩
  conv => cbv
  refine join_of (fun d => ∃ x : Int, d = ⟨[(0, .int .i64 x), (1, .int .i64 hi0), (2, .mapv es), (6, .ptr 6 1 0)], [(6, ⟨1, .rw, .var, [.bool false, .bool false, .bool false, .sl 1 true [], .int .i64 0, .int .i64 0]⟩)], false⟩ ∧ x = upS hi0 K lo0) (fun M upm => ?_) ?_
  · conv => cbv
    refine loop_of (fun n d => ∃ x : Int, d = ⟨[(0, .int .i64 x), (1, .int .i64 hi0), (2, .mapv es), (6, .ptr 6 1 0)], [(6, ⟨1, .rw, .var, [.bool false, .bool false, .bool false, .sl 1 true [], .int .i64 0, .int .i64 0]⟩)], false⟩ ∧ n = (hi0 + 1 - x).toNat ∧ (x ≤ hi0 + 1 ∨ x = lo0) ∧ lo0 ≤ x ∧ upS hi0 K x = upS hi0 K lo0) ⟨_, _, ⟨_, rfl, rfl, .inr rfl, Int.le_refl _, rfl⟩, ⟨⟨rfl, rfl, rfl, rfl, trivial⟩, ⟨rfl, trivial⟩, rfl⟩⟩ ?_
    rintro J up n d ⟨x, rfl, rfl, hx1, hx2, hx3⟩
    conv => cbv
    rintro (_ | _) h1
    · replace h1 := f_leq hO h1
      conv => cbv
      exact ⟨_, upm _ ⟨x, rfl, by rw [← hx3, upS_stop (fun h => by omega)]⟩, ⟨⟨rfl, rfl, rfl, rfl, trivial⟩, ⟨rfl, trivial⟩, rfl⟩⟩
    · replace h1 := t_leq hO h1
      conv => cbv
      obtain ⟨z, hz, hzi⟩ := fmt x (by unfold FI; omega)
      refine ⟨_, hz, ?_⟩
      conv => cbv
      obtain ⟨q, hq, hcase⟩ := look z
      refine ⟨q, hq, ?_⟩
      rcases hcase with ⟨hm, rfl⟩ | ⟨hm, rfl⟩
      · conv => cbv
        refine ⟨_, _, up _ _ ⟨_, rfl, rfl, ?_, ?_, ?_⟩, ⟨⟨rfl, rfl, rfl, rfl, trivial⟩, ⟨rfl, trivial⟩, rfl⟩, ?_⟩
        all_goals rw [o_add64 hO (by omega) (by omega)]
        · omega
        · omega
        · rw [← hx3, ← upS_step ⟨h1, by rw [← hzi]; exact hm⟩]
        · omega
      · conv => cbv
        exact ⟨_, upm _ ⟨x, rfl, by rw [← hx3, upS_stop (fun h => hm (by rw [hzi]; exact h.2))]⟩, ⟨⟨rfl, rfl, rfl, rfl, trivial⟩, ⟨rfl, trivial⟩, rfl⟩⟩
  rintro d ⟨x, rfl, hx⟩
  have hxb := upS_ge (hi := hi0) (K := K) _ lo0 (Nat.le_refl _)
  rw [← hx] at hxb
  conv => cbv
  refine join_of (fun d => ∃ y : Int, d = ⟨[(0, .int .i64 x), (1, .int .i64 y), (2, .mapv es), (6, .ptr 6 1 0)], [(6, ⟨1, .rw, .var, [.bool false, .bool false, .bool false, .sl 1 true [], .int .i64 0, .int .i64 0]⟩)], false⟩ ∧ y = dnS x K hi0) (fun M upm => ?_) ?_
  · conv => cbv
    refine loop_of (fun n d => ∃ y : Int, d = ⟨[(0, .int .i64 x), (1, .int .i64 y), (2, .mapv es), (6, .ptr 6 1 0)], [(6, ⟨1, .rw, .var, [.bool false, .bool false, .bool false, .sl 1 true [], .int .i64 0, .int .i64 0]⟩)], false⟩ ∧ n = (y + 1 - x).toNat ∧ (x - 1 ≤ y ∨ y = hi0) ∧ y ≤ hi0 ∧ dnS x K y = dnS x K hi0) ⟨_, _, ⟨_, rfl, rfl, .inr rfl, Int.le_refl _, rfl⟩, ⟨⟨rfl, rfl, rfl, rfl, trivial⟩, ⟨rfl, trivial⟩, rfl⟩⟩ ?_
    rintro J up n d ⟨y, rfl, rfl, hx1, hx2, hx3⟩
    conv => cbv
    rintro (_ | _) h1
    · replace h1 := f_leq hO h1
      conv => cbv
      exact ⟨_, upm _ ⟨y, rfl, by rw [← hx3, dnS_stop (fun h => by omega)]⟩, ⟨⟨rfl, rfl, rfl, rfl, trivial⟩, ⟨rfl, trivial⟩, rfl⟩⟩
    · replace h1 := t_leq hO h1
      conv => cbv
      obtain ⟨z, hz, hzi⟩ := fmt y (by unfold FI; omega)
      refine ⟨_, hz, ?_⟩
      conv => cbv
      obtain ⟨q, hq, hcase⟩ := look z
      refine ⟨q, hq, ?_⟩
      rcases hcase with ⟨hm, rfl⟩ | ⟨hm, rfl⟩
      · conv => cbv
        refine ⟨_, _, up _ _ ⟨_, rfl, rfl, ?_, ?_, ?_⟩, ⟨⟨rfl, rfl, rfl, rfl, trivial⟩, ⟨rfl, trivial⟩, rfl⟩, ?_⟩
        all_goals rw [o_sub64 hO (by omega) (by omega)]
        · omega
        · omega
        · rw [← hx3, ← dnS_step ⟨h1, by rw [← hzi]; exact hm⟩]
        · omega
      · conv => cbv
        exact ⟨_, upm _ ⟨y, rfl, by rw [← hx3, dnS_stop (fun h => hm (by rw [hzi]; exact h.2))]⟩, ⟨⟨rfl, rfl, rfl, rfl, trivial⟩, ⟨rfl, trivial⟩, rfl⟩⟩
  rintro d ⟨y, rfl, hy⟩
  have hyb := dnS_le (lo := x) (K := K) _ hi0 (Nat.le_refl _)
  rw [← hy] at hyb
  conv => cbv
  refine join_of (fun d => ∃ (K2 : List Str) (es2 : List D), d = ⟨[(0, .int .i64 x), (1, .int .i64 y), (2, .mapv es2), (6, .ptr 6 1 0)], [(6, ⟨1, .rw, .var, [.bool false, .bool false, .bool false, .sl 1 true [], .int .i64 0, .int .i64 0]⟩)], false⟩ ∧ es2 = K2.map ent ∧ K2.Nodup ∧ K2.length ≤ K.length ∧ ∀ z, z ∈ K2 ↔ z ∈ K ∧ inR x y z = true) (fun M upm => ?_) ?_
  · conv => cbv
    intro g37
    conv => cbv
    subst hK
    rw [List.map_nil] at hes
    refine loop_of (fun n d => n = 0 ∧ d = ⟨[(0, .int .i64 x), (1, .int .i64 y), (2, .mapv es), (6, .ptr 6 1 0), (37, .ptr 37 g37 0)], [(6, ⟨1, .rw, .var, [.bool false, .bool false, .bool false, .sl 1 true [], .int .i64 0, .int .i64 0]⟩), (37, ⟨g37, .rw, .iter, [.mapv es, .int .i64 0]⟩)], false⟩) ⟨_, _, ⟨rfl, rfl⟩, ⟨⟨rfl, rfl, rfl, rfl, rfl, trivial⟩, ⟨rfl, rfl, trivial⟩, rfl⟩⟩ ?_
    rintro J up n d ⟨rfl, rfl⟩
    conv => cbv
    refine ⟨fun w hw => by rw [hes] at hw; simp at hw, fun _ => ?_, fun k w hw => by rw [hes] at hw; simp at hw⟩
    conv => cbv
    exact ⟨_, upm _ ⟨[], es, rfl, hes, List.nodup_nil, Nat.le_refl _, fun z => by simp⟩, ⟨⟨rfl, rfl, rfl, rfl, trivial⟩, ⟨rfl, trivial⟩, rfl⟩⟩
  rintro d ⟨K2, es2, rfl, hes2, hnd, hlen2, hmem⟩
  obtain ⟨hv1, hv2, hv3⟩ := left_vals hnd hmem
  have hl2 : O .len es2 = K2.length := by rw [o_len hO, hes2]; simp
  have hc2 : CleanL es2 := cleanL_map clean_ent hes2
  have hans : numbersS lo0 hi0 K = numbersN x y K := by unfold numbersS; rw [← hx, ← hy]
  have hspan : O .iop .sub .i64 (O .iop .add .i64 (O .iop .sub .i64 y x) 1) (O .len es2) = y - x + 1 - K2.length := by
    have e1 : O .iop .sub .i64 y x = y - x := o_sub64 hO (by omega) (by omega)
    rw [e1, o_add64 hO (by omega) (by omega), hl2, o_sub64 hO (by omega) (by omega)]
  have look2 : ∀ z : Str, ∃ r, lookD kS (mkS z) es2 = some r ∧ ((z ∈ K2 ∧ r = some (.bool true)) ∨ (z ∉ K2 ∧ r = none)) := fun z => by
    rw [hes2, look_ent]
    by_cases h : z ∈ K2
    · exact ⟨_, rfl, .inl ⟨h, by simp [h]⟩⟩
    · exact ⟨_, rfl, .inr ⟨h, by simp [h]⟩⟩
  conv => cbv
  rintro (_ | _) h1
  · replace h1 := f_gtr hO h1
    rw [hspan] at h1
    conv => cbv
    intro g77
    conv => cbv
    refine loop_of (fun n d => ∃ (v : Int) (j : Nat) (ac : List D) (tk : Int), d = ⟨[(1, .int .i64 y), (2, .mapv es2), (6, .ptr 6 1 0), (11, .mapr 77 g77), (12, .int .i64 v)], [(6, ⟨1, .rw, .var, [.bool false, .bool false, .bool false, .sl 1 true [], .int .i64 0, .int .i64 0]⟩), (77, ⟨g77, .rw, .map, .int .i64 tk :: ac⟩)], false⟩ ∧ v = x + j ∧ (j = 0 ∨ v ≤ y + 1) ∧ n = (y + 1 - v).toNat ∧ ac = (accN x K2 j).map ent) ⟨_, _, ⟨x, 0, _, _, rfl, by omega, .inl rfl, rfl, rfl⟩, ⟨⟨rfl, rfl, rfl, rfl, rfl, trivial⟩, ⟨rfl, rfl, trivial⟩, rfl⟩⟩ ?_
    rintro J up n d ⟨v, j, ac, tk, rfl, hv, hvj, rfl, hac⟩
    conv => cbv
    rintro (_ | _) h2
    · replace h2 := f_leq hO h2
      conv => cbv
      have hj : accN x K2 j = accN x K2 (y + 1 - x).toNat := by
        rcases hvj with h | h
        · subst h; rw [show (y + 1 - x).toNat = 0 by omega]
        · rw [show (y + 1 - x).toNat = j by omega]
      have hcac : CleanL ac := cleanL_map clean_ent hac
      have hal := accN_len x K2 j
      have hr := h32 (accN x K2 j) (accN_nodup _ _ _) (accN_SL fun i hi => ⟨by omega, by omega⟩) (by omega)
      rw [← hac] at hr
      obtain ⟨rs, hrs⟩ : ∃ rs, rs = (risingS (accN x K2 j)).map mkS := ⟨_, rfl⟩
      have hcr : CleanL rs := cleanL_map clean_S hrs
      rw [← hrs] at hr
      have hfin : risingS (accN x K2 j) = risingS (listN x y (valsN x y K)) := by
        rw [hj, ← listN_congr hv3]
        exact risingS_congr fun z => accN_mem
      refine ⟨hcac, _, hr, ?_⟩
      conv => cbv
      have hN : numbersN x y K = some ⟨false, false, false, risingS (accN x K2 j), 0, 0⟩ := by unfold numbersN; rw [if_pos (by rw [hv2]; omega), hfin]
      refine ⟨hcr, ?_⟩
      conv => cbv
      rcases hS with ⟨rfl, hS⟩ | ⟨rfl, hS⟩
      · rw [hans, hN] at hS
        simp only [Option.some.injEq] at hS
        subst hS
        rw [hrr]
        simp only [setD, ]
        rw [← hrs]
      · rw [hans, hN] at hS
        simp at hS
    · replace h2 := t_leq hO h2
      conv => cbv
      obtain ⟨z, hz, hzi⟩ := fmt v (by unfold FI; omega)
      refine ⟨_, hz, ?_⟩
      conv => cbv
      obtain ⟨q, hq, hcase⟩ := look2 z
      have hadd : O .iop .add .i64 v 1 = v + 1 := o_add64 hO (by omega) (by omega)
      have hst := accN_step (lo := x) (K := K2) (j := j) (z := z) (by rw [hzi, hv])
      refine ⟨q, hq, ?_⟩
      rcases hcase with ⟨hm, rfl⟩ | ⟨hm, rfl⟩
      · conv => cbv
        rw [hadd]
        refine ⟨_, _, up _ _ ⟨v + 1, j + 1, ac, tk, rfl, by omega, .inr (by omega), rfl, ?_⟩, ⟨⟨rfl, rfl, rfl, rfl, rfl, trivial⟩, ⟨rfl, rfl, trivial⟩, rfl⟩, by omega⟩
        rw [hac, hst, if_pos hm]
      · conv => cbv
        obtain ⟨ac3, hac3⟩ : ∃ ac3, ac3 = (insS (accN x K2 j) z).map ent := ⟨_, rfl⟩
        refine ⟨ac3, by rw [hac, hac3]; exact mput_ent _ _, fun c => ?_⟩
        conv => cbv
        rw [hadd]
        refine ⟨_, _, up _ _ ⟨v + 1, j + 1, ac3, c, rfl, by omega, .inr (by omega), rfl, ?_⟩, ⟨⟨rfl, rfl, rfl, rfl, rfl, trivial⟩, ⟨rfl, rfl, trivial⟩, rfl⟩, by omega⟩
        rw [hac3, hst, if_neg hm]
  · replace h1 := t_gtr hO h1
    rw [hspan] at h1
    conv => cbv
    have hr := h32 K2 hnd (left_SL hmem) (by omega)
    rw [← hes2] at hr
    obtain ⟨rs, hrs⟩ : ∃ rs, rs = (risingS K2).map mkS := ⟨_, rfl⟩
    have hcr : CleanL rs := cleanL_map clean_S hrs
    rw [← hrs] at hr
    refine ⟨hc2, _, hr, ?_⟩
    conv => cbv
    rintro (_ | _) h2
    · replace h2 := f_leq hO h2
      rw [hl2] at h2
      conv => cbv
      exfalso
      subst hK
      simp only [List.length_nil] at hlen2
      omega
    · replace h2 := t_leq hO h2
      rw [hl2] at h2
      conv => cbv
      have hN : numbersN x y K = some ⟨false, true, true, valsN x y K, x, y⟩ := by unfold numbersN; rw [if_neg (by rw [hv2]; omega), if_neg (by rw [hv2]; omega)]
      refine ⟨hcr, ?_⟩
      conv => cbv
      rcases hS with ⟨rfl, hS⟩ | ⟨rfl, hS⟩
      · rw [hans, hN] at hS
        simp only [Option.some.injEq] at hS
        subst hS
        rw [hrr]
        simp only [setD, ← hv1]
        rw [← hrs]
      · rw [hans, hN] at hS
        simp at hS
set_option maxRecDepth 100000 in
set_option maxHeartbeats 8000000 in
theorem numbers34_shared (R : Ans) (h13 : ∀ s, SL s → ∀ v b, NumR s v b → R.v 187 [mkS s] (.tup [.int .i64 v, .bool b])) (h36 : ∀ n, FI n → R.v 216 [.int .i64 n, .int .i64 10] (mkS (itoa n)))
    (h32 : ∀ K : List Str, K.Nodup → (∀ s ∈ K, SL s) → K.length ≤ 8796093022208 → R.v 182 [.mapv (K.map ent)] (.sl 1 false ((risingS K).map mkS))) (lo0 hi0 : Int) (hb1 : least ≤ lo0) (hb2 : lo0 ≤ most + 1) (hb3 : hi0 ≤ most) (hb4 : least - 1 ≤ hi0) (K : List Str) (hKn : K.Nodup) (hKs : ∀ s ∈ K, SL s) (hKl : K.length ≤ 8796093022208) (gm : Nat) (c0 : Int) : ∀ O : Ops, O = Ops.std → ∀ V : Ans, V = R → wpS O V 600 c183 [.int .i64 lo0, .int .i64 hi0, .mapr 308 gm] [(308, ⟨gm, .rw, .map, .int .i64 c0 :: K.map ent⟩)] (fun r _ => ∃ S b, r = .tup [setD S, .bool b] ∧ NumsR lo0 hi0 K S b) := by
  unfold least at hb1 hb4
  unfold most at hb2 hb3
  intro O hO V hV
  subst hV
  obtain ⟨es, hes⟩ : ∃ es, es = K.map ent := ⟨_, rfl⟩
  rw [← hes]
  have hleq : O .len es = K.length := by rw [o_len hO, hes]; simp
  have look : ∀ z : Str, ∃ r, lookD kS (mkS z) es = some r ∧ ((z ∈ K ∧ r = some (.bool true)) ∨ (z ∉ K ∧ r = none)) := fun z => by
    rw [hes, look_ent]
    by_cases h : z ∈ K
    · exact ⟨_, rfl, .inl ⟨h, by simp [h]⟩⟩
    · exact ⟨_, rfl, .inr ⟨h, by simp [h]⟩⟩
  have fmt : ∀ x : Int, FI x → ∃ z : Str, V.v 216 [.int .i64 x, .int .i64 10] (.str ⟨⟨z⟩⟩) ∧ z = itoa x := fun x hx => ⟨_, h36 x hx, rfl⟩
  conv => cbv
  intro g6
  conv => cbv
  refine join_of (fun d => ∃ x : Int, d = ⟨[(0, .int .i64 x), (1, .int .i64 hi0), (2, .mapr 308 gm), (6, .ptr 606 g6 0)], [(606, ⟨g6, .rw, .var, [.bool false, .bool false, .bool false, .sl 1 true [], .int .i64 0, .int .i64 0]⟩), (308, ⟨gm, .rw, .map, .int .i64 c0 :: es⟩)], false⟩ ∧ x = upS hi0 K lo0) (fun M upm => ?_) ?_
  · conv => cbv
    refine loop_of (fun n d => ∃ x : Int, d = ⟨[(0, .int .i64 x), (1, .int .i64 hi0), (2, .mapr 308 gm), (6, .ptr 606 g6 0)], [(606, ⟨g6, .rw, .var, [.bool false, .bool false, .bool false, .sl 1 true [], .int .i64 0, .int .i64 0]⟩), (308, ⟨gm, .rw, .map, .int .i64 c0 :: es⟩)], false⟩ ∧ n = (hi0 + 1 - x).toNat ∧ (x ≤ hi0 + 1 ∨ x = lo0) ∧ lo0 ≤ x ∧ upS hi0 K x = upS hi0 K lo0) ⟨_, _, ⟨_, rfl, rfl, .inr rfl, Int.le_refl _, rfl⟩, ⟨⟨rfl, rfl, rfl, rfl, trivial⟩, ⟨rfl, rfl, trivial⟩, rfl⟩⟩ ?_
    rintro J up n d ⟨x, rfl, rfl, hx1, hx2, hx3⟩
    conv => cbv
    rintro (_ | _) h1
    · replace h1 := f_leq hO h1
      conv => cbv
      exact ⟨_, upm _ ⟨x, rfl, by rw [← hx3, upS_stop (fun h => by omega)]⟩, ⟨⟨rfl, rfl, rfl, rfl, trivial⟩, ⟨rfl, rfl, trivial⟩, rfl⟩⟩
    · replace h1 := t_leq hO h1
      conv => cbv
      obtain ⟨z, hz, hzi⟩ := fmt x (by unfold FI; omega)
      refine ⟨_, hz, ?_⟩
      conv => cbv
      obtain ⟨q, hq, hcase⟩ := look z
      refine ⟨q, hq, ?_⟩
      rcases hcase with ⟨hm, rfl⟩ | ⟨hm, rfl⟩
      · conv => cbv
        refine ⟨_, _, up _ _ ⟨_, rfl, rfl, ?_, ?_, ?_⟩, ⟨⟨rfl, rfl, rfl, rfl, trivial⟩, ⟨rfl, rfl, trivial⟩, rfl⟩, ?_⟩
        all_goals rw [o_add64 hO (by omega) (by omega)]
        · omega
        · omega
        · rw [← hx3, ← upS_step ⟨h1, by rw [← hzi]; exact hm⟩]
        · omega
      · conv => cbv
        exact ⟨_, upm _ ⟨x, rfl, by rw [← hx3, upS_stop (fun h => hm (by rw [hzi]; exact h.2))]⟩, ⟨⟨rfl, rfl, rfl, rfl, trivial⟩, ⟨rfl, rfl, trivial⟩, rfl⟩⟩
  rintro d ⟨x, rfl, hx⟩
  have hxb := upS_ge (hi := hi0) (K := K) _ lo0 (Nat.le_refl _)
  rw [← hx] at hxb
  conv => cbv
  refine join_of (fun d => ∃ y : Int, d = ⟨[(0, .int .i64 x), (1, .int .i64 y), (2, .mapr 308 gm), (6, .ptr 606 g6 0)], [(606, ⟨g6, .rw, .var, [.bool false, .bool false, .bool false, .sl 1 true [], .int .i64 0, .int .i64 0]⟩), (308, ⟨gm, .rw, .map, .int .i64 c0 :: es⟩)], false⟩ ∧ y = dnS x K hi0) (fun M upm => ?_) ?_
  · conv => cbv
    refine loop_of (fun n d => ∃ y : Int, d = ⟨[(0, .int .i64 x), (1, .int .i64 y), (2, .mapr 308 gm), (6, .ptr 606 g6 0)], [(606, ⟨g6, .rw, .var, [.bool false, .bool false, .bool false, .sl 1 true [], .int .i64 0, .int .i64 0]⟩), (308, ⟨gm, .rw, .map, .int .i64 c0 :: es⟩)], false⟩ ∧ n = (y + 1 - x).toNat ∧ (x - 1 ≤ y ∨ y = hi0) ∧ y ≤ hi0 ∧ dnS x K y = dnS x K hi0) ⟨_, _, ⟨_, rfl, rfl, .inr rfl, Int.le_refl _, rfl⟩, ⟨⟨rfl, rfl, rfl, rfl, trivial⟩, ⟨rfl, rfl, trivial⟩, rfl⟩⟩ ?_
    rintro J up n d ⟨y, rfl, rfl, hx1, hx2, hx3⟩
    conv => cbv
    rintro (_ | _) h1
    · replace h1 := f_leq hO h1
      conv => cbv
      exact ⟨_, upm _ ⟨y, rfl, by rw [← hx3, dnS_stop (fun h => by omega)]⟩, ⟨⟨rfl, rfl, rfl, rfl, trivial⟩, ⟨rfl, rfl, trivial⟩, rfl⟩⟩
    · replace h1 := t_leq hO h1
      conv => cbv
      obtain ⟨z, hz, hzi⟩ := fmt y (by unfold FI; omega)
      refine ⟨_, hz, ?_⟩
      conv => cbv
      obtain ⟨q, hq, hcase⟩ := look z
      refine ⟨q, hq, ?_⟩
      rcases hcase with ⟨hm, rfl⟩ | ⟨hm, rfl⟩
      · conv => cbv
        refine ⟨_, _, up _ _ ⟨_, rfl, rfl, ?_, ?_, ?_⟩, ⟨⟨rfl, rfl, rfl, rfl, trivial⟩, ⟨rfl, rfl, trivial⟩, rfl⟩, ?_⟩
        all_goals rw [o_sub64 hO (by omega) (by omega)]
        · omega
        · omega
        · rw [← hx3, ← dnS_step ⟨h1, by rw [← hzi]; exact hm⟩]
        · omega
      · conv => cbv
        exact ⟨_, upm _ ⟨y, rfl, by rw [← hx3, dnS_stop (fun h => hm (by rw [hzi]; exact h.2))]⟩, ⟨⟨rfl, rfl, rfl, rfl, trivial⟩, ⟨rfl, rfl, trivial⟩, rfl⟩⟩
  rintro d ⟨y, rfl, hy⟩
  have hyb := dnS_le (lo := x) (K := K) _ hi0 (Nat.le_refl _)
  rw [← hy] at hyb
  conv => cbv
  refine join_of (fun d => ∃ (K2 : List Str) (es2 : List D), d = ⟨[(0, .int .i64 x), (1, .int .i64 y), (2, .mapr 308 gm), (6, .ptr 606 g6 0)], [(606, ⟨g6, .rw, .var, [.bool false, .bool false, .bool false, .sl 1 true [], .int .i64 0, .int .i64 0]⟩), (308, ⟨gm, .rw, .map, .int .i64 c0 :: es2⟩)], false⟩ ∧ es2 = K2.map ent ∧ K2.Nodup ∧ K2.length ≤ K.length ∧ ∀ z, z ∈ K2 ↔ z ∈ K ∧ inR x y z = true) (fun M upm => ?_) ?_
  · conv => cbv
    intro g37
    conv => cbv
    refine loop_of (fun n d => ∃ (K' S : List Str) (es' ks : List D), d = ⟨[(0, .int .i64 x), (1, .int .i64 y), (2, .mapr 308 gm), (6, .ptr 606 g6 0), (37, .ptr 637 g37 0)], [(606, ⟨g6, .rw, .var, [.bool false, .bool false, .bool false, .sl 1 true [], .int .i64 0, .int .i64 0]⟩), (308, ⟨gm, .rw, .map, .int .i64 c0 :: es'⟩), (637, ⟨g37, .rw, .iter, .mapr 308 gm :: .int .i64 c0 :: ks⟩)], false⟩ ∧ es' = K'.map ent ∧ ks = S.map mkS ∧ K'.Nodup ∧ (∀ z ∈ K', z ∈ K) ∧ K'.length ≤ K.length ∧ S.Nodup ∧ (∀ z ∈ S, z ∈ K) ∧ (∀ z ∈ K, z ∉ K' → inR x y z = false) ∧ (∀ z ∈ S, z ∈ K' → inR x y z = true) ∧ n = K.length - S.length) ⟨_, _, ⟨K, [], es, [], rfl, hes, rfl, hKn, fun _ h => h, Nat.le_refl _, List.nodup_nil, by simp, fun z h h' => absurd h h', by simp, rfl⟩, ⟨⟨rfl, rfl, rfl, rfl, rfl, trivial⟩, ⟨rfl, rfl, rfl, trivial⟩, rfl⟩⟩ ?_
    rintro J up n d ⟨K', S, es', ks, rfl, hes', hks, hK1, hK2, hK3, hS1, hS2, hK4, hS3, rfl⟩
    conv => cbv
    refine ⟨fun w hw => ?_, fun hall => ?_, fun k w hw hs => ?_⟩
    · rw [hes'] at hw
      obtain ⟨z, _, rfl⟩ := List.mem_map.1 hw
      exact ⟨mkS z, .bool true, decide (z ∈ S), rfl, by rw [hks]; exact seen_S z S⟩
    · conv => cbv
      refine ⟨_, upm _ ⟨K', es', rfl, hes', hK1, hK3, fun z => ⟨fun hz => ⟨hK2 z hz, ?_⟩, fun hz => ?_⟩⟩, ⟨⟨rfl, rfl, rfl, rfl, trivial⟩, ⟨rfl, rfl, trivial⟩, rfl⟩⟩
      · have h1 := hall (mkS z) (.bool true) (by rw [hes']; exact List.mem_map.2 ⟨z, hz, rfl⟩)
        rw [hks, seen_S] at h1
        exact hS3 z (by simpa using h1) hz
      · refine Classical.byContradiction fun hn => ?_
        have := hK4 z hz.1 hn
        rw [this] at hz
        simp at hz
    · have hw2 := hw
      rw [hes'] at hw2
      obtain ⟨z, hzK, he⟩ := List.mem_map.1 hw2
      simp only [ent, D.tup.injEq, List.cons.injEq, and_true] at he
      obtain ⟨rfl, rfl⟩ := he
      rw [hks, seen_S] at hs
      have hzS : z ∉ S := by simpa using hs
      obtain ⟨ks2, hks2'⟩ : ∃ ks2, ks2 = O .app ks [mkS z] := ⟨_, rfl⟩
      have hks2 : ks2 = (S ++ [z]).map mkS := by rw [hks2', o_app hO, hks]; simp
      have hS1' : (S ++ [z]).Nodup := by
        rw [List.nodup_append]
        refine ⟨hS1, by simp, fun a ha b hb => ?_⟩
        simp only [List.mem_singleton] at hb
        subst hb
        exact fun e => hzS (by rw [← e]; exact ha)
      have hS2' : ∀ w ∈ S ++ [z], w ∈ K := fun w hw => by
        rcases List.mem_append.1 hw with hw | hw
        · exact hS2 w hw
        · simp only [List.mem_singleton] at hw; subst hw; exact hK2 w hzK
      have hmeas : K.length - (S ++ [z]).length < K.length - S.length := by
        have := nodup_len hS1' hS2'
        simp at this ⊢
        omega
      obtain ⟨v, b, hvb⟩ := NumR.ex z
      have hv := h13 z (hKs z (hK2 z hzK)) v b hvb
      have hbad : (¬ ∃ n, numS z = some n ∧ x < n ∧ n < y) → inR x y z = false := fun h => by
        cases hi : inR x y z with
        | false => rfl
        | true => exact absurd (inR_iff.1 hi) h
      conv => cbv
      rw [← hks2']
      refine ⟨mkS z, .bool true, by rw [hks2]; simp, by rw [hes']; exact lookDyn_ent z K' hzK, ?_⟩
      conv => cbv
      refine ⟨_, hv, ?_⟩
      cases b with
      | false =>
        conv => cbv
        refine ⟨_, by rw [hes']; exact mdel_ent z K', ?_⟩
        obtain ⟨es3, hes3⟩ : ∃ es3, es3 = (K'.erase z).map ent := ⟨_, rfl⟩
        rw [← hes3]
        conv => cbv
        exact ⟨_, _, up _ _ ⟨K'.erase z, S ++ [z], es3, _, rfl, hes3, hks2, hK1.erase z, fun w hw => hK2 w (List.mem_of_mem_erase hw), Nat.le_trans List.length_erase_le hK3, hS1', hS2', fun w hw hn => (by
          by_cases e : w = z
          · subst e; exact hbad (fun ⟨n, hn, _⟩ => by have := (hvb.of hn).1; simp at this)
          · exact hK4 w hw fun h => hn ((List.mem_erase_of_ne e).2 h)), fun w hw hw2 => (by
          rcases List.mem_append.1 hw with hw | hw
          · exact hS3 w hw (List.mem_of_mem_erase hw2)
          · simp only [List.mem_singleton] at hw; subst hw; exact absurd hw2 (List.Nodup.not_mem_erase hK1)), rfl⟩, ⟨⟨rfl, rfl, rfl, rfl, rfl, trivial⟩, ⟨rfl, rfl, rfl, trivial⟩, rfl⟩, hmeas⟩
      | true =>
        have hnum : numS z = some v := by
          rcases hvb with ⟨_, h⟩ | ⟨h, _⟩
          · exact h
          · simp at h
        conv => cbv
        rintro (_ | _) h1
        · replace h1 := f_leq hO h1
          conv => cbv
          rintro (_ | _) h2
          · replace h2 := f_geq hO h2
            conv => cbv
            exact ⟨_, _, up _ _ ⟨K', S ++ [z], es', _, rfl, hes', hks2, hK1, hK2, hK3, hS1', hS2', hK4, fun w hw hw2 => (by
              rcases List.mem_append.1 hw with hw | hw
              · exact hS3 w hw hw2
              · simp only [List.mem_singleton] at hw; subst hw; exact inR_iff.2 ⟨v, hnum, h1, h2⟩), rfl⟩, ⟨⟨rfl, rfl, rfl, rfl, rfl, trivial⟩, ⟨rfl, rfl, rfl, trivial⟩, rfl⟩, hmeas⟩
          · replace h2 := t_geq hO h2
            conv => cbv
            refine ⟨_, by rw [hes']; exact mdel_ent z K', ?_⟩
            obtain ⟨es3, hes3⟩ : ∃ es3, es3 = (K'.erase z).map ent := ⟨_, rfl⟩
            rw [← hes3]
            conv => cbv
            exact ⟨_, _, up _ _ ⟨K'.erase z, S ++ [z], es3, _, rfl, hes3, hks2, hK1.erase z, fun w hw => hK2 w (List.mem_of_mem_erase hw), Nat.le_trans List.length_erase_le hK3, hS1', hS2', fun w hw hn => (by
              by_cases e : w = z
              · subst e; exact hbad (fun ⟨n, hn, h8, h9⟩ => by rw [hnum] at hn; simp only [Option.some.injEq] at hn; omega)
              · exact hK4 w hw fun h => hn ((List.mem_erase_of_ne e).2 h)), fun w hw hw2 => (by
              rcases List.mem_append.1 hw with hw | hw
              · exact hS3 w hw (List.mem_of_mem_erase hw2)
              · simp only [List.mem_singleton] at hw; subst hw; exact absurd hw2 (List.Nodup.not_mem_erase hK1)), rfl⟩, ⟨⟨rfl, rfl, rfl, rfl, rfl, trivial⟩, ⟨rfl, rfl, rfl, trivial⟩, rfl⟩, hmeas⟩
        · replace h1 := t_leq hO h1
          conv => cbv
          refine ⟨_, by rw [hes']; exact mdel_ent z K', ?_⟩
          obtain ⟨es3, hes3⟩ : ∃ es3, es3 = (K'.erase z).map ent := ⟨_, rfl⟩
          rw [← hes3]
          conv => cbv
          exact ⟨_, _, up _ _ ⟨K'.erase z, S ++ [z], es3, _, rfl, hes3, hks2, hK1.erase z, fun w hw => hK2 w (List.mem_of_mem_erase hw), Nat.le_trans List.length_erase_le hK3, hS1', hS2', fun w hw hn => (by
            by_cases e : w = z
            · subst e; exact hbad (fun ⟨n, hn, h8, h9⟩ => by rw [hnum] at hn; simp only [Option.some.injEq] at hn; omega)
            · exact hK4 w hw fun h => hn ((List.mem_erase_of_ne e).2 h)), fun w hw hw2 => (by
            rcases List.mem_append.1 hw with hw | hw
            · exact hS3 w hw (List.mem_of_mem_erase hw2)
            · simp only [List.mem_singleton] at hw; subst hw; exact absurd hw2 (List.Nodup.not_mem_erase hK1)), rfl⟩, ⟨⟨rfl, rfl, rfl, rfl, rfl, trivial⟩, ⟨rfl, rfl, rfl, trivial⟩, rfl⟩, hmeas⟩
  rintro d ⟨K2, es2, rfl, hes2, hnd, hlen2, hmem⟩
  obtain ⟨hv1, hv2, hv3⟩ := left_vals hnd hmem
  have hl2 : O .len es2 = K2.length := by rw [o_len hO, hes2]; simp
  have hc2 : CleanL es2 := cleanL_map clean_ent hes2
  have hans : numbersS lo0 hi0 K = numbersN x y K := by unfold numbersS; rw [← hx, ← hy]
  have hspan : O .iop .sub .i64 (O .iop .add .i64 (O .iop .sub .i64 y x) 1) (O .len es2) = y - x + 1 - K2.length := by
    have e1 : O .iop .sub .i64 y x = y - x := o_sub64 hO (by omega) (by omega)
    rw [e1, o_add64 hO (by omega) (by omega), hl2, o_sub64 hO (by omega) (by omega)]
  have look2 : ∀ z : Str, ∃ r, lookD kS (mkS z) es2 = some r ∧ ((z ∈ K2 ∧ r = some (.bool true)) ∨ (z ∉ K2 ∧ r = none)) := fun z => by
    rw [hes2, look_ent]
    by_cases h : z ∈ K2
    · exact ⟨_, rfl, .inl ⟨h, by simp [h]⟩⟩
    · exact ⟨_, rfl, .inr ⟨h, by simp [h]⟩⟩
  conv => cbv
  rintro (_ | _) h1
  · replace h1 := f_gtr hO h1
    rw [hspan] at h1
    conv => cbv
    intro g77
    conv => cbv
    refine loop_of (fun n d => ∃ (v : Int) (j : Nat) (ac : List D) (tk : Int), d = ⟨[(1, .int .i64 y), (2, .mapr 308 gm), (6, .ptr 606 g6 0), (11, .mapr 677 g77), (12, .int .i64 v)], [(606, ⟨g6, .rw, .var, [.bool false, .bool false, .bool false, .sl 1 true [], .int .i64 0, .int .i64 0]⟩), (308, ⟨gm, .rw, .map, .int .i64 c0 :: es2⟩), (677, ⟨g77, .rw, .map, .int .i64 tk :: ac⟩)], false⟩ ∧ v = x + j ∧ (j = 0 ∨ v ≤ y + 1) ∧ n = (y + 1 - v).toNat ∧ ac = (accN x K2 j).map ent) ⟨_, _, ⟨x, 0, _, _, rfl, by omega, .inl rfl, rfl, rfl⟩, ⟨⟨rfl, rfl, rfl, rfl, rfl, trivial⟩, ⟨rfl, rfl, rfl, trivial⟩, rfl⟩⟩ ?_
    rintro J up n d ⟨v, j, ac, tk, rfl, hv, hvj, rfl, hac⟩
    conv => cbv
    rintro (_ | _) h2
    · replace h2 := f_leq hO h2
      conv => cbv
      have hj : accN x K2 j = accN x K2 (y + 1 - x).toNat := by
        rcases hvj with h | h
        · subst h; rw [show (y + 1 - x).toNat = 0 by omega]
        · rw [show (y + 1 - x).toNat = j by omega]
      have hcac : CleanL ac := cleanL_map clean_ent hac
      have hal := accN_len x K2 j
      have hr := h32 (accN x K2 j) (accN_nodup _ _ _) (accN_SL fun i hi => ⟨by omega, by omega⟩) (by omega)
      rw [← hac] at hr
      obtain ⟨rs, hrs⟩ : ∃ rs, rs = (risingS (accN x K2 j)).map mkS := ⟨_, rfl⟩
      have hcr : CleanL rs := cleanL_map clean_S hrs
      rw [← hrs] at hr
      have hfin : risingS (accN x K2 j) = risingS (listN x y (valsN x y K)) := by
        rw [hj, ← listN_congr hv3]
        exact risingS_congr fun z => accN_mem
      refine ⟨hcac, _, hr, ?_⟩
      conv => cbv
      have hN : numbersN x y K = some ⟨false, false, false, risingS (accN x K2 j), 0, 0⟩ := by unfold numbersN; rw [if_pos (by rw [hv2]; omega), hfin]
      exact ⟨⟨false, false, false, risingS (accN x K2 j), 0, 0⟩, true, by rw [setD]; rw [hrs], .inl ⟨rfl, by rw [hans, hN]⟩⟩
    · replace h2 := t_leq hO h2
      conv => cbv
      obtain ⟨z, hz, hzi⟩ := fmt v (by unfold FI; omega)
      refine ⟨_, hz, ?_⟩
      conv => cbv
      obtain ⟨q, hq, hcase⟩ := look2 z
      have hadd : O .iop .add .i64 v 1 = v + 1 := o_add64 hO (by omega) (by omega)
      have hst := accN_step (lo := x) (K := K2) (j := j) (z := z) (by rw [hzi, hv])
      refine ⟨q, hq, ?_⟩
      rcases hcase with ⟨hm, rfl⟩ | ⟨hm, rfl⟩
      · conv => cbv
        rw [hadd]
        refine ⟨_, _, up _ _ ⟨v + 1, j + 1, ac, tk, rfl, by omega, .inr (by omega), rfl, ?_⟩, ⟨⟨rfl, rfl, rfl, rfl, rfl, trivial⟩, ⟨rfl, rfl, rfl, trivial⟩, rfl⟩, by omega⟩
        rw [hac, hst, if_pos hm]
      · conv => cbv
        obtain ⟨ac3, hac3⟩ : ∃ ac3, ac3 = (insS (accN x K2 j) z).map ent := ⟨_, rfl⟩
        refine ⟨ac3, by rw [hac, hac3]; exact mput_ent _ _, fun c => ?_⟩
        conv => cbv
        rw [hadd]
        refine ⟨_, _, up _ _ ⟨v + 1, j + 1, ac3, c, rfl, by omega, .inr (by omega), rfl, ?_⟩, ⟨⟨rfl, rfl, rfl, rfl, rfl, trivial⟩, ⟨rfl, rfl, rfl, trivial⟩, rfl⟩, by omega⟩
        rw [hac3, hst, if_neg hm]
  · replace h1 := t_gtr hO h1
    rw [hspan] at h1
    conv => cbv
    have hr := h32 K2 hnd (left_SL hmem) (by omega)
    rw [← hes2] at hr
    obtain ⟨rs, hrs⟩ : ∃ rs, rs = (risingS K2).map mkS := ⟨_, rfl⟩
    have hcr : CleanL rs := cleanL_map clean_S hrs
    rw [← hrs] at hr
    refine ⟨hc2, _, hr, ?_⟩
    conv => cbv
    rintro (_ | _) h2
    · replace h2 := f_leq hO h2
      rw [hl2] at h2
      conv => cbv
      have hN : numbersN x y K = none := by unfold numbersN; rw [if_neg (by rw [hv2]; omega), if_pos (by rw [hv2]; omega)]
      exact ⟨⟨false, true, true, valsN x y K, x, y⟩, false, by rw [setD]; rw [← hv1, hrs], .inr ⟨rfl, by rw [hans, hN]⟩⟩
    · replace h2 := t_leq hO h2
      rw [hl2] at h2
      conv => cbv
      have hN : numbersN x y K = some ⟨false, true, true, valsN x y K, x, y⟩ := by unfold numbersN; rw [if_neg (by rw [hv2]; omega), if_neg (by rw [hv2]; omega)]
      exact ⟨⟨false, true, true, valsN x y K, x, y⟩, true, by rw [setD]; rw [← hv1, hrs], .inl ⟨rfl, by rw [hans, hN]⟩⟩
end Go.Proofs.AM
namespace Go.Proofs.AM
open Go Go.Lib Cd
theorem risingS_snoc (l : List Str) (z : Str) : risingS (l ++ [z]) = putS z (risingS l) := by unfold risingS; rw [List.foldl_append]; rfl
set_option maxRecDepth 100000 in
set_option maxHeartbeats 8000000 in
theorem numbers40_ok (R : Ans) (h15 : ∀ s, SL s → ∀ v b, NumR s v b → R.v 232 [mkS s] (.tup [.int .i64 v, .bool b])) (h37 : ∀ n, FI n → R.v 231 [.int .i64 n] (mkS (itoa n)))
    (h45 : ∀ (l : List Str) (x : Str), l.length < 4611686018427387904 → R.v 229 [.sl 1 false (l.map mkS), mkS x] (.bool (decide (x ∈ l))))
    (h54 : ∀ (l : List Str) (x : Str), l.length < 8796093022208 → R.v 230 [.sl 1 false (l.map mkS), mkS x] (.sl 1 false ((putS x l).map mkS)))
    (lo0 hi0 : Int) (hb1 : least ≤ lo0) (hb2 : lo0 ≤ most + 1) (hb3 : hi0 ≤ most) (hb4 : least - 1 ≤ hi0) (K : List Str) (hK : FL K) :
    ∃ S b, AnsF R c190 [.int .i64 lo0, .int .i64 hi0, .sl 1 false (K.map mkS)] (.tup [setD S, .bool b]) ∧ NumsR lo0 hi0 K S b ∧ (b = false → S = ⟨false, false, false, [], 0, 0⟩) := by
  have hKl := hK.len
  have hKs := hK.all
  clear hK
  unfold least at hb1 hb4
  unfold most at hb2 hb3
  obtain ⟨S, b, hS, hSz⟩ : ∃ S b, NumsR lo0 hi0 K S b ∧ (b = false → S = ⟨false, false, false, [], 0, 0⟩) := by
    cases h : numbersS lo0 hi0 K with
    | none => exact ⟨_, false, .inr ⟨rfl, h⟩, fun _ => rfl⟩
    | some S => exact ⟨S, true, .inl ⟨rfl, h⟩, by simp⟩
  refine ⟨S, b, ?_, hS, hSz⟩
  obtain ⟨xs, hxs⟩ : ∃ xs, xs = K.map mkS := ⟨_, rfl⟩
  have hcx : CleanL xs := cleanL_map clean_S hxs
  obtain ⟨r, hrr⟩ : ∃ r, r = D.tup [setD S, .bool b] := ⟨_, rfl⟩
  rw [← hxs, ← hrr]
  refine wpF_sound ⟨rfl, by decide⟩ fun O hO V hV => ?_
  subst hV
  have hlen : O .len xs = K.length := by rw [o_len hO, hxs]; simp
  have fmt : ∀ x : Int, FI x → ∃ z : Str, V.v 231 [.int .i64 x] (.str ⟨⟨z⟩⟩) ∧ z = itoa x := fun x hx => ⟨_, h37 x hx, rfl⟩
  have isin : ∀ z : Str, ∃ q, V.v 229 [.sl 1 false xs, .str ⟨⟨z⟩⟩] (.bool q) ∧ (q = true → z ∈ K) ∧ (q = false → z ∉ K) := fun z => ⟨_, by rw [hxs]; exact h45 K z (by omega), by simp, by simp⟩
  conv => cbv
  refine join_of (fun d => ∃ x : Int, d = ⟨[(0, .int .i64 x), (1, .int .i64 hi0), (2, .sl 1 false xs), (6, .ptr 6 1 0)], [(6, ⟨1, .rw, .var, [.bool false, .bool false, .bool false, .sl 1 true [], .int .i64 0, .int .i64 0]⟩)], false⟩ ∧ x = upS hi0 K lo0) (fun M upm => ?_) ?_
  · conv => cbv
    refine loop_of (fun n d => ∃ x : Int, d = ⟨[(0, .int .i64 x), (1, .int .i64 hi0), (2, .sl 1 false xs), (6, .ptr 6 1 0)], [(6, ⟨1, .rw, .var, [.bool false, .bool false, .bool false, .sl 1 true [], .int .i64 0, .int .i64 0]⟩)], false⟩ ∧ n = (hi0 + 1 - x).toNat ∧ (x ≤ hi0 + 1 ∨ x = lo0) ∧ lo0 ≤ x ∧ upS hi0 K x = upS hi0 K lo0) ⟨_, _, ⟨_, rfl, rfl, .inr rfl, Int.le_refl _, rfl⟩, ⟨⟨rfl, rfl, rfl, rfl, trivial⟩, ⟨rfl, trivial⟩, rfl⟩⟩ ?_
    rintro J up n d ⟨x, rfl, rfl, hx1, hx2, hx3⟩
    conv => cbv
    rintro (_ | _) h1
    · replace h1 := f_leq hO h1
      conv => cbv
      exact ⟨_, upm _ ⟨x, rfl, by rw [← hx3, upS_stop (fun h => by omega)]⟩, ⟨⟨rfl, rfl, rfl, rfl, trivial⟩, ⟨rfl, trivial⟩, rfl⟩⟩
    · replace h1 := t_leq hO h1
      conv => cbv
      obtain ⟨z, hz, hzi⟩ := fmt x (by unfold FI; omega)
      refine ⟨_, hz, ?_⟩
      conv => cbv
      obtain ⟨q, hq, hqt, hqf⟩ := isin z
      refine ⟨hcx, _, hq, ?_⟩
      cases q with
      | true =>
        have hm := hqt rfl
        conv => cbv
        refine ⟨_, _, up _ _ ⟨_, rfl, rfl, ?_, ?_, ?_⟩, ⟨⟨rfl, rfl, rfl, rfl, trivial⟩, ⟨rfl, trivial⟩, rfl⟩, ?_⟩
        all_goals rw [o_add64 hO (by omega) (by omega)]
        · omega
        · omega
        · rw [← hx3, ← upS_step ⟨h1, by rw [← hzi]; exact hm⟩]
        · omega
      | false =>
        have hm := hqf rfl
        conv => cbv
        exact ⟨_, upm _ ⟨x, rfl, by rw [← hx3, upS_stop (fun h => hm (by rw [hzi]; exact h.2))]⟩, ⟨⟨rfl, rfl, rfl, rfl, trivial⟩, ⟨rfl, trivial⟩, rfl⟩⟩
  rintro d ⟨x, rfl, hx⟩
  have hxb := upS_ge (hi := hi0) (K := K) _ lo0 (Nat.le_refl _)
  rw [← hx] at hxb
  conv => cbv
  refine join_of (fun d => ∃ y : Int, d = ⟨[(0, .int .i64 x), (1, .int .i64 y), (2, .sl 1 false xs), (6, .ptr 6 1 0)], [(6, ⟨1, .rw, .var, [.bool false, .bool false, .bool false, .sl 1 true [], .int .i64 0, .int .i64 0]⟩)], false⟩ ∧ y = dnS x K hi0) (fun M upm => ?_) ?_
  · conv => cbv
    refine loop_of (fun n d => ∃ y : Int, d = ⟨[(0, .int .i64 x), (1, .int .i64 y), (2, .sl 1 false xs), (6, .ptr 6 1 0)], [(6, ⟨1, .rw, .var, [.bool false, .bool false, .bool false, .sl 1 true [], .int .i64 0, .int .i64 0]⟩)], false⟩ ∧ n = (y + 1 - x).toNat ∧ (x - 1 ≤ y ∨ y = hi0) ∧ y ≤ hi0 ∧ dnS x K y = dnS x K hi0) ⟨_, _, ⟨_, rfl, rfl, .inr rfl, Int.le_refl _, rfl⟩, ⟨⟨rfl, rfl, rfl, rfl, trivial⟩, ⟨rfl, trivial⟩, rfl⟩⟩ ?_
    rintro J up n d ⟨y, rfl, rfl, hx1, hx2, hx3⟩
    conv => cbv
    rintro (_ | _) h1
    · replace h1 := f_leq hO h1
      conv => cbv
      exact ⟨_, upm _ ⟨y, rfl, by rw [← hx3, dnS_stop (fun h => by omega)]⟩, ⟨⟨rfl, rfl, rfl, rfl, trivial⟩, ⟨rfl, trivial⟩, rfl⟩⟩
    · replace h1 := t_leq hO h1
      conv => cbv
      obtain ⟨z, hz, hzi⟩ := fmt y (by unfold FI; omega)
      refine ⟨_, hz, ?_⟩
      conv => cbv
      obtain ⟨q, hq, hqt, hqf⟩ := isin z
      refine ⟨hcx, _, hq, ?_⟩
      cases q with
      | true =>
        have hm := hqt rfl
        conv => cbv
        refine ⟨_, _, up _ _ ⟨_, rfl, rfl, ?_, ?_, ?_⟩, ⟨⟨rfl, rfl, rfl, rfl, trivial⟩, ⟨rfl, trivial⟩, rfl⟩, ?_⟩
        all_goals rw [o_sub64 hO (by omega) (by omega)]
        · omega
        · omega
        · rw [← hx3, ← dnS_step ⟨h1, by rw [← hzi]; exact hm⟩]
        · omega
      | false =>
        have hm := hqf rfl
        conv => cbv
        exact ⟨_, upm _ ⟨y, rfl, by rw [← hx3, dnS_stop (fun h => hm (by rw [hzi]; exact h.2))]⟩, ⟨⟨rfl, rfl, rfl, rfl, trivial⟩, ⟨rfl, trivial⟩, rfl⟩⟩
  rintro d ⟨y, rfl, hy⟩
  have hyb := dnS_le (lo := x) (K := K) _ hi0 (Nat.le_refl _)
  rw [← hy] at hyb
  conv => cbv
  refine join_of (fun d => ∃ (nl : Bool) (vs : List D), d = ⟨[(0, .int .i64 x), (1, .int .i64 y), (6, .ptr 6 1 0), (12, .sl 1 nl vs)], [(6, ⟨1, .rw, .var, [.bool false, .bool false, .bool false, .sl 1 true [], .int .i64 0, .int .i64 0]⟩)], false⟩ ∧ vs = (valsN x y K).map mkS) (fun M upm => ?_) ?_
  · conv => cbv
    refine loop_of (fun n d => ∃ (i : Int) (k : Nat) (nl : Bool) (vs : List D), d = ⟨[(0, .int .i64 x), (1, .int .i64 y), (2, .sl 1 false xs), (6, .ptr 6 1 0), (12, .sl 1 nl vs), (13, .int .i64 i)], [(6, ⟨1, .rw, .var, [.bool false, .bool false, .bool false, .sl 1 true [], .int .i64 0, .int .i64 0]⟩)], false⟩ ∧ i = k ∧ k ≤ K.length ∧ n = K.length - k ∧ vs = (risingS ((K.take k).filter (inR x y))).map mkS) ⟨_, _, ⟨_, 0, _, _, rfl, rfl, by omega, rfl, by simp [risingS]⟩, ⟨⟨rfl, rfl, rfl, rfl, rfl, rfl, trivial⟩, ⟨rfl, trivial⟩, rfl⟩⟩ ?_
    rintro J up n d ⟨i, k, nl, vs, rfl, hi, hk, rfl, hvs⟩
    have hcv : CleanL vs := cleanL_map clean_S hvs
    conv => cbv
    rintro (_ | _) h1
    · replace h1 := f_lss hO h1
      rw [hlen] at h1
      conv => cbv
      exact ⟨_, upm _ ⟨nl, vs, rfl, by rw [hvs, List.take_of_length_le (by omega)]; rfl⟩, ⟨⟨rfl, rfl, rfl, rfl, trivial⟩, ⟨rfl, trivial⟩, rfl⟩⟩
    · replace h1 := t_lss hO h1
      rw [hlen] at h1
      conv => cbv
      obtain ⟨z, hz⟩ : ∃ z, K[k]? = some z := ⟨_, List.getElem?_eq_getElem (by omega)⟩
      obtain ⟨v, bb, hvb⟩ := NumR.ex z
      have hv := h15 z (hKs z (List.mem_of_getElem? hz)) v bb hvb
      have hadd : O .iop .add .i64 i 1 = ((k + 1 : Nat) : Int) := by rw [o_add64 hO (by omega) (by omega)]; omega
      have hno : inR x y z = false → vs = (risingS ((K.take (k + 1)).filter (inR x y))).map mkS := fun h => by rw [hvs, List.take_add_one, hz, List.filter_append]; simp [h]
      have hyes : inR x y z = true → (risingS ((K.take (k + 1)).filter (inR x y))) = putS z (risingS ((K.take k).filter (inR x y))) := fun h => by
        rw [List.take_add_one, hz, List.filter_append, ← risingS_snoc]; simp [h]
      have hbad : (¬ ∃ n, numS z = some n ∧ x < n ∧ n < y) → inR x y z = false := fun h => by
        cases hi : inR x y z with
        | false => rfl
        | true => exact absurd (inR_iff.1 hi) h
      refine ⟨mkS z, atX_map hz hxs hi, ?_⟩
      conv => cbv
      refine ⟨_, hv, ?_⟩
      cases bb with
      | false =>
        conv => cbv
        exact ⟨_, _, up _ _ ⟨_, k + 1, nl, vs, rfl, hadd, by omega, rfl, hno (hbad fun ⟨n, hn, _⟩ => by have := (hvb.of hn).1; simp at this)⟩, ⟨⟨rfl, rfl, rfl, rfl, rfl, rfl, trivial⟩, ⟨rfl, trivial⟩, rfl⟩, by omega⟩
      | true =>
        have hnum : numS z = some v := by
          rcases hvb with ⟨_, h⟩ | ⟨h, _⟩
          · exact h
          · simp at h
        conv => cbv
        rintro (_ | _) h2
        · replace h2 := f_gtr hO h2
          conv => cbv
          exact ⟨_, _, up _ _ ⟨_, k + 1, nl, vs, rfl, hadd, by omega, rfl, hno (hbad fun ⟨n, hn, h8, h9⟩ => by rw [hnum] at hn; simp only [Option.some.injEq] at hn; omega)⟩, ⟨⟨rfl, rfl, rfl, rfl, rfl, rfl, trivial⟩, ⟨rfl, trivial⟩, rfl⟩, by omega⟩
        · replace h2 := t_gtr hO h2
          conv => cbv
          rintro (_ | _) h3
          · replace h3 := f_lss hO h3
            conv => cbv
            exact ⟨_, _, up _ _ ⟨_, k + 1, nl, vs, rfl, hadd, by omega, rfl, hno (hbad fun ⟨n, hn, h8, h9⟩ => by rw [hnum] at hn; simp only [Option.some.injEq] at hn; omega)⟩, ⟨⟨rfl, rfl, rfl, rfl, rfl, rfl, trivial⟩, ⟨rfl, trivial⟩, rfl⟩, by omega⟩
          · replace h3 := t_lss hO h3
            conv => cbv
            have hin : inR x y z = true := inR_iff.2 ⟨v, hnum, h2, h3⟩
            have hll : (risingS ((K.take k).filter (inR x y))).length < 8796093022208 := by
              have e1 := risingS_len ((K.take k).filter (inR x y))
              have e2 := List.length_filter_le (inR x y) (K.take k)
              have e3 : (K.take k).length ≤ k := by simp; omega
              omega
            have hp := h54 (risingS ((K.take k).filter (inR x y))) z hll
            rw [← hvs, ← hyes hin] at hp
            obtain ⟨vs2, hvs2⟩ : ∃ vs2, vs2 = (risingS ((K.take (k + 1)).filter (inR x y))).map mkS := ⟨_, rfl⟩
            rw [← hvs2] at hp
            refine ⟨mkS z, atX_map hz hxs hi, ?_⟩
            conv => cbv
            refine ⟨hcv, _, hp, ?_⟩
            conv => cbv
            exact ⟨_, _, up _ _ ⟨_, k + 1, false, vs2, rfl, hadd, by omega, rfl, hvs2⟩, ⟨⟨rfl, rfl, rfl, rfl, rfl, rfl, trivial⟩, ⟨rfl, trivial⟩, rfl⟩, by omega⟩
  rintro d ⟨nl, vs, rfl, hvs⟩
  have hcv : CleanL vs := cleanL_map clean_S hvs
  have hlv : O .len vs = (valsN x y K).length := by rw [o_len hO, hvs]; simp
  have hvl : (valsN x y K).length ≤ K.length := Nat.le_trans (risingS_len _) (List.length_filter_le _ _)
  have hans : numbersS lo0 hi0 K = numbersN x y K := by unfold numbersS; rw [← hx, ← hy]
  have hspan : O .iop .sub .i64 (O .iop .add .i64 (O .iop .sub .i64 y x) 1) (O .len vs) = y - x + 1 - (valsN x y K).length := by
    have e1 : O .iop .sub .i64 y x = y - x := o_sub64 hO (by omega) (by omega)
    rw [e1, o_add64 hO (by omega) (by omega), hlv, o_sub64 hO (by omega) (by omega)]
  have isin2 : ∀ z : Str, ∃ q, V.v 229 [.sl 1 false vs, .str ⟨⟨z⟩⟩] (.bool q) ∧ (q = true → z ∈ valsN x y K) ∧ (q = false → z ∉ valsN x y K) := fun z => ⟨_, by rw [hvs]; exact h45 (valsN x y K) z (by omega), by simp, by simp⟩
  conv => cbv
  rintro (_ | _) h1
  · replace h1 := f_leq hO h1
    rw [hspan] at h1
    conv => cbv
    rintro (_ | _) h2
    · replace h2 := f_gtr hO h2
      rw [hlv] at h2
      have hN : numbersN x y K = some ⟨false, true, true, valsN x y K, x, y⟩ := by unfold numbersN; rw [if_neg (by omega), if_neg (by omega)]
      conv => cbv
      refine ⟨hcv, ?_⟩
      conv => cbv
      rcases hS with ⟨rfl, hS⟩ | ⟨rfl, hS⟩
      · rw [hans, hN] at hS
        simp only [Option.some.injEq] at hS
        subst hS
        rw [hrr]
        simp only [setD]
        rw [← hvs]
      · rw [hans, hN] at hS
        simp at hS
    · replace h2 := t_gtr hO h2
      rw [hlv] at h2
      have hN : numbersN x y K = none := by unfold numbersN; rw [if_neg (by omega), if_pos (by omega)]
      conv => cbv
      rcases hS with ⟨rfl, hS⟩ | ⟨rfl, hS⟩
      · rw [hans, hN] at hS
        simp at hS
      · rw [hrr, hSz rfl]
        exact ⟨⟨rfl, rfl⟩, rfl⟩
  · replace h1 := t_leq hO h1
    rw [hspan] at h1
    conv => cbv
    refine loop_of (fun n d => ∃ (v : Int) (j : Nat) (nl2 : Bool) (ac : List D), d = ⟨[(1, .int .i64 y), (6, .ptr 6 1 0), (12, .sl 1 nl vs), (16, .sl 1 nl2 ac), (17, .int .i64 v)], [(6, ⟨1, .rw, .var, [.bool false, .bool false, .bool false, .sl 1 true [], .int .i64 0, .int .i64 0]⟩)], false⟩ ∧ v = x + j ∧ (j = 0 ∨ v ≤ y + 1) ∧ n = (y + 1 - v).toNat ∧ ac = (risingS ((upTo x j).filter fun s => decide (s ∉ valsN x y K))).map mkS) ⟨_, _, ⟨x, 0, _, _, rfl, by omega, .inl rfl, rfl, rfl⟩, ⟨⟨rfl, rfl, rfl, rfl, rfl, trivial⟩, ⟨rfl, trivial⟩, rfl⟩⟩ ?_
    rintro J up n d ⟨v, j, nl2, ac, rfl, hv, hvj, rfl, hac⟩
    have hcac : CleanL ac := cleanL_map clean_S hac
    conv => cbv
    rintro (_ | _) h2
    · replace h2 := f_leq hO h2
      have hj : upTo x j = upTo x (y + 1 - x).toNat := by
        rcases hvj with h | h
        · subst h; rw [show (y + 1 - x).toNat = 0 by omega]
        · rw [show (y + 1 - x).toNat = j by omega]
      have hN : numbersN x y K = some ⟨false, false, false, risingS (listN x y (valsN x y K)), 0, 0⟩ := by unfold numbersN; rw [if_pos (by omega)]
      rw [hj] at hac
      conv => cbv
      refine ⟨hcac, ?_⟩
      conv => cbv
      rcases hS with ⟨rfl, hS⟩ | ⟨rfl, hS⟩
      · rw [hans, hN] at hS
        simp only [Option.some.injEq] at hS
        subst hS
        rw [hrr]
        simp only [setD]
        rw [hac]
        rfl
      · rw [hans, hN] at hS
        simp at hS
    · replace h2 := t_leq hO h2
      conv => cbv
      obtain ⟨z, hz, hzi⟩ := fmt v (by unfold FI; omega)
      refine ⟨_, hz, ?_⟩
      conv => cbv
      obtain ⟨q, hq, hqt, hqf⟩ := isin2 z
      have hadd : O .iop .add .i64 v 1 = v + 1 := o_add64 hO (by omega) (by omega)
      refine ⟨hcv, _, hq, ?_⟩
      cases q with
      | true =>
        have hm := hqt rfl
        conv => cbv
        rw [hadd]
        refine ⟨_, _, up _ _ ⟨v + 1, j + 1, nl2, ac, rfl, by omega, .inr (by omega), rfl, ?_⟩, ⟨⟨rfl, rfl, rfl, rfl, rfl, trivial⟩, ⟨rfl, trivial⟩, rfl⟩, by omega⟩
        rw [hac, upTo_get, List.filter_append, ← hv, ← hzi]
        simp [hm]
      | false =>
        have hm := hqf rfl
        have hll : (risingS ((upTo x j).filter fun s => decide (s ∉ valsN x y K))).length < 8796093022208 := by
          have e1 := risingS_len ((upTo x j).filter fun s => decide (s ∉ valsN x y K))
          have e2 := List.length_filter_le (fun s => decide (s ∉ valsN x y K)) (upTo x j)
          rw [upTo_len] at e2
          omega
        have hp := h54 _ z hll
        rw [← hac] at hp
        obtain ⟨ac3, hac3⟩ : ∃ ac3, ac3 = (putS z (risingS ((upTo x j).filter fun s => decide (s ∉ valsN x y K)))).map mkS := ⟨_, rfl⟩
        rw [← hac3] at hp
        conv => cbv
        refine ⟨hcac, _, hp, ?_⟩
        conv => cbv
        rw [hadd]
        refine ⟨_, _, up _ _ ⟨v + 1, j + 1, false, ac3, rfl, by omega, .inr (by omega), rfl, ?_⟩, ⟨⟨rfl, rfl, rfl, rfl, rfl, trivial⟩, ⟨rfl, trivial⟩, rfl⟩, by omega⟩
        rw [hac3, ← risingS_snoc, upTo_get, List.filter_append, ← hv, ← hzi]
        simp [hm]
end Go.Proofs.AM
namespace Go.Proofs.AM
open Go Go.Lib
structure ReqV where
  key : Str
  op : Int
  l : List Str
  n : Int
def reqD (r : ReqV) : D := .agg [mkS r.key, .int .i64 r.op, .sl 1 false (r.l.map mkS), .int .i64 r.n]
structure FR (r : ReqV) : Prop where
  key : SL r.key
  l : FL r.l
  op : FI r.op
  n : FI r.n
def BadOp (r : ReqV) : Prop := r.op < 1 ∨ 6 < r.op ∨ ((r.op = 1 ∨ r.op = 2) ∧ r.l.length = 0) ∨ (¬ (r.op = 1 ∨ r.op = 2) ∧ 0 < r.l.length) ∨ (¬ (r.op = 5 ∨ r.op = 6) ∧ r.n ≠ 0) ∨ r.n < -2147483648 ∨ 2147483648 < r.n
instance (r : ReqV) : Decidable (BadOp r) := by unfold BadOp; exact inferInstance
open Classical in
noncomputable def wrongE (r : ReqV) : Int :=
  if nameB r.key = false then 7
  else if BadOp r then 30
  else if 8 < r.l.length then 3
  else if ∃ v ∈ r.l, valueB v = false then 20
  else if ¬ r.l.Nodup then 6
  else 0
theorem wrongE_0 {r : ReqV} (h : wrongE r = 0) : nameB r.key = true ∧ ¬ BadOp r ∧ r.l.length ≤ 8 ∧ (∀ v ∈ r.l, valueB v = true) ∧ r.l.Nodup := by
  unfold wrongE at h
  split at h
  · simp at h
  · rename_i h1
    split at h
    · simp at h
    · rename_i h2
      split at h
      · simp at h
      · rename_i h3
        split at h
        · simp at h
        · rename_i h4
          split at h
          · simp at h
          · rename_i h5
            refine ⟨by simpa using h1, h2, by omega, fun v hv => ?_, Classical.byContradiction h5⟩
            cases hb : valueB v with
            | true => rfl
            | false => exact absurd ⟨v, hv, hb⟩ h4
theorem nodup_at : ∀ {l : List Str}, (∀ (k : Nat) y, l[k]? = some y → y ∉ l.take k) → l.Nodup
  | [], _ => List.nodup_nil
  | x :: r, h => by
    rw [List.nodup_cons]
    refine ⟨fun hx => ?_, nodup_at fun k y hy hm => ?_⟩
    · obtain ⟨j, hj⟩ := List.getElem?_of_mem hx
      exact h (j + 1) x (by simpa using hj) (by simp)
    · exact h (k + 1) y (by simpa using hy) (by simp [hm])
theorem not_nodup_at {l : List Str} {k : Nat} {y : Str} (h : l[k]? = some y) (hm : y ∈ l.take k) : ¬ l.Nodup := by
  intro hn
  obtain ⟨j, hj⟩ := List.getElem?_of_mem hm
  have hjk : j < k := by
    have := (List.getElem?_eq_some_iff.1 hj).1
    simp at this
    omega
  rw [List.getElem?_take_of_lt hjk] at hj
  obtain ⟨a1, h1⟩ := List.getElem?_eq_some_iff.1 hj
  obtain ⟨a2, h2⟩ := List.getElem?_eq_some_iff.1 h
  exact (List.pairwise_iff_getElem.1 hn j k a1 a2 hjk) (h1.trans h2.symm)
theorem shorter : ∀ {l : List Str}, ¬ l.Nodup → ∃ l' : List Str, l'.length < l.length ∧ ∀ z ∈ l, z ∈ l'
  | [], h => absurd List.nodup_nil h
  | x :: r, h => by
    by_cases hx : x ∈ r
    · exact ⟨r, by simp, fun z hz => by
        rcases List.mem_cons.1 hz with rfl | hz
        · exact hx
        · exact hz⟩
    · have : ¬ r.Nodup := fun hn => h (List.nodup_cons.2 ⟨hx, hn⟩)
      obtain ⟨l', h1, h2⟩ := shorter this
      exact ⟨x :: l', by simp; omega, fun z hz => by
        rcases List.mem_cons.1 hz with rfl | hz
        · simp
        · simp [h2 z hz]⟩
theorem group_lt {l : List Str} : (groupS [l]).length < l.length ↔ ¬ l.Nodup := by
  have hm : ∀ z, z ∈ groupS [l] ↔ z ∈ l := fun z => by rw [groupS_mem]; simp
  constructor
  · intro h hn
    have := nodup_len_eq (groupS_nodup [l]) hn hm
    omega
  · intro h
    obtain ⟨l', h1, h2⟩ := shorter h
    have := nodup_len (groupS_nodup [l]) fun z hz => h2 z ((hm z).1 hz)
    omega
def zeroS : SetV := ⟨false, false, false, [], 0, 0⟩
theorem numbersS_nil (lo hi : Int) : ∃ S, numbersS lo hi [] = some S := by
  unfold numbersS numbersN
  have hv : ∀ a b, (valsN a b []).length = 0 := fun a b => by simp [valsN, risingS]
  rw [hv]
  split
  · exact ⟨_, rfl⟩
  · rw [if_neg (by omega)]; exact ⟨_, rfl⟩
noncomputable def ofS (r : ReqV) : SetV :=
  if r.op = 1 then ⟨false, false, false, risingS r.l, 0, 0⟩
  else if r.op = 2 then ⟨true, true, false, risingS r.l, 0, 0⟩
  else if r.op = 3 then ⟨false, true, false, [], 0, 0⟩
  else if r.op = 4 then ⟨true, false, false, [], 0, 0⟩
  else if r.op = 5 then (numbersS (r.n + 1) most []).getD zeroS
  else (numbersS least (r.n - 1) []).getD zeroS
noncomputable def ofSet (r : ReqV) : SetV := if wrongE r = 0 then ofS r else zeroS
end Go.Proofs.AM
namespace Go.Proofs.AM
open Go Go.Lib Cd
set_option maxRecDepth 100000 in
set_option maxHeartbeats 8000000 in
theorem wrong38_ok (R : Ans) (q : ReqV) (hq : FR q) (h16 : ∀ s, SL s → R.v 110 [mkS s] (.bool (nameB s))) (h17 : ∀ s, SL s → R.v 193 [mkS s] (.bool (valueB s)))
    (h45 : ∀ (l : List Str) (x : Str), l.length < 4611686018427387904 → R.v 229 [.sl 1 false (l.map mkS), mkS x] (.bool (decide (x ∈ l)))) : AnsF R c188 [reqD q] (.int .i64 (wrongE q)) := by
  obtain ⟨r, hr⟩ : ∃ r, r = wrongE q := ⟨_, rfl⟩
  rw [← hr]
  unfold wrongE at hr
  have hall := hq.l.all
  have hl1 := hq.l.len
  have hn := h16 q.key hq.key
  obtain ⟨key, op, l, n⟩ := q
  unfold BadOp at hr
  simp only at hr hall hl1 hn
  obtain ⟨b, hb⟩ : ∃ b, b = nameB key := ⟨_, rfl⟩
  rw [← hb] at hr hn
  unfold reqD
  simp only
  obtain ⟨xs, hxs⟩ : ∃ xs, xs = l.map mkS := ⟨_, rfl⟩
  rw [← hxs]
  refine wpF_sound ⟨rfl, by decide⟩ fun O hO V hV => ?_
  subst hV
  have hlen : O .len xs = l.length := by rw [o_len hO, hxs]; simp
  conv => cbv
  refine ⟨_, hn, ?_⟩
  cases b with
  | false =>
    conv => cbv
    rw [hr]
    rfl
  | true =>
    simp only [Bool.true_eq_false, if_false] at hr
    conv => cbv
    refine join_of (fun d => ∃ v : Bool, d = ⟨[(1, .ptr 1 1 0), (4, .bool v)], [(1, ⟨1, .rw, .var, [mkS key, .int .i64 op, .sl 1 false xs, .int .i64 n]⟩)], false⟩ ∧ (v = true ↔ op = 1 ∨ op = 2)) (fun M upm => ?_) ?_
    · repeat' ((conv => cbv); rintro (_ | _) _)
      all_goals (conv => cbv)
      all_goals simp only [o_eql hO, true_eq_decide_iff, false_eq_decide_iff] at *
      all_goals exact ⟨_, upm _ ⟨_, rfl, by simp [*]⟩, ⟨⟨rfl, rfl, trivial⟩, ⟨rfl, trivial⟩, rfl⟩⟩
    rintro d ⟨v, rfl, hv⟩
    conv => cbv
    refine join_of (fun d => ∃ w : Bool, d = ⟨[(1, .ptr 1 1 0), (4, .bool v), (5, .bool w)], [(1, ⟨1, .rw, .var, [mkS key, .int .i64 op, .sl 1 false xs, .int .i64 n]⟩)], false⟩ ∧ (w = true ↔ op = 5 ∨ op = 6)) (fun M upm => ?_) ?_
    · repeat' ((conv => cbv); rintro (_ | _) _)
      all_goals (conv => cbv)
      all_goals simp only [o_eql hO, true_eq_decide_iff, false_eq_decide_iff] at *
      all_goals exact ⟨_, upm _ ⟨_, rfl, by simp [*]⟩, ⟨⟨rfl, rfl, rfl, trivial⟩, ⟨rfl, trivial⟩, rfl⟩⟩
    rintro d ⟨w, rfl, hw⟩
    conv => cbv
    refine join_of (fun d => d = ⟨[(1, .ptr 1 1 0)], [(1, ⟨1, .rw, .var, [mkS key, .int .i64 op, .sl 1 false xs, .int .i64 n]⟩)], false⟩ ∧ ¬ (op < 1 ∨ 6 < op ∨ ((op = 1 ∨ op = 2) ∧ l.length = 0) ∨ (¬ (op = 1 ∨ op = 2) ∧ 0 < l.length) ∨ (¬ (op = 5 ∨ op = 6) ∧ n ≠ 0) ∨ n < -2147483648 ∨ 2147483648 < n)) (fun M upm => ?_) ?_
    · cases v <;> cases w <;> simp only [Bool.false_eq_true, false_iff, true_iff] at hv hw
      all_goals repeat' ((conv => cbv); rintro (_ | _) _)
      all_goals (conv => cbv)
      all_goals simp only [o_lss hO, o_gtr hO, o_neq hO, o_beq hO, hlen, true_eq_decide_iff, false_eq_decide_iff] at *
      all_goals first
        | (exfalso; omega)
        | (exact ⟨_, upm _ ⟨rfl, by omega⟩, ⟨⟨rfl, trivial⟩, ⟨rfl, trivial⟩, rfl⟩⟩)
        | (rw [hr, if_pos (by omega)]; done)
        | (exfalso; simp at *; done)
    · rintro d ⟨rfl, hok⟩
      rw [if_neg hok] at hr
      conv => cbv
      rintro (_ | _) h1
      · replace h1 := f_gtr hO h1
        rw [hlen] at h1
        rw [if_neg (by omega)] at hr
        conv => cbv
        refine loop_of (fun c d => ∃ (i : Int) (k : Nat), d = ⟨[(1, .ptr 1 1 0), (6, .int .i64 i)], [(1, ⟨1, .rw, .var, [mkS key, .int .i64 op, .sl 1 false xs, .int .i64 n]⟩)], false⟩ ∧ i = k ∧ k ≤ l.length ∧ c = l.length - k ∧ ∀ j x, j < k → l[j]? = some x → valueB x = true) ⟨_, _, ⟨_, 0, rfl, rfl, by omega, rfl, by simp⟩, ⟨⟨rfl, rfl, trivial⟩, ⟨rfl, trivial⟩, rfl⟩⟩ ?_
        rintro J up c d ⟨i, k, rfl, hi, hk, rfl, hno⟩
        conv => cbv
        rintro (_ | _) h2
        · replace h2 := f_lss hO h2
          rw [hlen] at h2
          have hval : ¬ ∃ v ∈ l, valueB v = false := fun ⟨v, hv, hf⟩ => by
            obtain ⟨j, hj⟩ := List.getElem?_of_mem hv
            rw [hno j v (by have := (List.getElem?_eq_some_iff.1 hj).1; omega) hj] at hf
            simp at hf
          rw [if_neg hval] at hr
          conv => cbv
          refine loop_of (fun c d => ∃ (i : Int) (k : Nat), d = ⟨[(1, .ptr 1 1 0), (8, .int .i64 i)], [(1, ⟨1, .rw, .var, [mkS key, .int .i64 op, .sl 1 false xs, .int .i64 n]⟩)], false⟩ ∧ i = k ∧ k ≤ l.length ∧ c = l.length - k ∧ ∀ j x, j < k → l[j]? = some x → x ∉ l.take j) ⟨_, _, ⟨_, 0, rfl, rfl, by omega, rfl, by simp⟩, ⟨⟨rfl, rfl, trivial⟩, ⟨rfl, trivial⟩, rfl⟩⟩ ?_
          rintro J2 up2 c2 d ⟨i, k, rfl, hi, hk, rfl, hno2⟩
          conv => cbv
          rintro (_ | _) h3
          · replace h3 := f_lss hO h3
            rw [hlen] at h3
            conv => cbv
            rw [hr, if_neg (by simpa using nodup_at fun j x hx => hno2 j x (by have := (List.getElem?_eq_some_iff.1 hx).1; omega) hx)]
          · replace h3 := t_lss hO h3
            rw [hlen] at h3
            conv => cbv
            obtain ⟨y, hy⟩ : ∃ y, l[k]? = some y := ⟨_, List.getElem?_eq_getElem (by omega)⟩
            have hin := h45 (l.take k) y (by simp; omega)
            have htk : O .subL xs 0 i = (l.take k).map mkS := by rw [o_subL hO, hxs, hi, ← List.map_take]; simp
            have hct : CleanL (O .subL xs 0 i) := cleanL_map clean_S htk
            rw [← htk] at hin
            obtain ⟨p, hp⟩ : ∃ p, p = decide (y ∈ l.take k) := ⟨_, rfl⟩
            rw [← hp] at hin
            refine ⟨⟨by omega⟩, ⟨by omega⟩, ⟨by omega⟩, ?_⟩
            conv => cbv
            refine ⟨mkS y, atX_map hy hxs hi, ?_⟩
            conv => cbv
            refine ⟨hct, _, hin, ?_⟩
            cases p with
            | true =>
              have hm : y ∈ l.take k := by simpa using hp.symm
              conv => cbv
              rw [hr, if_pos (not_nodup_at hy hm)]
            | false =>
              have hm : y ∉ l.take k := by simpa using hp.symm
              conv => cbv
              refine ⟨_, _, up2 _ _ ⟨_, k + 1, rfl, ?_, by omega, rfl, ?_⟩, ⟨⟨rfl, rfl, trivial⟩, ⟨rfl, trivial⟩, rfl⟩, by omega⟩
              · rw [o_add64 hO (by omega) (by omega)]; omega
              · intro j x hj hx
                by_cases e : j = k
                · subst e; rw [hy] at hx; simp only [Option.some.injEq] at hx; subst hx; exact hm
                · exact hno2 j x (by omega) hx
        · replace h2 := t_lss hO h2
          rw [hlen] at h2
          conv => cbv
          obtain ⟨y, hy⟩ : ∃ y, l[k]? = some y := ⟨_, List.getElem?_eq_getElem (by omega)⟩
          have hv := h17 y (hall y (List.mem_of_getElem? hy))
          obtain ⟨p, hp⟩ : ∃ p, p = valueB y := ⟨_, rfl⟩
          rw [← hp] at hv
          refine ⟨mkS y, atX_map hy hxs hi, ?_⟩
          conv => cbv
          refine ⟨_, hv, ?_⟩
          cases p with
          | false =>
            conv => cbv
            rw [hr, if_pos ⟨y, List.mem_of_getElem? hy, hp.symm⟩]
          | true =>
            conv => cbv
            refine ⟨_, _, up _ _ ⟨_, k + 1, rfl, ?_, by omega, rfl, ?_⟩, ⟨⟨rfl, rfl, trivial⟩, ⟨rfl, trivial⟩, rfl⟩, by omega⟩
            · rw [o_add64 hO (by omega) (by omega)]; omega
            · intro j x hj hx
              by_cases e : j = k
              · subst e; rw [hy] at hx; simp only [Option.some.injEq] at hx; subst hx; exact hp.symm
              · exact hno j x (by omega) hx
      · replace h1 := t_gtr hO h1
        rw [hlen] at h1
        rw [if_pos (by omega)] at hr
        conv => cbv
        rw [hr]
end Go.Proofs.AM
