/- Part 17 of the lemmas: ZQtnts61, ZQtols112, ZQtols57, ZGMc. -/
import Derived.Test.YtococcgeoknmjaaGreatDoorM12
import Derived.Test.YtococcgeoknmjaaGreatDoorM10
import Derived.Test.YtococcgeoknmjaaGreatDoorM13
import Derived.Test.YtococcgeoknmjaaGreatDoorM14
import Derived.Test.YtococcgeoknmjaaGreatDoorM15
import Derived.Test.YtococcgeoknmjaaGreatDoorM16
namespace Go.Proofs.AM
open Go Go.Lib Cd
set_option maxRecDepth 100000 in
set_option maxHeartbeats 4000000 in
theorem tnts61_ok (R : Ans) (l : List LabV) (hl : l.length < 4611686018427387904) (hf : FLs FLab l) (h89 : ∀ s, SL s → R.v 89 [mkS s] (.bool (nameB s))) (h90 : ∀ s, SL s → R.v 90 [mkS s] (.bool (valueB s))) (h125 : ∀ (l : List LabV) (x : LabV), l.length < 4611686018427387904 → R.v 125 [.sl 2 false (l.map labD), .fn 126 [] [.vptr (labD x) 0]] (.bool (l.any fun y => decide (y.k = x.k)))) : AnsF R c61 [.sl 2 false (l.map labD)] (.int .i64 (tntsE l)) := by
  obtain ⟨xs, hxs⟩ : ∃ xs, xs = l.map labD := ⟨_, rfl⟩
  obtain ⟨r, hr0⟩ : ∃ r, r = tntsE l := ⟨_, rfl⟩
  have hcx : CleanL xs := cleanL_map (fun _ => ⟨rfl, rfl⟩) hxs
  rw [← hxs, ← hr0]
  unfold tntsE tooE at hr0
  refine wpF_sound ⟨rfl, by decide⟩ fun O hO V hV => ?_
  subst hV
  have hlen : O .len xs = l.length := by rw [o_len hO, hxs]; simp
  conv => cbv
  rintro (_ | _) h0
  · replace h0 := f_gtr hO h0
    rw [hlen] at h0
    have hr : r = scanE (upE tntE l) l.length := by rw [hr0, if_neg (by omega)]
    conv => cbv
    refine loop_of (fun n d => ∃ (i : Int) (k : Nat), d = ⟨[(0, .sl 2 false xs), (8, .sl 2 false xs), (9, .int .i64 (O .len xs)), (10, .int .i64 i)], [], false⟩ ∧ i = k ∧ k ≤ l.length ∧ n = l.length - k ∧ ∀ j, j < k → upE tntE l j = 0) ⟨_, _, ⟨_, 0, rfl, rfl, by omega, rfl, by simp⟩, ⟨⟨rfl, rfl, rfl, rfl, trivial⟩, trivial, rfl⟩⟩ ?_
    rintro J up n d ⟨i, k, rfl, hi, hk, rfl, hno⟩
    conv => cbv
    rintro (_ | _) h1
    · replace h1 := f_lss hO h1
      rw [hlen] at h1
      conv => cbv
      rw [hr, scanE_end (fun j hj => hno j (by omega))]
    · replace h1 := t_lss hO h1
      rw [hlen] at h1
      obtain ⟨y, hy⟩ : ∃ y, l[k]? = some y := ⟨_, List.getElem?_eq_getElem (by omega)⟩
      have hat : atX xs i (labD y) := atX_map hy hxs hi
      have hg : upE tntE l k = _ := upE_some hy
      obtain ⟨e, he⟩ : ∃ e, e = upE tntE l k := ⟨_, rfl⟩
      rw [hg] at he
      rw [← he] at hg
      have hk1 := h89 y.k (hf.all y (List.mem_of_getElem? hy)).k
      have hk2 := h90 y.v (hf.all y (List.mem_of_getElem? hy)).v
      have hk3 := h125 (l.take k) y (by simp; omega)
      obtain ⟨q1, hq1⟩ : ∃ q, q = nameB y.k := ⟨_, rfl⟩
      obtain ⟨q2, hq2⟩ : ∃ q, q = valueB y.v := ⟨_, rfl⟩
      obtain ⟨q3, hq3⟩ : ∃ q, q = (l.take k).any fun z => decide (z.k = y.k) := ⟨_, rfl⟩
      unfold tntE at he
      rw [← hq1] at hk1 he
      rw [← hq2] at hk2 he
      rw [← hq3] at hk3 he
      have htk : O .subL xs 0 i = (l.take k).map labD := by rw [o_subL hO, hxs, hi, ← List.map_take]; simp
      have hct : CleanL (O .subL xs 0 i) := cleanL_map (fun _ => ⟨rfl, rfl⟩) htk
      rw [← htk] at hk3
      clear hq1 hq2 hq3
      obtain ⟨yk, yv⟩ := y
      conv => cbv
      refine ⟨_, hat, ?_⟩
      conv => cbv
      intro g4
      cases q1 <;> cases q2 <;> cases q3 <;> (conv => cbv)
      all_goals (repeat' (first | (rintro (_ | _) h <;> (first | replace h := ci hO h | replace h := cs hO h) <;> (dsimp only [CmpI, CmpS] at h) <;> (conv => cbv)) | (refine ⟨_, by assumption, ?_⟩; (conv => cbv)) | (refine And.intro (by first | assumption | exact ⟨by omega⟩ | exact ⟨by rw [hlen]; omega⟩ | exact ⟨rfl⟩ | exact ⟨rfl, rfl⟩) ?_)))
      all_goals first
        | (exfalso; omega)
        | exact ⟨_, _, up _ _ ⟨_, k + 1, rfl, by rw [o_add64 hO (by omega) (by omega)]; omega, by omega, rfl, scan_step hno (by rw [hg]; first | exact he | exact he.symm | (rw [he]; rfl) | (rw [he]; simp [h]; done) | exact h)⟩, ⟨⟨rfl, rfl, rfl, rfl, trivial⟩, trivial, rfl⟩, by omega⟩
        | exact (by rw [hr]; exact congrArg (D.int .i64) (scanE_hit (by omega) hno (by rw [hg]; first | exact he | exact he.symm | (rw [he]; rfl) | (rw [he]; simp [h]; done) | rfl) (by first | decide | exact h)).symm)
  · replace h0 := t_gtr hO h0
    rw [hlen] at h0
    conv => cbv
    rw [hr0, if_pos (by omega)]
end Go.Proofs.AM
namespace Go.Proofs.AM
open Go Go.Lib Cd
set_option maxRecDepth 100000 in
set_option maxHeartbeats 4000000 in
theorem tols112_ok (R : Ans) (l : List TolV) (hl : l.length < 4611686018427387904) (hf : FLs FTol l) (h110 : ∀ s, SL s → R.v 110 [mkS s] (.bool (nameB s))) (h193 : ∀ s, SL s → R.v 193 [mkS s] (.bool (valueB s))) : AnsF R c112 [.sl 3 false (l.map tolD)] (.int .i64 (tolsE l)) := by
  obtain ⟨xs, hxs⟩ : ∃ xs, xs = l.map tolD := ⟨_, rfl⟩
  obtain ⟨r, hr0⟩ : ∃ r, r = tolsE l := ⟨_, rfl⟩
  have hcx : CleanL xs := cleanL_map (fun _ => ⟨rfl, rfl⟩) hxs
  rw [← hxs, ← hr0]
  unfold tolsE tooE at hr0
  refine wpF_sound ⟨rfl, by decide⟩ fun O hO V hV => ?_
  subst hV
  have hlen : O .len xs = l.length := by rw [o_len hO, hxs]; simp
  conv => cbv
  rintro (_ | _) h0
  · replace h0 := f_gtr hO h0
    rw [hlen] at h0
    have hr : r = scanE (upE tolE l) l.length := by rw [hr0, if_neg (by omega)]
    conv => cbv
    refine loop_of (fun n d => ∃ (i : Int) (k : Nat), d = ⟨[(0, .sl 3 false xs), (3, .int .i64 i)], [], false⟩ ∧ i = k ∧ k ≤ l.length ∧ n = l.length - k ∧ ∀ j, j < k → upE tolE l j = 0) ⟨_, _, ⟨_, 0, rfl, rfl, by omega, rfl, by simp⟩, ⟨⟨rfl, rfl, trivial⟩, trivial, rfl⟩⟩ ?_
    rintro J up n d ⟨i, k, rfl, hi, hk, rfl, hno⟩
    conv => cbv
    rintro (_ | _) h1
    · replace h1 := f_lss hO h1
      rw [hlen] at h1
      conv => cbv
      rw [hr, scanE_end (fun j hj => hno j (by omega))]
    · replace h1 := t_lss hO h1
      rw [hlen] at h1
      obtain ⟨y, hy⟩ : ∃ y, l[k]? = some y := ⟨_, List.getElem?_eq_getElem (by omega)⟩
      have hat : atX xs i (tolD y) := atX_map hy hxs hi
      have hg : upE tolE l k = _ := upE_some hy
      obtain ⟨e, he⟩ : ∃ e, e = upE tolE l k := ⟨_, rfl⟩
      rw [hg] at he
      rw [← he] at hg
      have hk1 := h110 y.k (hf.all y (List.mem_of_getElem? hy)).k
      have hk2 := h193 y.v (hf.all y (List.mem_of_getElem? hy)).v
      obtain ⟨q1, hq1⟩ : ∃ q, q = nameB y.k := ⟨_, rfl⟩
      obtain ⟨q2, hq2⟩ : ∃ q, q = valueB y.v := ⟨_, rfl⟩
      unfold tolE at he
      rw [← hq1] at hk1 he
      rw [← hq2] at hk2 he
      clear hq1 hq2
      obtain ⟨w, hw⟩ : ∃ w, w = y := ⟨_, rfl⟩
      rw [show (fun z => decide (y = z)) = fun z => decide (w = z) by rw [hw]] at he
      obtain ⟨yk, yv, yy⟩ := y
      simp only at he
      conv => cbv
      refine ⟨_, hat, ?_⟩
      conv => cbv
      cases yy <;> cases q1 <;> cases q2 <;> (conv => cbv)
      all_goals (repeat' (first | (rintro (_ | _) h <;> (first | replace h := ci hO h | replace h := cs hO h) <;> (dsimp only [CmpI, CmpS] at h) <;> (conv => cbv)) | (refine ⟨_, by assumption, ?_⟩; (conv => cbv)) | (refine ⟨_, hat, ?_⟩; (conv => cbv)) | (refine And.intro (by first | assumption | exact ⟨by omega⟩ | exact ⟨by rw [hlen]; omega⟩ | exact ⟨rfl⟩ | exact ⟨rfl, rfl⟩) ?_)))
      all_goals first
        | (exfalso; omega)
        | exact ⟨_, _, up _ _ ⟨_, k + 1, rfl, by rw [o_add64 hO (by omega) (by omega)]; omega, by omega, rfl, scan_step hno (by rw [hg]; first | exact he | exact he.symm | (rw [he]; rfl) | (rw [he]; simp [h]; done) | exact h)⟩, ⟨⟨rfl, rfl, trivial⟩, trivial, rfl⟩, by omega⟩
        | exact (by rw [hr]; exact congrArg (D.int .i64) (scanE_hit (by omega) hno (by rw [hg]; first | exact he | exact he.symm | (rw [he]; rfl) | (rw [he]; simp [h]; done) | rfl) (by first | decide | exact h)).symm)
        | skip
      all_goals
        refine loop_of (fun n d => ∃ (i2 : Int) (k2 : Nat), d = ⟨[(0, .sl 3 false xs), (3, .int .i64 i), (6, .int .i64 i2)], [], false⟩ ∧ i2 = k2 ∧ k2 ≤ k ∧ n = k - k2 ∧ ∀ (j : Nat) z, j < k2 → l[j]? = some z → (fun z => decide (w = z)) z = false) ⟨_, _, ⟨_, 0, rfl, rfl, by omega, rfl, by simp⟩, ⟨⟨rfl, rfl, rfl, trivial⟩, trivial, rfl⟩⟩ ?_
        rintro J2 up2 n2 d2 ⟨i2, k2, rfl, hi2, hk2, rfl, hno2⟩
        conv => cbv
        rintro (_ | _) h3
        · replace h3 := f_lss hO h3
          conv => cbv
          have ha := any_take_false (p := fun z => decide (w = z)) (l := l) (k := k) (fun j z hj hz => hno2 j z (by omega) hz)
          rw [ha] at he
          all_goals first
            | (exfalso; omega)
            | exact ⟨_, _, up _ _ ⟨_, k + 1, rfl, by rw [o_add64 hO (by omega) (by omega)]; omega, by omega, rfl, scan_step hno (by rw [hg]; first | exact he | exact he.symm | (rw [he]; rfl) | (rw [he]; simp [h]; done) | exact h)⟩, ⟨⟨rfl, rfl, trivial⟩, trivial, rfl⟩, by omega⟩
            | exact (by rw [hr]; exact congrArg (D.int .i64) (scanE_hit (by omega) hno (by rw [hg]; first | exact he | exact he.symm | (rw [he]; rfl) | (rw [he]; simp [h]; done) | rfl) (by first | decide | exact h)).symm)
        · replace h3 := t_lss hO h3
          obtain ⟨z, hz⟩ : ∃ z, l[k2]? = some z := ⟨_, List.getElem?_eq_getElem (by omega)⟩
          have hat2 : atX xs i2 (tolD z) := atX_map hz hxs hi2
          conv => cbv
          refine ⟨_, hat2, ?_⟩
          conv => cbv
          refine ⟨_, hat, ?_⟩
          conv => cbv
          intro t ht
          replace ht := eqc_tol (t := t) (x := z) (y := w) hO (by rw [hw]; exact ht)
          replace ht : t = decide (w = z) := ht.trans (dec_comm _ _)
          cases t
          · conv => cbv
            exact ⟨_, _, up2 _ _ ⟨_, k2 + 1, rfl, by rw [o_add64 hO (by omega) (by omega)]; omega, by omega, rfl, hno_step hno2 hz ht.symm⟩, ⟨⟨rfl, rfl, rfl, trivial⟩, trivial, rfl⟩, by omega⟩
          · conv => cbv
            have ha := any_take_true (p := fun z => decide (w = z)) (show k2 < k by omega) hz ht.symm
            rw [ha] at he
            all_goals first
              | (exfalso; omega)
              | exact ⟨_, _, up _ _ ⟨_, k + 1, rfl, by rw [o_add64 hO (by omega) (by omega)]; omega, by omega, rfl, scan_step hno (by rw [hg]; first | exact he | exact he.symm | (rw [he]; rfl) | (rw [he]; simp [h]; done) | exact h)⟩, ⟨⟨rfl, rfl, trivial⟩, trivial, rfl⟩, by omega⟩
              | exact (by rw [hr]; exact congrArg (D.int .i64) (scanE_hit (by omega) hno (by rw [hg]; first | exact he | exact he.symm | (rw [he]; rfl) | (rw [he]; simp [h]; done) | rfl) (by first | decide | exact h)).symm)
  · replace h0 := t_gtr hO h0
    rw [hlen] at h0
    conv => cbv
    rw [hr0, if_pos (by omega)]
end Go.Proofs.AM
namespace Go.Proofs.AM
open Go Go.Lib Cd
set_option maxRecDepth 100000 in
set_option maxHeartbeats 4000000 in
theorem tols57_ok (R : Ans) (l : List TolV) (hl : l.length < 4611686018427387904) (hf : FLs FTol l) (h89 : ∀ s, SL s → R.v 89 [mkS s] (.bool (nameB s))) (h90 : ∀ s, SL s → R.v 90 [mkS s] (.bool (valueB s))) (h123 : ∀ (l : List TolV) (x : TolV), l.length < 4611686018427387904 → R.v 123 [.sl 3 false (l.map tolD), tolD x] (.bool (l.any fun y => decide (x = y)))) : AnsF R c57 [.sl 3 false (l.map tolD)] (.int .i64 (tolsE l)) := by
  obtain ⟨xs, hxs⟩ : ∃ xs, xs = l.map tolD := ⟨_, rfl⟩
  obtain ⟨r, hr0⟩ : ∃ r, r = tolsE l := ⟨_, rfl⟩
  have hcx : CleanL xs := cleanL_map (fun _ => ⟨rfl, rfl⟩) hxs
  rw [← hxs, ← hr0]
  unfold tolsE tooE at hr0
  refine wpF_sound ⟨rfl, by decide⟩ fun O hO V hV => ?_
  subst hV
  have hlen : O .len xs = l.length := by rw [o_len hO, hxs]; simp
  conv => cbv
  rintro (_ | _) h0
  · replace h0 := f_gtr hO h0
    rw [hlen] at h0
    have hr : r = scanE (upE tolE l) l.length := by rw [hr0, if_neg (by omega)]
    conv => cbv
    refine loop_of (fun n d => ∃ (i : Int) (k : Nat), d = ⟨[(0, .sl 3 false xs), (8, .sl 3 false xs), (9, .int .i64 (O .len xs)), (10, .int .i64 i)], [], false⟩ ∧ i = k ∧ k ≤ l.length ∧ n = l.length - k ∧ ∀ j, j < k → upE tolE l j = 0) ⟨_, _, ⟨_, 0, rfl, rfl, by omega, rfl, by simp⟩, ⟨⟨rfl, rfl, rfl, rfl, trivial⟩, trivial, rfl⟩⟩ ?_
    rintro J up n d ⟨i, k, rfl, hi, hk, rfl, hno⟩
    conv => cbv
    rintro (_ | _) h1
    · replace h1 := f_lss hO h1
      rw [hlen] at h1
      conv => cbv
      rw [hr, scanE_end (fun j hj => hno j (by omega))]
    · replace h1 := t_lss hO h1
      rw [hlen] at h1
      obtain ⟨y, hy⟩ : ∃ y, l[k]? = some y := ⟨_, List.getElem?_eq_getElem (by omega)⟩
      have hat : atX xs i (tolD y) := atX_map hy hxs hi
      have hg : upE tolE l k = _ := upE_some hy
      obtain ⟨e, he⟩ : ∃ e, e = upE tolE l k := ⟨_, rfl⟩
      rw [hg] at he
      rw [← he] at hg
      have hk1 := h89 y.k (hf.all y (List.mem_of_getElem? hy)).k
      have hk2 := h90 y.v (hf.all y (List.mem_of_getElem? hy)).v
      have hk3 := h123 (l.take k) y (by simp; omega)
      obtain ⟨q1, hq1⟩ : ∃ q, q = nameB y.k := ⟨_, rfl⟩
      obtain ⟨q2, hq2⟩ : ∃ q, q = valueB y.v := ⟨_, rfl⟩
      obtain ⟨q3, hq3⟩ : ∃ q, q = (l.take k).any fun z => decide (y = z) := ⟨_, rfl⟩
      unfold tolE at he
      rw [← hq1] at hk1 he
      rw [← hq2] at hk2 he
      rw [← hq3] at hk3 he
      have htk : O .subL xs 0 i = (l.take k).map tolD := by rw [o_subL hO, hxs, hi, ← List.map_take]; simp
      have hct : CleanL (O .subL xs 0 i) := cleanL_map (fun _ => ⟨rfl, rfl⟩) htk
      rw [← htk] at hk3
      clear hq1 hq2 hq3
      obtain ⟨yk, yv, yy⟩ := y
      simp only at he
      conv => cbv
      refine ⟨_, hat, ?_⟩
      conv => cbv
      intro g4
      cases yy <;> cases q1 <;> cases q2 <;> cases q3 <;> (conv => cbv)
      all_goals (repeat' (first | (rintro (_ | _) h <;> (first | replace h := ci hO h | replace h := cs hO h) <;> (dsimp only [CmpI, CmpS] at h) <;> (conv => cbv)) | (refine ⟨_, by assumption, ?_⟩; (conv => cbv)) | (refine And.intro (by first | assumption | exact ⟨by omega⟩ | exact ⟨by rw [hlen]; omega⟩ | exact ⟨rfl⟩ | exact ⟨rfl, rfl⟩) ?_)))
      all_goals first
        | (exfalso; omega)
        | exact ⟨_, _, up _ _ ⟨_, k + 1, rfl, by rw [o_add64 hO (by omega) (by omega)]; omega, by omega, rfl, scan_step hno (by rw [hg]; first | exact he | exact he.symm | (rw [he]; rfl) | (rw [he]; simp [h]; done) | exact h)⟩, ⟨⟨rfl, rfl, rfl, rfl, trivial⟩, trivial, rfl⟩, by omega⟩
        | exact (by rw [hr]; exact congrArg (D.int .i64) (scanE_hit (by omega) hno (by rw [hg]; first | exact he | exact he.symm | (rw [he]; rfl) | (rw [he]; simp [h]; done) | rfl) (by first | decide | exact h)).symm)
  · replace h0 := t_gtr hO h0
    rw [hlen] at h0
    conv => cbv
    rw [hr0, if_pos (by omega)]
end Go.Proofs.AM
namespace Go.Proofs.AM
open Go Go.Lib Cd
theorem m62 (n : Int) : PR3.v 62 [.int .i64 n] (.int .i64 (amtE n)) := pr3 E62 Tryz.func62 T62 (amt62_ok _ n)
theorem m117 (n : Int) : PR3.v 117 [.int .i64 n] (.int .i64 (amtE n)) := pr3 E117 Tryz.func117 T117 (amt117_ok _ n)
theorem m111 (a b : Int) : PR3.v 111 [.agg [.int .i64 a, .int .i64 b]] (.int .i64 (amtsE a b)) := pr3 E111 Tryz.func111 T111 (amts111_ok _ a b m117)
theorem m56 (a b : Int) : PR3.v 56 [.agg [.int .i64 a, .int .i64 b]] (.int .i64 (amtsE a b)) := pr3 E56 Tryz.func56 T56 (amts56_ok _ a b m62)
theorem m54 (b : Bool) (e : Int) : PR3.v 54 [.bool b, .int .i64 e] (.int .i64 (wantI b e)) := pr3 E54 Tryz.func54 T54 (want54_ok _ b e)
theorem m53 (l : List Int) (hl : l.length < 4611686018427387904) : PR3.v 53 [.sl 1 false (l.map iD)] (.int .i64 (firstI l)) := pr3 E53 Tryz.func53 T53 (first53_ok _ l hl)
theorem m200 (l : List Int) (hl : l.length < 4611686018427387904) : PR3.v 200 [.sl 1 false (l.map iD)] (.int .i64 (firstI l)) := pr3 E200 Tryz.func200 T200 (or200_ok _ l hl)
theorem m59 (n lo hi : Int) : PR3.v 59 [.int .i64 n, .int .i64 lo, .int .i64 hi] (.bool (btw n lo hi)) := pr3 E59 Tryz.func59 T59 (btw59_ok _ n lo hi)
theorem m114 (n lo hi : Int) : PR3.v 114 [.int .i64 n, .int .i64 lo, .int .i64 hi] (.bool (btw n lo hi)) := pr3 E114 Tryz.func114 T114 (btw114_ok _ n lo hi)
theorem m60 (s : Str) (hs : SL s) : PR3.v 60 [mkS s] (.bool (noneB s)) := pr3 E60 Tryz.func60 T60 (none60_ok _ s (k18 s hs))
theorem m122 (s : Str) (hs : SL s) : PR3.v 122 [mkS s] (.bool (!nameB s)) := pr3 E122 Tryz.func122 T122 (notname122_ok _ s (k18 s hs))
theorem m201 (l : List Str) (hl : FL l) : ∃ n : Int, PR3.v 201 [.sl 1 false (l.map mkS), .fn 122 [] []] (.int .i64 n) ∧ ((∃ y ∈ l, (!nameB y) = true) → 0 ≤ n) ∧ ((∀ y ∈ l, (!nameB y) = false) → n = -1) := by
  obtain ⟨n, h1, h2⟩ := indexf56_ok PR3 122 (fun y => !nameB y) l hl.len fun y hy => m122 y (hl.all y hy)
  exact ⟨n, pr3 E201 Tryz.func201 T201 h1, h2⟩
theorem m121 (l : List Str) (hl : FL l) (b : Bool) (hb : b = true ↔ ∃ y ∈ l, (!nameB y) = true) : PR3.v 121 [.sl 1 false (l.map mkS), .fn 122 [] []] (.bool b) := pr3 E121 Tryz.func121 T121 (containsf47_ok PR3 122 (fun y => !nameB y) l b hb (m201 l hl))
theorem m55 (l : List Str) (hl : FL l) : PR3.v 55 [.sl 1 false (l.map mkS)] (.bool (l.all nameB)) := pr3 E55 Tryz.func55 T55 (named55_ok _ l (m121 l hl))
theorem m116 (o : OffV) (ho : FO o) : PR3.v 116 [offD o] (.bool (nmB o)) := pr3 E116 Tryz.func116 T116 (names116_ok _ o ho k16)
theorem m108 (c : CoolV) (hc : FO c.o) : PR3.v 108 [coolD c] (.int .i64 (cool1E c)) := pr3 E108 Tryz.func108 T108 (cool108_ok _ c hc k18)
theorem m119 (c : CoolV) (hc : FO c.o) : PR3.v 119 [coolD c] (.int .i64 (cool1E c)) := pr3 E119 Tryz.func119 T119 (cool119_ok _ c hc k16)
theorem m109 (x y : OffV) (hx : FO x) (hy : FO y) : PR3.v 109 [offD x, offD y] (.int .i64 (cmpO x y)) := pr3 E109 Tryz.func109 T109 (comp109_ok _ x y hx hy (fun a b _ _ => cmp88 a b) m200)
theorem m120 (x y : OffV) : PR3.v 120 [offD x, offD y] (.bool (ltO x y)) := pr3 E120 Tryz.func120 T120 (less120_ok _ x y)
theorem m47 (l : List CoolV) (hl : FLs FCool l) : PR3.v 47 [.sl 4 false (l.map coolD)] (.int .i64 (coolsE l)) := pr3 E47 Tryz.func47 T47 (cool47_ok _ l hl.lt hl m108 m109)
theorem m52 (l : List CoolV) (hl : FLs FCool l) : PR3.v 52 [.sl 4 false (l.map coolD)] (.int .i64 (coolsE l)) := pr3 E52 Tryz.func52 T52 (cool52_ok _ l hl.lt hl m119 m120)
theorem m202 (l : List TolV) (hl : l.length < 4611686018427387904) (x : TolV) : PR3.v 202 [.sl 3 false (l.map tolD), tolD x] (.int .i64 (idxI (fun y => decide (x = y)) l)) := pr3 E202 Tryz.func202 T202 (index202_ok _ l hl x)
theorem m204 (l : List OffV) (hl : l.length < 4611686018427387904) (x : OffV) : PR3.v 204 [.sl 3 false (l.map offD), offD x] (.int .i64 (idxI (fun y => decide (x = y)) l)) := pr3 E204 Tryz.func204 T204 (index204_ok _ l hl x)
theorem m123 (l : List TolV) (x : TolV) (hl : l.length < 4611686018427387904) : PR3.v 123 [.sl 3 false (l.map tolD), tolD x] (.bool (l.any fun y => decide (x = y))) := pr3 E123 Tryz.func123 T123 (contains123_ok _ l x (m202 l hl x))
theorem m127 (l : List OffV) (x : OffV) (hl : l.length < 4611686018427387904) : PR3.v 127 [.sl 3 false (l.map offD), offD x] (.bool (l.any fun y => decide (x = y))) := pr3 E127 Tryz.func127 T127 (contains127_ok _ l x (m204 l hl x))
theorem m126 (x y : LabV) : PR3.v 126 [labD x, .vptr (labD y) 0] (.bool (decide (x.k = y.k))) := pr3 E126 Tryz.func126 T126 (same126_ok _ x y)
theorem m203 (l : List LabV) (hl : l.length < 4611686018427387904) (x : LabV) : PR3.v 203 [.sl 2 false (l.map labD), .fn 126 [] [.vptr (labD x) 0]] (.int .i64 (idxI (fun y => decide (y.k = x.k)) l)) := pr3 E203 Tryz.func203 T203 (indexf203_ok _ 126 _ l hl x fun y _ => m126 y x)
theorem m125 (l : List LabV) (x : LabV) (hl : l.length < 4611686018427387904) : PR3.v 125 [.sl 2 false (l.map labD), .fn 126 [] [.vptr (labD x) 0]] (.bool (l.any fun y => decide (y.k = x.k))) := pr3 E125 Tryz.func125 T125 (containsf125_ok _ 126 _ l x (m203 l hl x))
theorem m57 (l : List TolV) (hl : FLs FTol l) : PR3.v 57 [.sl 3 false (l.map tolD)] (.int .i64 (tolsE l)) := pr3 E57 Tryz.func57 T57 (tols57_ok _ l hl.lt hl k18 k19 m123)
theorem m112 (l : List TolV) (hl : FLs FTol l) : PR3.v 112 [.sl 3 false (l.map tolD)] (.int .i64 (tolsE l)) := pr3 E112 Tryz.func112 T112 (tols112_ok _ l hl.lt hl k16 k17)
theorem m61 (l : List LabV) (hl : FLs FLab l) : PR3.v 61 [.sl 2 false (l.map labD)] (.int .i64 (tntsE l)) := pr3 E61 Tryz.func61 T61 (tnts61_ok _ l hl.lt hl k18 k19 m125)
theorem m115 (l : List LabV) (hl : FLs FLab l) : PR3.v 115 [.sl 2 false (l.map labD)] (.int .i64 (tntsE l)) := pr3 E115 Tryz.func115 T115 (tnts115_ok _ l hl.lt hl k16 k17)
theorem m63 (l : List OffV) (hl : FLs FO l) : PR3.v 63 [.sl 3 false (l.map offD)] (.int .i64 (offsE l)) := pr3 E63 Tryz.func63 T63 (offs63_ok _ l hl.lt hl m55 m54 m53 m127)
theorem m118 (l : List OffV) (hl : FLs FO l) : PR3.v 118 [.sl 3 false (l.map offD)] (.int .i64 (offsE l)) := pr3 E118 Tryz.func118 T118 (offs118_ok _ l hl.lt hl m116)
theorem m113 (l : List LabV) (hl : FLs FLab l) : PR3.v 113 [.sl 2 false (l.map labD)] (.int .i64 (termsE l)) := pr3 E113 Tryz.func113 T113 (terms113_ok _ l hl.lt hl k16)
theorem m124 (k a : Str) (ha : SL a) : PR3.v 124 [mkS k, mkS a] (.int .i64 (termE k a)) := pr3 E124 Tryz.func124 T124 (term124_ok _ k a ha m55 m54 m53)
theorem m58 (p : PodV) (hp : FPod p) : PR3.v 58 [podD p] (.int .i64 (allTE p.spr p.near p.apart)) := pr3 E58 Tryz.func58 T58 (terms58_ok _ p hp.spr hp.near hp.apart hp.spr.lt hp.near.lt hp.apart.lt m124 m54 m53)
theorem m84 (l : List ReqV) (hl : FLs FR l) (n : Nat) (hn : n ≤ 16) : PR3.v 84 [.sl 4 false (l.map reqD), .int .i64 n] (.tup [.sl 6 false ((setsL n l).map setD), .int .i64 (reqsE n l)]) := pr3 E84 Tryz.func84 T84 (sets84_ok _ l hl.len hl.all n hn k12)
theorem m36 (l : List ReqV) (hl : FLs FR l) : PR3.v 36 [.sl 4 false (l.map reqD)] (.int .i64 (reqsE 8 l)) := pr3 E36 Tryz.func36 T36 (check36_ok _ l (m84 l hl 8 (by omega)))
theorem m91 (l : List ReqV) (hl : FLs FR l) : PR3.v 91 [.sl 4 false (l.map reqD)] (.int .i64 (scanE (atE wrongE l) l.length)) := pr3 E91 Tryz.func91 T91 (first91_ok _ l hl.len hl.all k20)
theorem m37 (l : List ReqV) (hl : FLs FR l) : PR3.v 37 [.sl 4 false (l.map reqD)] (.int .i64 (reqsE 8 l)) := pr3 E37 Tryz.func37 T37 (check37_ok _ l (m91 l hl))
theorem co_all : CO PR3 := ⟨m55, m54, m53, m59, m60, m62, m56, m63⟩
theorem m21 (p : PodV) (hp : FPod p) : PR3.v 21 [podD p] (.int .i64 (podE p)) := pr3 E21 Tryz.func21 T21 (pod21_ok _ co_all p hp (m36 _ hp.reqs) (m57 _ hp.tols) (m58 p hp))
theorem m22 (p : PoolV) (hp : FPool p) : PR3.v 22 [poolD p] (.int .i64 (poolE p)) := pr3 E22 Tryz.func22 T22 (pool22_ok _ co_all p hp (m36 _ hp.reqs) (m61 _ hp.taints))
theorem m23 (c : ClaimV) (hc : FClaim c) : PR3.v 23 [claimD c] (.int .i64 (claimE c)) := pr3 E23 Tryz.func23 T23 (claim23_ok _ co_all c hc)
theorem m24 (c : CmdV) (hc : FCmd c) : PR3.v 24 [cmdD c] (.int .i64 (cmdE c)) := pr3 E24 Tryz.func24 T24 (cmd24_ok _ co_all c hc)
theorem m48 (p : PodV) (hp : FPod p) : PR3.v 48 [podD p] (.int .i64 (podE p)) := pr3 E48 Tryz.func48 T48 (rpod48_ok _ p hp k16 m111 (m37 _ hp.reqs) (m112 _ hp.tols) m113 m114)
theorem m49 (p : PoolV) (hp : FPool p) : PR3.v 49 [poolD p] (.int .i64 (poolE p)) := pr3 E49 Tryz.func49 T49 (rpool49_ok _ p hp k16 m111 (m37 _ hp.reqs) (m115 _ hp.taints) m114)
theorem m50 (c : ClaimV) (hc : FClaim c) : PR3.v 50 [claimD c] (.int .i64 (claimE c)) := pr3 E50 Tryz.func50 T50 (rclaim50_ok _ c hc k16 m111 m116 m117 m118 m114)
theorem m51 (c : CmdV) (hc : FCmd c) : PR3.v 51 [cmdD c] (.int .i64 (cmdE c)) := pr3 E51 Tryz.func51 T51 (rcmd51_ok _ c hc k16 m118 m114)
theorem cool_one {c : CoolV} (hc : FCool c) : FLs FCool [c] := ⟨by simp, by simpa using hc⟩
theorem m47o (c : CoolV) (hc : FCool c) : PR3.v 47 [.sl 4 false [coolD c]] (.int .i64 (cool1E c)) := by rw [← coolsE_one]; exact m47 [c] (cool_one hc)
theorem m52o (c : CoolV) (hc : FCool c) : PR3.v 52 [.sl 4 false [coolD c]] (.int .i64 (cool1E c)) := by rw [← coolsE_one]; exact m52 [c] (cool_one hc)
theorem m19 (x : AnyV) (hx : FAny x) : PR3.v 19 [ofD x] (.int .i64 (chkE x)) := pr3 E19 Tryz.func19 T19 (chk19_ok _ x (m21 _ hx.pod) (m22 _ hx.pool) (m23 _ hx.claim) (m24 _ hx.cmd) (m47o _ hx.cool))
theorem m20 (x : AnyV) (hx : FAny x) : PR3.v 20 [anyD x] (.int .i64 (chkE x)) := pr3 E20 Tryz.func20 T20 (chk20_ok _ x (m48 _ hx.pod) (m49 _ hx.pool) (m50 _ hx.claim) (m51 _ hx.cmd) (m52o _ hx.cool))
theorem m17 (x : AnyV) : PR3.v 17 [anyD x] (ofD x) := pr3 E17 Tryz.func17 T17 (of17_ok _ x)
theorem cool_join (c : CoolV) (h : cool1E c = 0) : PR3.v 46 [.sl 1 false [mkS c.o.t, mkS c.o.z, mkS c.o.k], mkS [47]] (mkS (c.o.t ++ 47 :: (c.o.z ++ 47 :: c.o.k))) := by
  have hn : ∀ s, nameB s = true → s.length ≤ 16 := fun s hs => by
    simp only [nameB, decide_eq_true_eq] at hs
    exact hs.2.1
  unfold cool1E at h
  split at h
  · rename_i h1
    unfold nmB at h1
    simp only [Bool.and_eq_true] at h1
    exact join46 _ _ _ (by have := hn _ h1.1; have := hn _ h1.2.1; have := hn _ h1.2.2; omega)
  · simp at h
theorem m16 (x : AnyV) (hx : FAny x) : PR3.v 16 [ofD x] (.tup [mkS (nameT x), .int .i64 (chkE x)]) := pr3 E16 Tryz.func16 T16 (oname16_ok _ x (m19 x hx) (cool_join x.cool))
theorem m18 (x : AnyV) (hx : FAny x) : PR3.v 18 [anyD x] (.tup [mkS (nameT x), .int .i64 (chkE x)]) := pr3 E18 Tryz.func18 T18 (name18_8 _ x hx.cool.o (m20 x hx))
theorem sl_small {s : Str} (h : s.length ≤ 1000) : SL s := by unfold SL; omega
theorem fi_small {n : Int} (h : 0 ≤ n ∧ n ≤ 1099511627776) : FI n := by unfold FI; omega
theorem f_liveP (n : Str) (s : List SprV) (hn : n.length ≤ 1000) (hs : FLs FSpr s) : FPod (liveP n s) := ⟨sl_small hn, sl_small (by simp [liveP, webS]), fi_small (by simp [liveP]), fi_small (by simp [liveP]), fi_small (by simp [liveP]), ⟨by simp [liveP], by simp [liveP]⟩, ⟨by simp [liveP], by simp [liveP]⟩, hs, ⟨by simp [liveP], by simp [liveP]⟩, ⟨by simp [liveP], by simp [liveP]⟩, fi_small (by simp [liveP]), sl_small (by simp [liveP])⟩
theorem m15 : PR3.v 15 [] (.bool true) := by
  have hc : FO liveC.o := ⟨sl_small (by decide), sl_small (by decide), sl_small (by decide)⟩
  have n0 : ∀ {α : Type} {F : α → Prop}, FLs F ([] : List α) := ⟨by simp, by simp⟩
  have p1 := m21 (liveP [120] []) (f_liveP _ _ (by decide) n0)
  have p2 := m21 (liveP [88] []) (f_liveP _ _ (by decide) n0)
  have p3 := m21 (liveP [120] [⟨rackS, webS, 1⟩]) (f_liveP _ _ (by decide) ⟨by simp, by simpa using ⟨sl_small (by decide), sl_small (by decide), fi_small (by decide)⟩⟩)
  rw [live_p] at p1
  rw [live_q] at p2
  rw [live_r] at p3
  have h19 : PR3.v 19 [.iface 42 (coolD liveC)] (.int .i64 (cool1E liveC)) := pr3 E19 Tryz.func19 T19 (chk19_cool _ liveC (m47o _ ⟨hc, fi_small (by decide)⟩))
  have h16 : PR3.v 16 [.iface 42 (coolD liveC)] _ := pr3 E16 Tryz.func16 T16 (name16_cool _ liveC h19 (cool_join liveC))
  rw [live_c] at h16
  exact pr3 E15 Tryz.func15 T15 (live15_8 _ h16 p1 p2 p3 (pr3 E19 Tryz.func19 T19 (chk19_int _ 5)) (pr3 E19 Tryz.func19 T19 (chk19_nil _)))
theorem m3 (x : AnyV) (hx : FAny x) : PR3.v 3 [anyD x] (.bool true) := by
  have h17 := m17 x
  have h16 := m16 x hx
  have h18 := m18 x hx
  have h19 := m19 x hx
  have h20 := m20 x hx
  by_cases h1 : x.kind = 1
  · have e : chkE x = podE x.pod := by unfold chkE; rw [if_pos h1]
    have ho : ofD x = .iface 29 (podD x.pod) := by unfold ofD; rw [if_pos h1]
    rw [ho] at h16 h17 h19
    exact pr3 E3 Tryz.func3 T3 (law3_pod _ x _ _ h1 m15 h17 h16 h18 h19 h20 (by rw [e]; exact m21 _ hx.pod))
  by_cases h2 : x.kind = 2
  · have e : chkE x = poolE x.pool := by unfold chkE; rw [if_neg h1, if_pos h2]
    have ho : ofD x = .iface 32 (poolD x.pool) := by unfold ofD; rw [if_neg h1, if_pos h2]
    rw [ho] at h16 h17 h19
    exact pr3 E3 Tryz.func3 T3 (law3_pool _ x _ _ h2 m15 h17 h16 h18 h19 h20 (by rw [e]; exact m22 _ hx.pool))
  by_cases h3 : x.kind = 3
  · have e : chkE x = claimE x.claim := by unfold chkE; rw [if_neg h1, if_neg h2, if_pos h3]
    have ho : ofD x = .iface 37 (claimD x.claim) := by unfold ofD; rw [if_neg h1, if_neg h2, if_pos h3]
    rw [ho] at h16 h17 h19
    exact pr3 E3 Tryz.func3 T3 (law3_claim _ x _ _ h3 m15 h17 h16 h18 h19 h20 (by rw [e]; exact m23 _ hx.claim))
  by_cases h4 : x.kind = 4
  · have e : chkE x = cmdE x.cmd := by unfold chkE; rw [if_neg h1, if_neg h2, if_neg h3, if_pos h4]
    have ho : ofD x = .iface 40 (cmdD x.cmd) := by unfold ofD; rw [if_neg h1, if_neg h2, if_neg h3, if_pos h4]
    rw [ho] at h16 h17 h19
    exact pr3 E3 Tryz.func3 T3 (law3_cmd _ x _ _ h4 m15 h17 h16 h18 h19 h20 (by rw [e]; exact m24 _ hx.cmd))
  by_cases h5 : x.kind = 5
  · have ho : ofD x = .iface 42 (coolD x.cool) := by unfold ofD; rw [if_neg h1, if_neg h2, if_neg h3, if_neg h4, if_pos h5]
    rw [ho] at h16 h17 h19
    exact pr3 E3 Tryz.func3 T3 (law3_cool _ x _ _ h5 m15 h17 h16 h18 h19 h20)
  · have ho : ofD x = .iface 3 (.int .i64 x.kind) := by unfold ofD; rw [if_neg h1, if_neg h2, if_neg h3, if_neg h4, if_neg h5]
    rw [ho] at h16 h17 h19
    exact pr3 E3 Tryz.func3 T3 (law3_int _ x _ _ ⟨h1, h2, h3, h4⟩ m15 h17 h16 h18 h19 h20)
theorem m4 (p : PodV) (w : Int) (hp : FPod p) (hw : FI w) : PR3.v 4 [podD p, .int .i64 w] (.bool true) := pr3 E4 Tryz.func4 T4 (law4_ok _ p w hp hw m15 m21)
theorem m5 (c : CmdV) (hc : FCmd c) : PR3.v 5 [cmdD c] (.bool true) := pr3 E5 Tryz.func5 T5 (law5_ok _ c hc m15 m24)
end Go.Proofs.AM
