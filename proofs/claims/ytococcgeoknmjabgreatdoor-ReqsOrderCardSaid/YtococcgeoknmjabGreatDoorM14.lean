/- Part 14 of the lemmas: BOr, BOq, BGOr. -/
import Derived.Test.YtococcgeoknmjabGreatDoorM11
import Derived.Test.YtococcgeoknmjabGreatDoorM13
import Derived.Test.YtococcgeoknmjabGreatDoorM12
import Derived.Test.YtococcgeoknmjabGreatDoorM09
namespace Go.Proofs.AM
open Go Go.Lib Cd
set_option maxRecDepth 100000 in
set_option maxHeartbeats 2000000 in
theorem back7_ok (R : Ans) (l : List ReqV) (hl : l.length ≤ 1000) : AnsF R c7 [.sl 4 false (l.map reqD)] (.sl 4 false ((backL l).map reqD)) := by
  obtain ⟨xs, hxs⟩ : ∃ xs, xs = l.map reqD := ⟨_, rfl⟩
  have cx : CleanL xs := cleanL_map clean_req hxs
  obtain ⟨rs, hrs⟩ : ∃ xs, xs = (backL l).map reqD := ⟨_, rfl⟩
  have cr : CleanL rs := cleanL_map clean_req hrs
  rw [← hrs, ← hxs]
  refine wpF_sound ⟨rfl, by decide⟩ fun O hO V hV => ?_; subst hV
  have hlx : O .len xs = l.length := by rw [o_len hO, hxs]; simp
  conv => cbv
  refine loop_of (fun n d => ∃ (i : Int) (k : Nat) (g : Nat) (qs : List D), d = ⟨[(0, .sl 4 false xs), (3, .own 18 g), (4, .int .i64 i)], [(18, ⟨g, .rw, .arr 4 44, qs⟩)], false⟩ ∧ i = (l.length : Int) - 1 - k ∧ k ≤ l.length ∧ n = l.length - k ∧ qs = (l.reverse.take k).map reqD) ⟨_, _, ⟨_, 0, 1, [], rfl, by rw [o_sub64 hO (by omega) (by omega), hlx]; omega, by omega, rfl, by simp⟩, ⟨⟨rfl, rfl, rfl, trivial⟩, ⟨rfl, trivial⟩, rfl⟩⟩ ?_
  rintro J up n d ⟨i, k, g, qs, rfl, hi, hk, rfl, hqs⟩
  have hlq : O .len qs = k := by rw [o_len hO, hqs]; simp; omega
  conv => cbv
  rintro (_ | _) h1
  · replace h1 := f_geq hO h1
    obtain rfl : k = l.length := by omega
    have hfin : qs ++ xs = rs := by
      rw [hqs, hxs, hrs]
      unfold backL
      rw [List.map_append, List.take_of_length_le (by simp)]
    clear up
    conv => cbv
    refine ⟨⟨cx.c⟩, ⟨by show (O .len qs + O .len xs) * ((56 : Nat) : Int) ≤ _; rw [hlq, hlx]; omega⟩, ?_⟩
    rw [o_app hO, hfin]
    exact ⟨cr, rfl⟩
  replace h1 := t_geq hO h1
  obtain ⟨y, hy⟩ : ∃ y, l[l.length - 1 - k]? = some y := ⟨_, List.getElem?_eq_getElem (by omega)⟩
  have hatx : atX xs i (reqD y) := atX_map hy hxs (by omega)
  have hry : l.reverse[k]? = some y := by rw [List.getElem?_reverse (by omega)]; exact hy
  have hnx : qs ++ [reqD y] = (l.reverse.take (k + 1)).map reqD := by rw [hqs, List.take_add_one, hry]; simp
  obtain ⟨key, op, vals, nn⟩ := y
  simp only [reqD] at hatx hnx
  obtain ⟨vs, hvs⟩ : ∃ xs, xs = vals.map mkS := ⟨_, rfl⟩
  have cv : CleanL vs := cleanL_map clean_S hvs
  simp only [← hvs] at hatx hnx
  have cN : closedL [D.agg [mkS key, .int .i64 op, .sl 1 false vs, .int .i64 nn]] = true := by simp [closedL, closed, mkS, cv.c]
  have h1q : ∀ x : D, O .len [x] = 1 := fun x => by rw [o_len hO]; rfl
  clear hvs hy hry
  conv => cbv
  refine ⟨_, hatx, ?_⟩
  conv => cbv
  intro g17
  conv => cbv
  refine ⟨⟨cN⟩, ⟨by show (O .len qs + O .len [_]) * ((56 : Nat) : Int) ≤ _; rw [hlq, h1q]; omega⟩, ?_⟩
  exact ⟨_, _, up _ _ ⟨_, k + 1, g + 1, _, rfl, by rw [o_sub64 hO (by omega) (by omega)]; omega, by omega, rfl, by rw [o_app hO]; exact hnx⟩, ⟨⟨rfl, rfl, rfl, trivial⟩, ⟨rfl, trivial⟩, rfl⟩, by omega⟩
set_option maxRecDepth 100000 in
set_option maxHeartbeats 2000000 in
theorem order3_ok (R : Ans) (a b : List ReqV) (L : List LabV) (ha : FLs FR a) (hb : FLs FR b) (hL : FLs FLab L) (h4 : ∀ l, FLs FR l → R.v 4 [.sl 4 false (l.map reqD)] (.int .i64 (reqsE 8 l))) (h5 : R.v 5 [] (.bool true))
    (h6 : ∀ l L, FLs FR l → FLs FLab L → R.v 6 [.sl 4 false (l.map reqD), .sl 2 false (L.map labD)] (.tup [.bool (admE l L).1, .int .i64 (admE l L).2])) (h7 : ∀ l : List ReqV, l.length ≤ 1000 → R.v 7 [.sl 4 false (l.map reqD)] (.sl 4 false ((backL l).map reqD)))
    (h8 : ∀ l, FLs FR l → R.v 8 [.sl 4 false (l.map reqD)] (.tup [.sl 7 false ((setsE l).1.map keyedD), .int .i64 (setsE l).2])) (h9 : ∀ x y, FS x → FS y → R.v 9 [setD x, setD y] (.bool (decide (x = y)))) :
    AnsF R c3 [.sl 4 false (a.map reqD), .sl 4 false (b.map reqD), .sl 2 false (L.map labD)] (.bool true) := by
  have k4 := h4 a ha
  have k4b := h4 b hb
  have p1 := fun h => adm_back (a := a) h L
  have p2 := fun h h' => adm_both (a := a) (b := b) h h' L
  have p3 := fun h => sets_back (a := a) h
  have p4 : reqsE 8 a = 0 → a.length ≤ 8 := reqs_len
  have p5 : reqsE 8 b = 0 → b.length ≤ 8 := reqs_len
  have k6 := h6 a L ha hL
  have k6b := h6 b L hb hL
  have k6k := fun h : a.length ≤ 8 => h6 (backL a) L ⟨by unfold backL; simp; omega, fun r hr => ha.all r ((back_mem r).1 hr)⟩ hL
  have k6c := fun (h : a.length ≤ 8) (h' : b.length ≤ 8) => h6 (a ++ b) L ⟨by simp; omega, fun r hr => by
    rcases List.mem_append.1 hr with hr | hr
    · exact ha.all r hr
    · exact hb.all r hr⟩ hL
  have k7 := fun h : a.length ≤ 8 => h7 a (by omega)
  have k8 := h8 a ha
  have k8k := fun h : a.length ≤ 8 => h8 (backL a) ⟨by unfold backL; simp; omega, fun r hr => ha.all r ((back_mem r).1 hr)⟩
  have hfs := setsE_fs a
  obtain ⟨e1, he1⟩ : ∃ e, e = reqsE 8 a := ⟨_, rfl⟩
  obtain ⟨e2, he2⟩ : ∃ e, e = reqsE 8 b := ⟨_, rfl⟩
  rw [← he1] at k4 p4
  rw [← he2] at k4b p5
  obtain ⟨xs, hxs⟩ : ∃ xs, xs = a.map reqD := ⟨_, rfl⟩
  obtain ⟨ys, hys⟩ : ∃ xs, xs = b.map reqD := ⟨_, rfl⟩
  obtain ⟨ls, hls⟩ : ∃ xs, xs = L.map labD := ⟨_, rfl⟩
  obtain ⟨bs, hbs⟩ : ∃ xs, xs = (backL a).map reqD := ⟨_, rfl⟩
  have cx : CleanL xs := cleanL_map clean_req hxs
  have cy : CleanL ys := cleanL_map clean_req hys
  have cb : CleanL bs := cleanL_map clean_req hbs
  have cl : CleanL ls := cleanL_map (fun x => show Clean (labD x) from ⟨rfl, rfl⟩) hls
  rw [List.map_append] at k6c
  simp only [← hxs, ← hys, ← hls, ← hbs] at k4 k4b k6 k6b k6k k6c k7 k8 k8k ⊢
  clear h4 h6 h7 h8
  refine wpF_sound ⟨rfl, by decide⟩ fun O hO V hV => ?_; subst hV
  conv => cbv
  refine ⟨cx, _, k4, ?_⟩
  conv => cbv
  rintro (_ | _) h <;> replace h := ci hO h <;> dsimp only [CmpI] at h
  case true =>
    conv => cbv
    refine ⟨_, h5, ?_⟩
    conv => cbv
    trivial
  subst h
  conv => cbv
  refine ⟨cy, _, k4b, ?_⟩
  conv => cbv
  rintro (_ | _) h <;> replace h := ci hO h <;> dsimp only [CmpI] at h
  case true =>
    conv => cbv
    refine ⟨_, h5, ?_⟩
    conv => cbv
    trivial
  subst h
  have l1 := p4 rfl
  have l2 := p5 rfl
  replace p1 := p1 he1.symm
  obtain ⟨q1, q2, q3, q4⟩ := p2 he1.symm he2.symm
  obtain ⟨s1, s2⟩ := p3 he1.symm
  replace k6k := k6k l1
  replace k6c := k6c l1 l2
  replace k7 := k7 l1
  replace k8k := k8k l1
  rw [p1] at k6k
  rw [s1] at k8k
  rw [q1] at k6 k6k
  rw [q2] at k6b
  rw [q3, q4] at k6c
  rw [s2] at k8 k8k
  obtain ⟨e, he⟩ : ∃ e, e = labsE L := ⟨_, rfl⟩
  obtain ⟨x, hx⟩ : ∃ e, e = (admE a L).1 := ⟨_, rfl⟩
  obtain ⟨z, hz⟩ : ∃ e, e = (admE b L).1 := ⟨_, rfl⟩
  obtain ⟨K, hK⟩ : ∃ e, e = (setsE a).1 := ⟨_, rfl⟩
  rw [← hK] at k8 k8k hfs
  rw [← he] at k6 k6k k6b k6c
  rw [← hx] at k6 k6k k6c
  rw [← hz] at k6b k6c
  obtain ⟨ks, hks⟩ : ∃ xs, xs = K.map keyedD := ⟨_, rfl⟩
  have ck : CleanL ks := cleanL_map clean_keyed hks
  rw [← hks] at k8 k8k
  have hlk : O .len ks = K.length := by rw [o_len hO, hks]; simp
  have cx0 : O .len xs = a.length := by rw [o_len hO, hxs]; simp
  have cy0 : O .len ys = b.length := by rw [o_len hO, hys]; simp
  have hK8 : K.length ≤ 8 := by have := hfs.2; omega
  have happ : O .app xs ys = xs ++ ys := o_app hO _ _
  have happ0 : O .app [] xs = xs := o_app hO _ _
  have cxy : CleanL (O .app xs ys) := by rw [happ]; exact cx.app cy
  rw [← happ] at k6c
  obtain ⟨w, hw⟩ : ∃ w, w = (x && z) := ⟨_, rfl⟩
  rw [← hw] at k6c
  clear he hx hz hK p1 p2 p3 p4 p5 q1 q2 q3 q4 s1 s2 k4 k4b
  have len0 : O .len [] = 0 := o_len hO []
  conv => cbv
  refine ⟨cx, cl, _, k6, ?_⟩
  conv => cbv
  refine ⟨cx, _, k7, ?_⟩
  conv => cbv
  refine ⟨cb, cl, _, k6k, ?_⟩
  conv => cbv
  refine ⟨cy, cl, _, k6b, ?_⟩
  conv => cbv
  refine ⟨⟨cx.c⟩, ⟨by show (O .len [] + O .len xs) * ((56 : Nat) : Int) ≤ _; rw [len0, cx0]; omega⟩, ?_⟩
  rw [happ0]
  conv => cbv
  have hf : FitA (O .len xs) (O .len ys) 56 := ⟨by rw [cx0, cy0]; omega⟩
  refine ⟨⟨cy.c⟩, ?_⟩
  refine ⟨hf, ?_⟩
  refine ⟨cxy, ?_⟩
  refine ⟨cl, ?_⟩
  refine ⟨_, k6c, ?_⟩
  conv => cbv
  have same : ∀ {n : Int}, true = O .icmp .neq n n → False := fun h => t_neq hO h rfl
  rintro (_ | _) h <;> (conv => cbv)
  case true => exact (same h).elim
  clear h
  rintro (_ | _) h <;> (conv => cbv)
  case true => exact (same h).elim
  clear h
  rintro (_ | _) h <;> (conv => cbv)
  case true => exact (same h).elim
  clear h
  rintro (_ | _) h <;> (conv => cbv)
  case true => cases x <;> (rw [o_beq hO] at h; simp at h)
  clear h
  subst hw
  cases x <;> cases z <;> (conv => cbv)
  all_goals
    rintro (_ | _) h <;> (conv => cbv)
    case true => exfalso; rw [o_beq hO] at h; simp at h
    clear h
    refine ⟨cx, ?_⟩
    refine ⟨_, k8, ?_⟩
    (conv => cbv)
    refine ⟨cx, _, k7, ?_⟩
    (conv => cbv)
    refine ⟨cb, _, k8k, ?_⟩
    (conv => cbv)
    rintro (_ | _) h <;> (conv => cbv)
    case true => exact (same h).elim
    clear h
    rintro (_ | _) h <;> (conv => cbv)
    case true => exact (same h).elim
    clear h
    refine loop_of (fun n d => ∃ (i : Int) (k : Nat), d = ⟨[(15, .sl 7 false ks), (17, .sl 7 false ks), (19, .int .i64 i)], [], false⟩ ∧ i = k ∧ k ≤ K.length ∧ n = K.length - k) ⟨_, _, ⟨_, 0, rfl, rfl, by omega, rfl⟩, ⟨⟨rfl, rfl, rfl, trivial⟩, trivial, rfl⟩⟩ ?_
    rintro J up n d ⟨i, k, rfl, hi, hk, rfl⟩
    (conv => cbv)
    rintro (_ | _) h1 <;> (conv => cbv)
    · clear up
      (conv => cbv)
      refine ⟨_, h5, ?_⟩
      (conv => cbv)
      try trivial
    replace h1 := t_lss hO h1
    rw [hlk] at h1
    obtain ⟨y, hy⟩ : ∃ y, K[k]? = some y := ⟨_, List.getElem?_eq_getElem (by omega)⟩
    have hat : atX ks i (keyedD y) := atX_map hy hks hi
    have fy := hfs.1 y (List.mem_of_getElem? hy)
    have k9 := h9 y.s y.s fy fy
    rw [decide_eq_true rfl] at k9
    obtain ⟨key, ⟨m, nn, u, l, lo, hi'⟩⟩ := y
    simp only [keyedD, keyC, setD] at hat k9
    obtain ⟨vs, hvs⟩ : ∃ xs, xs = l.map mkS := ⟨_, rfl⟩
    have cv : CleanL vs := cleanL_map clean_S hvs
    simp only [← hvs] at hat k9
    (conv => cbv)
    refine ⟨_, hat, ?_⟩
    (conv => cbv)
    refine ⟨_, hat, ?_⟩
    (conv => cbv)
    rintro (_ | _) h <;> (conv => cbv)
    case true => exfalso; rw [o_sneq hO] at h; simp at h
    clear h
    refine ⟨_, hat, ?_⟩
    (conv => cbv)
    refine ⟨_, hat, ?_⟩
    (conv => cbv)
    refine ⟨cv, cv, _, k9, ?_⟩
    (conv => cbv)
    exact ⟨_, _, up _ _ ⟨_, k + 1, rfl, by rw [o_add64 hO (by omega) (by omega)]; omega, by omega, rfl⟩, ⟨⟨rfl, rfl, rfl, trivial⟩, trivial, rfl⟩, by omega⟩
end Go.Proofs.AM
namespace Go.Proofs.AM
open Go Go.Lib Cd
theorem equal21_ok (R : Ans) (l l' : List Str) (hl : FL l) (hl' : FL l') : AnsF R c21 [.sl 1 false (l.map mkS), .sl 1 false (l'.map mkS)] (.bool (decide (l = l'))) := by
  obtain ⟨xs, hxs⟩ : ∃ xs, xs = l.map mkS := ⟨_, rfl⟩
  obtain ⟨ys, hys⟩ : ∃ ys, ys = l'.map mkS := ⟨_, rfl⟩
  obtain ⟨r, hr⟩ : ∃ r, r = decide (l = l') := ⟨_, rfl⟩
  rw [← hxs, ← hys, ← hr]
  have hl1 := hl.len
  refine wpF_sound ⟨rfl, by decide⟩ fun O hO V hV => ?_
  have hlx : O .len xs = l.length := by rw [o_len hO, hxs]; simp
  have hly : O .len ys = l'.length := by rw [o_len hO, hys]; simp
  conv => cbv
  rintro (_ | _) h1
  · replace h1 := f_neq hO h1
    rw [hlx, hly] at h1
    conv => cbv
    refine loop_of (fun n d => ∃ (i : Int) (k : Nat), d = ⟨[(0, .sl 1 false xs), (1, .sl 1 false ys), (12, .int .i64 (O .len xs)), (13, .int .i64 i)], [], false⟩ ∧ i = k ∧ k ≤ l.length ∧ n = l.length - k ∧ ∀ j, j < k → l[j]? = l'[j]?) ⟨_, _, ⟨_, 0, rfl, rfl, by omega, rfl, by simp⟩, ⟨⟨rfl, rfl, rfl, rfl, trivial⟩, trivial, rfl⟩⟩ ?_
    rintro J up n d ⟨i, k, rfl, hi, hk, rfl, hno⟩
    conv => cbv
    rintro (_ | _) h2
    · replace h2 := f_lss hO h2
      rw [hlx] at h2
      conv => cbv
      have : l = l' := by
        apply List.ext_getElem?
        intro j
        by_cases hj : j < k
        · exact hno j hj
        · rw [List.getElem?_eq_none (by omega), List.getElem?_eq_none (by omega)]
      rw [hr]
      simp [this]
    · replace h2 := t_lss hO h2
      rw [hlx] at h2
      obtain ⟨x, hx⟩ : ∃ x, l[k]? = some x := ⟨_, List.getElem?_eq_getElem (by omega)⟩
      obtain ⟨y, hy⟩ : ∃ y, l'[k]? = some y := ⟨_, List.getElem?_eq_getElem (by omega)⟩
      conv => cbv
      refine ⟨mkS x, atX_map hx hxs hi, ?_⟩
      conv => cbv
      refine ⟨mkS y, atX_map hy hys hi, ?_⟩
      conv => cbv
      rintro (_ | _) h3
      · replace h3 : x = y := f_sneq hO h3
        conv => cbv
        refine ⟨_, _, up _ _ ⟨_, k + 1, rfl, ?_, by omega, rfl, ?_⟩, ⟨⟨rfl, rfl, rfl, rfl, trivial⟩, trivial, rfl⟩, by omega⟩
        · rw [o_add64 hO (by omega) (by omega)]; omega
        · intro j hj
          by_cases e : j = k
          · subst e; rw [hx, hy, h3]
          · exact hno j (by omega)
      · replace h3 : x ≠ y := t_sneq hO h3
        conv => cbv
        rw [hr]
        simp [ne_at hx hy h3]
  · replace h1 := t_neq hO h1
    rw [hlx, hly] at h1
    conv => cbv
    rw [hr]
    have : l ≠ l' := fun e => by subst e; exact h1 rfl
    simp [this]
theorem same9_ok (R : Ans) (a b : SetV) (h46 : R.v 21 [.sl 1 false (a.l.map mkS), .sl 1 false (b.l.map mkS)] (.bool (decide (a.l = b.l)))) : AnsF R c9 [setD a, setD b] (.bool (decide (a = b))) := by
  obtain ⟨r, hr⟩ : ∃ r, r = decide (a = b) := ⟨_, rfl⟩
  rw [← hr]
  have hrf : ¬ (a.m = b.m ∧ a.n = b.n ∧ a.u = b.u ∧ a.lo = b.lo ∧ a.hi = b.hi ∧ a.l = b.l) → r = false := fun h => by rw [hr]; simpa [SetV.eq_iff] using h
  have hrt : (a.m = b.m ∧ a.n = b.n ∧ a.u = b.u ∧ a.lo = b.lo ∧ a.hi = b.hi ∧ a.l = b.l) → r = true := fun h => by rw [hr]; simpa [SetV.eq_iff] using h
  obtain ⟨m, n, u, l, lo, hi⟩ := a
  obtain ⟨m', n', u', l', lo', hi'⟩ := b
  simp only at hrf hrt h46
  clear hr
  unfold setD
  simp only
  have hcx : CleanL (l.map mkS) := cleanL_map clean_S rfl
  have hcy : CleanL (l'.map mkS) := cleanL_map clean_S rfl
  obtain ⟨xs, hxs⟩ : ∃ xs, xs = l.map mkS := ⟨_, rfl⟩
  obtain ⟨ys, hys⟩ : ∃ ys, ys = l'.map mkS := ⟨_, rfl⟩
  rw [← hxs, ← hys] at h46
  rw [← hxs] at hcx
  rw [← hys] at hcy
  rw [← hxs, ← hys]
  obtain ⟨q, hq⟩ : ∃ q, q = decide (l = l') := ⟨_, rfl⟩
  rw [← hq] at h46
  refine wpF_sound ⟨rfl, by decide⟩ fun O hO V hV => ?_
  subst hV
  conv => cbv
  rintro (_ | _) h1
  · replace h1 := b_eq hO h1
    conv => cbv
    rw [hrf (fun h => by rw [h.1] at h1; simp at h1)]
  replace h1 := b_eq hO h1
  conv => cbv
  rintro (_ | _) h2
  · replace h2 := b_eq hO h2
    conv => cbv
    rw [hrf (fun h => by rw [h.2.1] at h2; simp at h2)]
  replace h2 := b_eq hO h2
  conv => cbv
  rintro (_ | _) h3
  · replace h3 := b_eq hO h3
    conv => cbv
    rw [hrf (fun h => by rw [h.2.2.1] at h3; simp at h3)]
  replace h3 := b_eq hO h3
  conv => cbv
  rintro (_ | _) h4
  · replace h4 := f_eql hO h4
    conv => cbv
    rw [hrf (fun h => h4 h.2.2.2.1)]
  replace h4 := t_eql hO h4
  conv => cbv
  rintro (_ | _) h5
  · replace h5 := f_eql hO h5
    conv => cbv
    rw [hrf (fun h => h5 h.2.2.2.2.1)]
  replace h5 := t_eql hO h5
  conv => cbv
  refine ⟨hcx, hcy, _, h46, ?_⟩
  conv => cbv
  by_cases e : l = l'
  · rw [hrt ⟨by simpa using h1, by simpa using h2, by simpa using h3, h4, h5, e⟩, hq]
    simp [e]
  · rw [hrf (fun h => e h.2.2.2.2.2), hq]
    simp [e]
end Go.Proofs.AM
namespace Go.Proofs.AM
open Go Go.Lib Cd
theorem n7 (l : List ReqV) (hl : l.length ≤ 1000) : PR3.v 7 [.sl 4 false (l.map reqD)] (.sl 4 false ((backL l).map reqD)) := pr3 E7 Tryz.func7 T7 (back7_ok _ l hl)
theorem n9 (x y : SetV) (hx : FS x) (hy : FS y) : PR3.v 9 [setD x, setD y] (.bool (decide (x = y))) := pr3 E9 Tryz.func9 T9 (same9_ok _ x y (pr3 E21 Tryz.func21 T21 (equal21_ok _ _ _ hx.l hy.l)))
theorem n3 (a b : List ReqV) (L : List LabV) (ha : FLs FR a) (hb : FLs FR b) (hL : FLs FLab L) : PR3.v 3 [.sl 4 false (a.map reqD), .sl 4 false (b.map reqD), .sl 2 false (L.map labD)] (.bool true) :=
  pr3 E3 Tryz.func3 T3 (order3_ok _ a b L ha hb hL n36 n35 n34 n7 n33 n9)
end Go.Proofs.AM
