/- Part 16 of the lemmas: ZOk, ZOl, ZOm, ZOn, ZOo, ZOp, ZOq, ZOr, ZOs, ZQcool47, ZQcool52, ZQoffs118, ZQoffs63, ZQterms113, ZQtnts115. -/
import Derived.Test.YtococcgeoknmjaaGreatDoorM12
import Derived.Test.YtococcgeoknmjaaGreatDoorM13
import Derived.Test.YtococcgeoknmjaaGreatDoorM11
import Derived.Test.YtococcgeoknmjaaGreatDoorM15
namespace Go.Proofs.AM
open Go Go.Lib Cd
set_option maxRecDepth 100000 in
set_option maxHeartbeats 2000000 in
theorem rpod48_ok (R : Ans) (p : PodV) (hF : FPod p) (h110 : ∀ s, SL s → R.v 110 [mkS s] (.bool (nameB s))) (h111 : ∀ a b, R.v 111 [.agg [.int .i64 a, .int .i64 b]] (.int .i64 (amtsE a b)))
    (h37 : R.v 37 [.sl 4 false (p.reqs.map reqD)] (.int .i64 (reqsE 8 p.reqs))) (h112 : R.v 112 [.sl 3 false (p.tols.map tolD)] (.int .i64 (tolsE p.tols))) (h113 : ∀ l : List LabV, FLs FLab l → R.v 113 [.sl 2 false (l.map labD)] (.int .i64 (termsE l)))
    (h114 : ∀ n lo hi, R.v 114 [.int .i64 n, .int .i64 lo, .int .i64 hi] (.bool (btw n lo hi))) :
    AnsF R c48 [podD p] (.int .i64 (podE p)) := by
  obtain ⟨name, app, n0, n1, prio, reqs, tols, spr, near, apart, since, on⟩ := p
  have k1 := h110 name hF.name
  have k2 := h110 app hF.app
  have k3 := h111 n0 n1
  have k8 := h113 near hF.near
  have k9 := h113 apart hF.apart
  have k10 := h114 since 0 1099511627776
  have k11 := h110 on hF.on
  have hfs : FLs FSpr spr := hF.spr
  have ksp : ∀ y ∈ spr, R.v 113 [.sl 2 false [.agg [mkS y.k, mkS y.a]]] (.int .i64 (termE y.k y.a)) := fun y hy => by
    have := h113 [⟨y.k, y.a⟩] ⟨by simp, by simpa using ⟨(hfs.all y hy).k, (hfs.all y hy).a⟩⟩
    rw [termsE_one] at this
    exact this
  have hlt := hfs.lt
  obtain ⟨r, hr⟩ : ∃ r, r = podE ⟨name, app, n0, n1, prio, reqs, tols, spr, near, apart, since, on⟩ := ⟨_, rfl⟩
  rw [← hr]
  unfold podE allTE noneB at hr
  simp only at hr h37 h112
  obtain ⟨q1, hq1⟩ : ∃ q, q = nameB name := ⟨_, rfl⟩
  obtain ⟨q2, hq2⟩ : ∃ q, q = nameB app := ⟨_, rfl⟩
  obtain ⟨q3, hq3⟩ : ∃ q, q = btw since 0 1099511627776 := ⟨_, rfl⟩
  obtain ⟨q4, hq4⟩ : ∃ q, q = nameB on := ⟨_, rfl⟩
  obtain ⟨e1, he1⟩ : ∃ e, e = amtsE n0 n1 := ⟨_, rfl⟩
  obtain ⟨e2, he2⟩ : ∃ e, e = reqsE 8 reqs := ⟨_, rfl⟩
  obtain ⟨e3, he3⟩ : ∃ e, e = tolsE tols := ⟨_, rfl⟩
  obtain ⟨e5, he5⟩ : ∃ e, e = termsE near := ⟨_, rfl⟩
  obtain ⟨e6, he6⟩ : ∃ e, e = termsE apart := ⟨_, rfl⟩
  rw [← hq1, ← hq2, ← hq3, ← hq4, ← he1, ← he2, ← he3, ← he5, ← he6] at hr
  rw [← hq1] at k1
  rw [← hq2] at k2
  rw [← hq3] at k10
  rw [← hq4] at k11
  rw [← he1] at k3
  rw [← he2] at h37
  rw [← he3] at h112
  rw [← he5] at k8
  rw [← he6] at k9
  clear hq1 hq2 hq3 hq4 he1 he2 he3 he5 he6 hF h110 h111 h113 h114 hfs
  unfold podD podC
  simp only
  obtain ⟨rs, hrs⟩ : ∃ xs, xs = reqs.map reqD := ⟨_, rfl⟩
  obtain ⟨ts, hts⟩ : ∃ xs, xs = tols.map tolD := ⟨_, rfl⟩
  obtain ⟨ss, hss⟩ : ∃ xs, xs = spr.map sprD := ⟨_, rfl⟩
  obtain ⟨ns, hns⟩ : ∃ xs, xs = near.map labD := ⟨_, rfl⟩
  obtain ⟨aps, has⟩ : ∃ xs, xs = apart.map labD := ⟨_, rfl⟩
  have c1 : CleanL rs := cleanL_map clean_req hrs
  have c2 : CleanL ts := cleanL_map (fun _ => ⟨rfl, rfl⟩) hts
  have c3 : CleanL ss := cleanL_map (fun _ => ⟨rfl, rfl⟩) hss
  have c4 : CleanL ns := cleanL_map (fun _ => ⟨rfl, rfl⟩) hns
  have c5 : CleanL aps := cleanL_map (fun _ => ⟨rfl, rfl⟩) has
  rw [← hrs] at h37
  rw [← hts] at h112
  rw [← hns] at k8
  rw [← has] at k9
  rw [← hrs, ← hts, ← hss, ← hns, ← has]
  clear hrs hts
  refine wpF_sound ⟨rfl, by decide⟩ fun O hO V hV => ?_
  subst hV
  have hlen : O .len ss = spr.length := by rw [o_len hO, hss]; simp
  have hln : O .len ns = near.length := by rw [o_len hO, hns]; simp
  have hla : O .len aps = apart.length := by rw [o_len hO, has]; simp
  clear hns has
  conv => cbv
  cases q1
  · refine ⟨_, k1, ?_⟩
    conv => cbv
    rw [hr]; rfl
  refine ⟨_, k1, ?_⟩
  conv => cbv
  cases q2
  · refine ⟨_, k2, ?_⟩
    conv => cbv
    rw [hr]; rfl
  refine ⟨_, k2, ?_⟩
  conv => cbv
  rw [Bool.and_self, wantI_true, firstI_cons, if_pos rfl] at hr
  refine ⟨_, k3, ?_⟩
  conv => cbv
  rintro (_ | _) h1 <;> replace h1 := ci hO h1 <;> dsimp only [CmpI] at h1
  case true =>
    conv => cbv
    rw [hr, firstI_cons, if_neg h1]
  conv => cbv
  rw [firstI_cons, if_pos h1] at hr
  have hp1 : ∀ x y, (prio < -1000 ∨ 1000 < prio) → firstI (wantI (btw prio (-1000) 1000) 1 :: x) = y → y = 1 := fun x y h h' => by
    rw [← h', show btw prio (-1000) 1000 = false by simp [btw]; omega]; rfl
  rintro (_ | _) h2 <;> replace h2 := ci hO h2 <;> dsimp only [CmpI] at h2
  case true =>
    conv => cbv
    rw [hp1 _ _ (.inl h2) hr.symm]
  conv => cbv
  rintro (_ | _) h3 <;> replace h3 := ci hO h3 <;> dsimp only [CmpI] at h3
  case true =>
    conv => cbv
    rw [hp1 _ _ (.inr h3) hr.symm]
  conv => cbv
  rw [show btw prio (-1000) 1000 = true by simp [btw]; omega, wantI_true, firstI_cons, if_pos rfl] at hr
  clear hp1
  refine ⟨c1, _, h37, ?_⟩
  conv => cbv
  rintro (_ | _) h4 <;> replace h4 := ci hO h4 <;> dsimp only [CmpI] at h4
  case true =>
    conv => cbv
    rw [hr, firstI_cons, if_neg h4]
  conv => cbv
  rw [firstI_cons, if_pos h4] at hr
  refine ⟨c2, _, h112, ?_⟩
  conv => cbv
  rintro (_ | _) h5 <;> replace h5 := ci hO h5 <;> dsimp only [CmpI] at h5
  case true =>
    conv => cbv
    rw [hr, firstI_cons, if_neg h5]
  conv => cbv
  rw [firstI_cons, if_pos h5] at hr
  have hp2 : ∀ x, (3 < spr.length ∨ 3 < near.length ∨ 3 < apart.length) → r = firstI ((if 3 < spr.length ∨ 3 < near.length ∨ 3 < apart.length then 3 else firstI [sprsE spr, e5, e6]) :: x) → r = 3 := fun x h h' => by
    rw [if_pos h] at h'; rw [h']; rfl
  rintro (_ | _) h6 <;> replace h6 := ci hO h6 <;> dsimp only [CmpI] at h6 <;> rw [hlen] at h6
  case true =>
    conv => cbv
    rw [hp2 _ (.inl (by omega)) hr]
  conv => cbv
  rintro (_ | _) h7 <;> replace h7 := ci hO h7 <;> dsimp only [CmpI] at h7 <;> rw [hln] at h7
  case true =>
    conv => cbv
    rw [hp2 _ (.inr (.inl (by omega))) hr]
  conv => cbv
  rintro (_ | _) h8 <;> replace h8 := ci hO h8 <;> dsimp only [CmpI] at h8 <;> rw [hla] at h8
  case true =>
    conv => cbv
    rw [hp2 _ (.inr (.inr (by omega))) hr]
  conv => cbv
  rw [if_neg (by omega)] at hr
  clear hp2
  refine loop_of (fun n d => ∃ (i : Int) (k : Nat), d = ⟨[(1, .ptr 1 1 0), (64, .sl 3 false ss), (65, .int .i64 (O .len ss)), (66, .int .i64 i)], [(1, ⟨1, .rw, .var, [mkS name, mkS app, .int .i64 n0, .int .i64 n1, .int .i64 prio, .sl 4 false rs, .sl 3 false ts, .sl 3 false ss, .sl 2 false ns, .sl 2 false aps, .int .i64 since, mkS on]⟩)], false⟩ ∧ i = k ∧ k ≤ spr.length ∧ n = spr.length - k ∧ ∀ j, j < k → atE sprE spr j = 0) ⟨_, _, ⟨_, 0, rfl, rfl, by omega, rfl, by simp⟩, ⟨⟨rfl, rfl, rfl, rfl, trivial⟩, ⟨rfl, trivial⟩, rfl⟩⟩ ?_
  rintro J up n d ⟨i, k, rfl, hi, hk, rfl, hno⟩
  conv => cbv
  rintro (_ | _) h9
  · replace h9 := f_lss hO h9
    rw [hlen] at h9
    have es : sprsE spr = 0 := by unfold sprsE; exact scanE_end (fun j hj => hno j (by omega))
    rw [es] at hr
    have hr2 : r = firstI [e5, e6, wantI q3 1, wantI (decide (on = []) || q4) 7] := by
      rw [hr]; simp only [firstI_cons, firstI_nil, if_pos]; by_cases h5 : e5 = 0 <;> by_cases h6 : e6 = 0 <;> simp [h5, h6]
    clear hr hno up
    conv => cbv
    refine ⟨c4, _, k8, ?_⟩
    conv => cbv
    rintro (_ | _) h10 <;> replace h10 := ci hO h10 <;> dsimp only [CmpI] at h10
    case true =>
      conv => cbv
      rw [hr2, firstI_cons, if_neg h10]
    conv => cbv
    rw [firstI_cons, if_pos h10] at hr2
    refine ⟨c5, _, k9, ?_⟩
    conv => cbv
    rintro (_ | _) h11 <;> replace h11 := ci hO h11 <;> dsimp only [CmpI] at h11
    case true =>
      conv => cbv
      rw [hr2, firstI_cons, if_neg h11]
    conv => cbv
    rw [firstI_cons, if_pos h11] at hr2
    cases q3
    · refine ⟨_, k10, ?_⟩
      conv => cbv
      rw [hr2]; rfl
    refine ⟨_, k10, ?_⟩
    conv => cbv
    rw [wantI_true, firstI_cons, if_pos rfl] at hr2
    rintro (_ | _) h12 <;> replace h12 := cs hO h12 <;> dsimp only [CmpS] at h12
    · replace h12 : on = [] := h12
      conv => cbv
      rw [hr2, decide_eq_true h12]; rfl
    replace h12 : on ≠ [] := h12
    conv => cbv
    rw [decide_eq_false h12, Bool.false_or] at hr2
    cases q4
    · refine ⟨_, k11, ?_⟩
      conv => cbv
      rw [hr2]; rfl
    refine ⟨_, k11, ?_⟩
    conv => cbv
    rw [hr2]; rfl
  · replace h9 := t_lss hO h9
    rw [hlen] at h9
    obtain ⟨y, hy⟩ : ∃ y, spr[k]? = some y := ⟨_, List.getElem?_eq_getElem (by omega)⟩
    have hat : atX ss i (sprD y) := atX_map hy hss hi
    have hg : atE sprE spr k = _ := atE_some hy
    obtain ⟨e, he⟩ : ∃ e, e = sprE y := ⟨_, rfl⟩
    rw [← he] at hg
    have hk1 := ksp y (List.mem_of_getElem? hy)
    obtain ⟨w, hw⟩ : ∃ w, w = termE y.k y.a := ⟨_, rfl⟩
    unfold sprE btw at he
    rw [← hw] at hk1 he
    clear hw
    obtain ⟨y1, y2, y3⟩ := y
    simp only at he hk1
    have hr1 : ∀ x : Int, x = e → x ≠ 0 → r = x := fun x h1 h2 => by
      rw [hr, firstI_cons, if_neg]
      · rw [firstI_cons, if_neg]
        · unfold sprsE; exact scanE_hit (by omega) hno (by rw [hg]; exact h1) h2
        · rw [show sprsE spr = x by unfold sprsE; exact scanE_hit (by omega) hno (by rw [hg]; exact h1) h2]; exact h2
      · rw [firstI_cons, if_neg]
        · rw [show sprsE spr = x by unfold sprsE; exact scanE_hit (by omega) hno (by rw [hg]; exact h1) h2]; exact h2
        · rw [show sprsE spr = x by unfold sprsE; exact scanE_hit (by omega) hno (by rw [hg]; exact h1) h2]; exact h2
    conv => cbv
    refine ⟨_, hat, ?_⟩
    conv => cbv
    intro g7
    conv => cbv
    intro g75
    conv => cbv
    repeat' (refine And.intro (by first | assumption | exact ⟨rfl⟩ | exact ⟨rfl, rfl⟩) ?_)
    refine ⟨_, hk1, ?_⟩
    conv => cbv
    rintro (_ | _) h10 <;> replace h10 := ci hO h10 <;> dsimp only [CmpI] at h10
    case true =>
      conv => cbv
      rw [hr1 w (by rw [he, if_neg h10]) h10]
    rw [if_pos h10] at he
    conv => cbv
    rintro (_ | _) h11 <;> replace h11 := ci hO h11 <;> dsimp only [CmpI] at h11
    case true =>
      conv => cbv
      rw [hr1 1 (by rw [he]; simp; omega) (by decide)]
    conv => cbv
    rintro (_ | _) h12 <;> replace h12 := ci hO h12 <;> dsimp only [CmpI] at h12
    case true =>
      conv => cbv
      rw [hr1 1 (by rw [he]; simp; omega) (by decide)]
    conv => cbv
    exact ⟨_, _, up _ _ ⟨_, k + 1, rfl, by rw [o_add64 hO (by omega) (by omega)]; omega, by omega, rfl, scan_step hno (by rw [hg, he]; simp; omega)⟩, ⟨⟨rfl, rfl, rfl, rfl, trivial⟩, ⟨rfl, trivial⟩, rfl⟩, by omega⟩
end Go.Proofs.AM
namespace Go.Proofs.AM
open Go Go.Lib Cd
set_option maxRecDepth 100000 in
set_option maxHeartbeats 2000000 in
theorem rpool49_ok (R : Ans) (p : PoolV) (hF : FPool p) (h110 : ∀ s, SL s → R.v 110 [mkS s] (.bool (nameB s))) (h111 : ∀ a b, R.v 111 [.agg [.int .i64 a, .int .i64 b]] (.int .i64 (amtsE a b)))
    (h37 : R.v 37 [.sl 4 false (p.reqs.map reqD)] (.int .i64 (reqsE 8 p.reqs))) (h115 : R.v 115 [.sl 2 false (p.taints.map labD)] (.int .i64 (tntsE p.taints)))
    (h114 : ∀ n lo hi, R.v 114 [.int .i64 n, .int .i64 lo, .int .i64 hi] (.bool (btw n lo hi))) :
    AnsF R c49 [poolD p] (.int .i64 (poolE p)) := by
  obtain ⟨name, weight, l0, l1, reqs, taints, gen, expire, budget, merge⟩ := p
  have k1 := h110 name hF.name
  have k3 := h111 l0 l1
  have k4 := h114 gen 0 1099511627776
  have k5 := h114 expire 0 1073741824
  obtain ⟨r, hr⟩ : ∃ r, r = poolE ⟨name, weight, l0, l1, reqs, taints, gen, expire, budget, merge⟩ := ⟨_, rfl⟩
  rw [← hr]
  unfold poolE at hr
  simp only at hr h37 h115
  obtain ⟨q1, hq1⟩ : ∃ q, q = nameB name := ⟨_, rfl⟩
  obtain ⟨q3, hq3⟩ : ∃ q, q = btw gen 0 1099511627776 := ⟨_, rfl⟩
  obtain ⟨q4, hq4⟩ : ∃ q, q = btw expire 0 1073741824 := ⟨_, rfl⟩
  obtain ⟨e1, he1⟩ : ∃ e, e = amtsE l0 l1 := ⟨_, rfl⟩
  obtain ⟨e2, he2⟩ : ∃ e, e = reqsE 8 reqs := ⟨_, rfl⟩
  obtain ⟨e3, he3⟩ : ∃ e, e = tntsE taints := ⟨_, rfl⟩
  rw [← hq1, ← hq3, ← hq4, ← he1, ← he2, ← he3] at hr
  rw [← hq1] at k1
  rw [← hq3] at k4
  rw [← hq4] at k5
  rw [← he1] at k3
  rw [← he2] at h37
  rw [← he3] at h115
  clear hq1 hq3 hq4 he1 he2 he3 hF h110 h111 h114
  unfold poolD poolC
  simp only
  obtain ⟨rs, hrs⟩ : ∃ xs, xs = reqs.map reqD := ⟨_, rfl⟩
  obtain ⟨ts, hts⟩ : ∃ xs, xs = taints.map labD := ⟨_, rfl⟩
  have c1 : CleanL rs := cleanL_map clean_req hrs
  have c2 : CleanL ts := cleanL_map (fun _ => ⟨rfl, rfl⟩) hts
  rw [← hrs] at h37
  rw [← hts] at h115
  rw [← hrs, ← hts]
  clear hrs hts
  refine wpF_sound ⟨rfl, by decide⟩ fun O hO V hV => ?_
  subst hV
  conv => cbv
  cases q1
  · refine ⟨_, k1, ?_⟩
    conv => cbv
    rw [hr]; rfl
  refine ⟨_, k1, ?_⟩
  conv => cbv
  rw [wantI_true, firstI_cons, if_pos rfl] at hr
  have hp1 : ∀ x y, (weight < 0 ∨ 100 < weight) → firstI (wantI (btw weight 0 100) 1 :: x) = y → y = 1 := fun x y h h' => by
    rw [← h', show btw weight 0 100 = false by simp [btw]; omega]; rfl
  rintro (_ | _) h2 <;> replace h2 := ci hO h2 <;> dsimp only [CmpI] at h2
  case true =>
    conv => cbv
    rw [hp1 _ _ (.inl h2) hr.symm]
  conv => cbv
  rintro (_ | _) h3 <;> replace h3 := ci hO h3 <;> dsimp only [CmpI] at h3
  case true =>
    conv => cbv
    rw [hp1 _ _ (.inr h3) hr.symm]
  conv => cbv
  rw [show btw weight 0 100 = true by simp [btw]; omega, wantI_true, firstI_cons, if_pos rfl] at hr
  clear hp1
  refine ⟨_, k3, ?_⟩
  conv => cbv
  rintro (_ | _) h1 <;> replace h1 := ci hO h1 <;> dsimp only [CmpI] at h1
  case true =>
    conv => cbv
    rw [hr, firstI_cons, if_neg h1]
  conv => cbv
  rw [firstI_cons, if_pos h1] at hr
  refine ⟨c1, _, h37, ?_⟩
  conv => cbv
  rintro (_ | _) h4 <;> replace h4 := ci hO h4 <;> dsimp only [CmpI] at h4
  case true =>
    conv => cbv
    rw [hr, firstI_cons, if_neg h4]
  conv => cbv
  rw [firstI_cons, if_pos h4] at hr
  refine ⟨c2, _, h115, ?_⟩
  conv => cbv
  rintro (_ | _) h5 <;> replace h5 := ci hO h5 <;> dsimp only [CmpI] at h5
  case true =>
    conv => cbv
    rw [hr, firstI_cons, if_neg h5]
  conv => cbv
  rw [firstI_cons, if_pos h5] at hr
  cases q3
  · refine ⟨_, k4, ?_⟩
    conv => cbv
    rw [hr]; rfl
  refine ⟨_, k4, ?_⟩
  conv => cbv
  cases q4
  · refine ⟨_, k5, ?_⟩
    conv => cbv
    rw [hr]; rfl
  refine ⟨_, k5, ?_⟩
  conv => cbv
  have hp2 : ∀ b : Bool, (b = true → btw budget 0 16 = true ∧ btw merge 0 2 = true) → (b = false → btw budget 0 16 = false ∨ btw merge 0 2 = false) → r = wantI b 1 := fun b h1 h2 => by
    rw [hr]
    cases b
    · rcases h2 rfl with h | h <;> rw [h] <;> simp [firstI_cons]
    · rw [(h1 rfl).1, (h1 rfl).2]; rfl
  rintro (_ | _) h6 <;> replace h6 := ci hO h6 <;> dsimp only [CmpI] at h6
  case true =>
    conv => cbv
    rw [hp2 false (by simp) fun _ => .inl (by simp [btw]; omega)]; rfl
  conv => cbv
  rintro (_ | _) h7 <;> replace h7 := ci hO h7 <;> dsimp only [CmpI] at h7
  case true =>
    conv => cbv
    rw [hp2 false (by simp) fun _ => .inl (by simp [btw]; omega)]; rfl
  conv => cbv
  rintro (_ | _) h8 <;> replace h8 := ci hO h8 <;> dsimp only [CmpI] at h8
  case true =>
    conv => cbv
    rw [hp2 false (by simp) fun _ => .inr (by simp [btw]; omega)]; rfl
  conv => cbv
  rintro (_ | _) h9 <;> replace h9 := ci hO h9 <;> dsimp only [CmpI] at h9
  case true =>
    conv => cbv
    rw [hp2 false (by simp) fun _ => .inr (by simp [btw]; omega)]; rfl
  conv => cbv
  rw [hp2 true (fun _ => ⟨by simp [btw]; omega, by simp [btw]; omega⟩) (by simp)]; rfl
set_option maxRecDepth 100000 in
set_option maxHeartbeats 2000000 in
theorem rclaim50_ok (R : Ans) (c : ClaimV) (hF : FClaim c) (h110 : ∀ s, SL s → R.v 110 [mkS s] (.bool (nameB s))) (h111 : ∀ a b, R.v 111 [.agg [.int .i64 a, .int .i64 b]] (.int .i64 (amtsE a b)))
    (h116 : ∀ o, FO o → R.v 116 [offD o] (.bool (nmB o))) (h117 : ∀ n, R.v 117 [.int .i64 n] (.int .i64 (amtE n))) (h118 : ∀ l : List OffV, FLs FO l → R.v 118 [.sl 3 false (l.map offD)] (.int .i64 (offsE l)))
    (h114 : ∀ n lo hi, R.v 114 [.int .i64 n, .int .i64 lo, .int .i64 hi] (.bool (btw n lo hi))) :
    AnsF R c50 [claimD c] (.int .i64 (claimE c)) := by
  obtain ⟨name, pool, gen, ⟨ot, oz, ok⟩, price, c0, c1, opts, tries, id, phase, born, marked⟩ := c
  have k1 := h110 name hF.name
  have k2 := h110 pool hF.pool
  have k3 := h116 ⟨ot, oz, ok⟩ hF.off
  have k4 := h117 price
  have k5 := h111 c0 c1
  have k6 := h118 opts hF.opts
  have k7 := h114 gen 0 1099511627776
  have k8 := h114 born 0 1099511627776
  obtain ⟨r, hr⟩ : ∃ r, r = claimE ⟨name, pool, gen, ⟨ot, oz, ok⟩, price, c0, c1, opts, tries, id, phase, born, marked⟩ := ⟨_, rfl⟩
  rw [← hr]
  unfold claimE at hr
  simp only at hr
  obtain ⟨q1, hq1⟩ : ∃ q, q = nameB name := ⟨_, rfl⟩
  obtain ⟨q2, hq2⟩ : ∃ q, q = nameB pool := ⟨_, rfl⟩
  obtain ⟨q3, hq3⟩ : ∃ q, q = nmB ⟨ot, oz, ok⟩ := ⟨_, rfl⟩
  obtain ⟨q4, hq4⟩ : ∃ q, q = btw gen 0 1099511627776 := ⟨_, rfl⟩
  obtain ⟨q5, hq5⟩ : ∃ q, q = btw born 0 1099511627776 := ⟨_, rfl⟩
  obtain ⟨e1, he1⟩ : ∃ e, e = amtE price := ⟨_, rfl⟩
  obtain ⟨e2, he2⟩ : ∃ e, e = amtsE c0 c1 := ⟨_, rfl⟩
  obtain ⟨e3, he3⟩ : ∃ e, e = offsE opts := ⟨_, rfl⟩
  rw [← hq1, ← hq2, ← hq3, ← hq4, ← hq5, ← he1, ← he2, ← he3] at hr
  rw [← hq1] at k1
  rw [← hq2] at k2
  rw [← hq3] at k3
  rw [← he1] at k4
  rw [← he2] at k5
  rw [← he3] at k6
  rw [← hq4] at k7
  rw [← hq5] at k8
  clear hq1 hq2 hq3 hq4 hq5 he1 he2 he3 hF h110 h111 h114 h116 h117 h118
  unfold claimD claimC
  unfold offD at k3
  simp only at k3 ⊢
  obtain ⟨os, hos⟩ : ∃ xs, xs = opts.map offD := ⟨_, rfl⟩
  have cc : CleanL os := cleanL_map (fun _ => ⟨rfl, rfl⟩) hos
  rw [← hos] at k6 ⊢
  clear hos
  refine wpF_sound ⟨rfl, by decide⟩ fun O hO V hV => ?_
  subst hV
  have hsl : O .slen ⟨⟨id⟩⟩ = id.length := o_slen hO id
  conv => cbv
  cases q1
  · refine ⟨_, k1, ?_⟩
    conv => cbv
    rw [hr]; rfl
  refine ⟨_, k1, ?_⟩
  conv => cbv
  cases q2
  · refine ⟨_, k2, ?_⟩
    conv => cbv
    rw [hr]; rfl
  refine ⟨_, k2, ?_⟩
  conv => cbv
  cases q3
  · refine ⟨_, k3, ?_⟩
    conv => cbv
    rw [hr]; rfl
  refine ⟨_, k3, ?_⟩
  conv => cbv
  rw [Bool.and_self, Bool.and_self, wantI_true, firstI_cons, if_pos rfl] at hr
  refine ⟨_, k4, ?_⟩
  conv => cbv
  rintro (_ | _) h1 <;> replace h1 := ci hO h1 <;> dsimp only [CmpI] at h1
  case true =>
    conv => cbv
    rw [hr, firstI_cons, if_neg h1]
  conv => cbv
  rw [firstI_cons, if_pos h1] at hr
  refine ⟨_, k5, ?_⟩
  conv => cbv
  rintro (_ | _) h2 <;> replace h2 := ci hO h2 <;> dsimp only [CmpI] at h2
  case true =>
    conv => cbv
    rw [hr, firstI_cons, if_neg h2]
  conv => cbv
  rw [firstI_cons, if_pos h2] at hr
  refine ⟨cc, _, k6, ?_⟩
  conv => cbv
  rintro (_ | _) h3 <;> replace h3 := ci hO h3 <;> dsimp only [CmpI] at h3
  case true =>
    conv => cbv
    rw [hr, firstI_cons, if_neg h3]
  conv => cbv
  rw [firstI_cons, if_pos h3] at hr
  have hp1 : ∀ x y, (tries < 1 ∨ 32 < tries) → firstI (wantI (btw tries 1 32) 1 :: x) = y → y = 1 := fun x y h h' => by
    rw [← h', show btw tries 1 32 = false by simp [btw]; omega]; rfl
  rintro (_ | _) h4 <;> replace h4 := ci hO h4 <;> dsimp only [CmpI] at h4
  case true =>
    conv => cbv
    rw [hp1 _ _ (.inl h4) hr.symm]
  conv => cbv
  rintro (_ | _) h5 <;> replace h5 := ci hO h5 <;> dsimp only [CmpI] at h5
  case true =>
    conv => cbv
    rw [hp1 _ _ (.inr h5) hr.symm]
  conv => cbv
  rw [show btw tries 1 32 = true by simp [btw]; omega, wantI_true, firstI_cons, if_pos rfl] at hr
  clear hp1
  rintro (_ | _) h6 <;> replace h6 := ci hO h6 <;> dsimp only [CmpI] at h6 <;> rw [hsl] at h6
  case true =>
    conv => cbv
    rw [hr, decide_eq_false (by omega)]; rfl
  conv => cbv
  rw [decide_eq_true (by omega), wantI_true, firstI_cons, if_pos rfl] at hr
  have hp2 : ∀ b : Bool, (b = true → btw phase 1 4 = true ∧ (q4 && q5) = true) → (b = false → btw phase 1 4 = false ∨ (q4 && q5) = false) → r = wantI b 1 := fun b h1 h2 => by
    rw [hr]
    cases b
    · rcases h2 rfl with h | h <;> rw [h] <;> simp [firstI_cons]
    · rw [(h1 rfl).1, (h1 rfl).2]; rfl
  rintro (_ | _) h7 <;> replace h7 := ci hO h7 <;> dsimp only [CmpI] at h7
  case true =>
    conv => cbv
    rw [hp2 false (by simp) fun _ => .inl (by simp [btw]; omega)]; rfl
  conv => cbv
  rintro (_ | _) h8 <;> replace h8 := ci hO h8 <;> dsimp only [CmpI] at h8
  case true =>
    conv => cbv
    rw [hp2 false (by simp) fun _ => .inl (by simp [btw]; omega)]; rfl
  conv => cbv
  cases q4
  · refine ⟨_, k7, ?_⟩
    conv => cbv
    rw [hp2 false (by simp) fun _ => .inr rfl]; rfl
  refine ⟨_, k7, ?_⟩
  conv => cbv
  cases q5
  · refine ⟨_, k8, ?_⟩
    conv => cbv
    rw [hp2 false (by simp) fun _ => .inr rfl]; rfl
  refine ⟨_, k8, ?_⟩
  conv => cbv
  rw [hp2 true (fun _ => ⟨by simp [btw]; omega, rfl⟩) (by simp)]; rfl
end Go.Proofs.AM
namespace Go.Proofs.AM
open Go Go.Lib Cd
set_option maxRecDepth 100000 in
set_option maxHeartbeats 2000000 in
theorem rcmd51_ok (R : Ans) (c : CmdV) (hF : FCmd c) (h110 : ∀ s, SL s → R.v 110 [mkS s] (.bool (nameB s))) (h118 : ∀ l : List OffV, FLs FO l → R.v 118 [.sl 3 false (l.map offD)] (.int .i64 (offsE l)))
    (h114 : ∀ n lo hi, R.v 114 [.int .i64 n, .int .i64 lo, .int .i64 hi] (.bool (btw n lo hi))) :
    AnsF R c51 [cmdD c] (.int .i64 (cmdE c)) := by
  obtain ⟨cause, nodes, stp, til, fresh, pool, opts, made⟩ := c
  have hfn : FL nodes := hF.nodes
  have k3 := h114 til 0 1099511627776
  have k4 := h110 fresh hF.fresh
  have k5 := h110 pool hF.pool
  have k6 := h118 opts hF.opts
  have kn : ∀ y ∈ nodes, R.v 110 [mkS y] (.bool (nameB y)) := fun y hy => h110 y (hfn.all y hy)
  have hlt : nodes.length < 4611686018427387904 := by have := hfn.len; omega
  obtain ⟨r, hr⟩ : ∃ r, r = cmdE ⟨cause, nodes, stp, til, fresh, pool, opts, made⟩ := ⟨_, rfl⟩
  rw [← hr]
  unfold cmdE noneB at hr
  simp only at hr
  obtain ⟨q4, hq4⟩ : ∃ q, q = btw til 0 1099511627776 := ⟨_, rfl⟩
  obtain ⟨q5, hq5⟩ : ∃ q, q = nameB fresh := ⟨_, rfl⟩
  obtain ⟨q6, hq6⟩ : ∃ q, q = nameB pool := ⟨_, rfl⟩
  obtain ⟨e6, he6⟩ : ∃ e, e = offsE opts := ⟨_, rfl⟩
  rw [← hq4, ← hq5, ← hq6, ← he6] at hr
  rw [← hq4] at k3
  rw [← hq5] at k4
  rw [← hq6] at k5
  rw [← he6] at k6
  clear h110 h118 h114 hF he6 hq4 hq5 hq6
  unfold cmdD cmdC
  obtain ⟨ns, hns⟩ : ∃ xs, xs = nodes.map mkS := ⟨_, rfl⟩
  obtain ⟨os, hos⟩ : ∃ xs, xs = opts.map offD := ⟨_, rfl⟩
  have c2 : CleanL os := cleanL_map (fun _ => ⟨rfl, rfl⟩) hos
  rw [← hos] at k6
  simp only [← hns, ← hos]
  clear hos
  refine wpF_sound ⟨rfl, by decide⟩ fun O hO V hV => ?_
  subst hV
  have hlen : O .len ns = nodes.length := by rw [o_len hO, hns]; simp
  have hp1 : (cause < 1 ∨ 4 < cause ∨ stp < 1 ∨ 3 < stp) → r = 1 := fun h => by
    rw [hr, show (btw cause 1 4 && btw stp 1 3) = false by simp [btw]; omega]; rfl
  conv => cbv
  rintro (_ | _) h1 <;> replace h1 := ci hO h1 <;> dsimp only [CmpI] at h1
  case true =>
    conv => cbv
    rw [hp1 (by omega)]
  conv => cbv
  rintro (_ | _) h2 <;> replace h2 := ci hO h2 <;> dsimp only [CmpI] at h2
  case true =>
    conv => cbv
    rw [hp1 (by omega)]
  conv => cbv
  rintro (_ | _) h3 <;> replace h3 := ci hO h3 <;> dsimp only [CmpI] at h3
  case true =>
    conv => cbv
    rw [hp1 (by omega)]
  conv => cbv
  rintro (_ | _) h4 <;> replace h4 := ci hO h4 <;> dsimp only [CmpI] at h4
  case true =>
    conv => cbv
    rw [hp1 (by omega)]
  conv => cbv
  clear hp1
  rw [show (btw cause 1 4 && btw stp 1 3) = true by simp [btw]; omega, wantI_true, firstI_cons, if_pos rfl] at hr
  rintro (_ | _) h5 <;> replace h5 := ci hO h5 <;> dsimp only [CmpI] at h5 <;> rw [hlen] at h5
  case true =>
    conv => cbv
    rw [hr, decide_eq_false (by omega)]; rfl
  conv => cbv
  rw [decide_eq_true (show nodes.length ≤ 4 by omega), wantI_true, firstI_cons, if_pos rfl] at hr
  rintro (_ | _) h6 <;> replace h6 := ci hO h6 <;> dsimp only [CmpI] at h6 <;> rw [hlen] at h6
  case true =>
    conv => cbv
    rw [hr, decide_eq_false (by omega)]; rfl
  conv => cbv
  rw [decide_eq_true (show 0 < nodes.length by omega), wantI_true, firstI_cons, if_pos rfl] at hr
  refine loop_of (fun n d => ∃ (i : Int) (k : Nat), d = ⟨[(1, .ptr 1 1 0), (32, .sl 1 false ns), (33, .int .i64 (O .len ns)), (34, .int .i64 i)], [(1, ⟨1, .rw, .var, [.int .i64 cause, .sl 1 false ns, .int .i64 stp, .int .i64 til, mkS fresh, mkS pool, .sl 3 false os, .bool made]⟩)], false⟩ ∧ i = k ∧ k ≤ nodes.length ∧ n = nodes.length - k ∧ ∀ j, j < k → upE nodeE nodes j = 0) ⟨_, _, ⟨_, 0, rfl, rfl, by omega, rfl, by simp⟩, ⟨⟨rfl, rfl, rfl, rfl, trivial⟩, ⟨rfl, trivial⟩, rfl⟩⟩ ?_
  rintro J up n d ⟨i, k, rfl, hi, hk, rfl, hno⟩
  conv => cbv
  rintro (_ | _) h7
  · replace h7 := f_lss hO h7
    rw [hlen] at h7
    rw [scanE_end (fun j hj => hno j (by omega)), firstI_cons, if_pos rfl] at hr
    clear hno up
    conv => cbv
    cases q4
    · refine ⟨_, k3, ?_⟩
      conv => cbv
      rw [hr]; rfl
    refine ⟨_, k3, ?_⟩
    conv => cbv
    rw [wantI_true, firstI_cons, if_pos rfl] at hr
    have hp2 : ∀ b : Bool, ((decide (fresh = []) || q5) && (decide (pool = []) || q6)) = b → r = if b then e6 else 7 := fun b h => by
      rw [hr, h]; cases b <;> simp [firstI_cons]
      intro h; exact h.symm
    rintro (_ | _) h8 <;> replace h8 := cs hO h8 <;> dsimp only [CmpS] at h8
    case true =>
      replace h8 : fresh ≠ [] := h8
      conv => cbv
      cases q5
      · refine ⟨_, k4, ?_⟩
        conv => cbv
        rw [hp2 false (by simp [h8])]; rfl
      refine ⟨_, k4, ?_⟩
      conv => cbv
      rintro (_ | _) h9 <;> replace h9 := cs hO h9 <;> dsimp only [CmpS] at h9
      · replace h9 : pool = [] := h9
        conv => cbv
        refine ⟨c2, _, k6, ?_⟩
        conv => cbv
        rw [hp2 true (by simp [h9])]; rfl
      replace h9 : pool ≠ [] := h9
      conv => cbv
      cases q6
      · refine ⟨_, k5, ?_⟩
        conv => cbv
        rw [hp2 false (by simp [h9])]; rfl
      refine ⟨_, k5, ?_⟩
      conv => cbv
      refine ⟨c2, _, k6, ?_⟩
      conv => cbv
      rw [hp2 true (by simp)]; rfl
    replace h8 : fresh = [] := h8
    conv => cbv
    rintro (_ | _) h9 <;> replace h9 := cs hO h9 <;> dsimp only [CmpS] at h9
    · replace h9 : pool = [] := h9
      conv => cbv
      refine ⟨c2, _, k6, ?_⟩
      conv => cbv
      rw [hp2 true (by simp [h8, h9])]; rfl
    replace h9 : pool ≠ [] := h9
    conv => cbv
    cases q6
    · refine ⟨_, k5, ?_⟩
      conv => cbv
      rw [hp2 false (by simp [h9])]; rfl
    refine ⟨_, k5, ?_⟩
    conv => cbv
    refine ⟨c2, _, k6, ?_⟩
    conv => cbv
    rw [hp2 true (by simp [h8])]; rfl
  · replace h7 := t_lss hO h7
    rw [hlen] at h7
    obtain ⟨y, hy⟩ : ∃ y, nodes[k]? = some y := ⟨_, List.getElem?_eq_getElem (by omega)⟩
    have hat : atX ns i (mkS y) := atX_map hy hns hi
    obtain ⟨gg, hgg⟩ : ∃ g, g = upE nodeE nodes k := ⟨_, rfl⟩
    have hg : gg = nodeE y (nodes.take k) := hgg.trans (upE_some hy)
    have hk1 := kn y (List.mem_of_getElem? hy)
    obtain ⟨q, hq⟩ : ∃ q, q = nameB y := ⟨_, rfl⟩
    unfold nodeE at hg
    rw [← hq] at hk1 hg
    clear hq
    have hr1 : ∀ x : Int, x = upE nodeE nodes k → x ≠ 0 → r = x := fun x h1 h2 => by
      rw [hr, show scanE (upE nodeE nodes) nodes.length = x from scanE_hit (by omega) hno h1 h2, firstI_cons, if_neg h2]
    conv => cbv
    refine ⟨_, hat, ?_⟩
    conv => cbv
    cases q
    · refine ⟨_, hk1, ?_⟩
      conv => cbv
      rw [hr1 7 (by rw [← hgg, hg]; rfl) (by decide)]
    refine ⟨_, hk1, ?_⟩
    conv => cbv
    rintro (_ | _) h8 <;> replace h8 := ci hO h8 <;> dsimp only [CmpI] at h8
    · conv => cbv
      refine ⟨_, _, up _ _ ⟨_, k + 1, rfl, by rw [o_add64 hO (by omega) (by omega)]; omega, by omega, rfl, scan_step hno ?_⟩, ⟨⟨rfl, rfl, rfl, rfl, trivial⟩, ⟨rfl, trivial⟩, rfl⟩, by omega⟩
      obtain rfl : k = 0 := by omega
      rw [← hgg, hg]; rfl
    obtain ⟨p, hp⟩ : ∃ p, nodes[k - 1]? = some p := ⟨_, List.getElem?_eq_getElem (by omega)⟩
    have hsub : O .iop .sub .i64 i 1 = ((k - 1 : Nat) : Int) := by rw [o_sub64 hO (by omega) (by omega)]; omega
    have hat2 : atX ns (O .iop .sub .i64 i 1) (mkS p) := atX_map hp hns hsub
    rw [take_last (by omega) hp] at hg
    replace hg : gg = if p < y then 0 else 6 := by rw [hg]; simp
    conv => cbv
    refine ⟨_, hat2, ?_⟩
    conv => cbv
    rintro (_ | _) h9 <;> replace h9 := cs hO h9 <;> dsimp only [CmpS] at h9
    · conv => cbv
      refine ⟨_, _, up _ _ ⟨_, k + 1, rfl, by rw [o_add64 hO (by omega) (by omega)]; omega, by omega, rfl, scan_step hno (by rw [← hgg, hg, if_pos h9])⟩, ⟨⟨rfl, rfl, rfl, rfl, trivial⟩, ⟨rfl, trivial⟩, rfl⟩, by omega⟩
    · conv => cbv
      rw [hr1 6 (by rw [← hgg, hg, if_neg h9]) (by decide)]
end Go.Proofs.AM
namespace Go.Proofs.AM
open Go Go.Lib Cd
set_option maxRecDepth 100000 in
set_option maxHeartbeats 2000000 in
theorem chk19_pod (R : Ans) (x : PodV) (h : R.v 21 [podD x] (.int .i64 (podE x))) : AnsF R c19 [.iface 29 (podD x)] (.int .i64 (podE x)) := by
  obtain ⟨r, hr⟩ : ∃ r, r = podE x := ⟨_, rfl⟩
  rw [← hr] at h ⊢
  clear hr
  obtain ⟨pn, pa, p0, p1, pp, prs, pts, pss, pns, pas, psi, pon⟩ := x
  unfold podD podC at h ⊢
  simp only at h ⊢
  obtain ⟨xr, hxr⟩ : ∃ xs, xs = prs.map reqD := ⟨_, rfl⟩
  have cxr : CleanL xr := cleanL_map clean_req hxr
  simp only [← hxr] at h ⊢
  clear hxr
  obtain ⟨xt, hxt⟩ : ∃ xs, xs = pts.map tolD := ⟨_, rfl⟩
  have cxt : CleanL xt := cleanL_map (fun _ => ⟨rfl, rfl⟩) hxt
  simp only [← hxt] at h ⊢
  clear hxt
  obtain ⟨xs, hxs⟩ : ∃ xs, xs = pss.map sprD := ⟨_, rfl⟩
  have cxs : CleanL xs := cleanL_map (fun _ => ⟨rfl, rfl⟩) hxs
  simp only [← hxs] at h ⊢
  clear hxs
  obtain ⟨xn, hxn⟩ : ∃ xs, xs = pns.map labD := ⟨_, rfl⟩
  have cxn : CleanL xn := cleanL_map (fun _ => ⟨rfl, rfl⟩) hxn
  simp only [← hxn] at h ⊢
  clear hxn
  obtain ⟨xa, hxa⟩ : ∃ xs, xs = pas.map labD := ⟨_, rfl⟩
  have cxa : CleanL xa := cleanL_map (fun _ => ⟨rfl, rfl⟩) hxa
  simp only [← hxa] at h ⊢
  clear hxa
  refine wpF_sound ⟨rfl, by decide⟩ fun O hO V hV => ?_
  subst hV
  conv => cbv
  repeat' (refine And.intro (by first | assumption | exact ⟨rfl⟩ | exact ⟨rfl, rfl⟩) ?_)
  refine ⟨_, h, ?_⟩
  conv => cbv
  trivial
set_option maxRecDepth 100000 in
set_option maxHeartbeats 2000000 in
theorem chk19_pool (R : Ans) (x : PoolV) (h : R.v 22 [poolD x] (.int .i64 (poolE x))) : AnsF R c19 [.iface 32 (poolD x)] (.int .i64 (poolE x)) := by
  obtain ⟨r, hr⟩ : ∃ r, r = poolE x := ⟨_, rfl⟩
  rw [← hr] at h ⊢
  clear hr
  obtain ⟨wn, ww, w0, w1, wrs, wts, wg, we, wb, wm⟩ := x
  unfold poolD poolC at h ⊢
  simp only at h ⊢
  obtain ⟨yr, hyr⟩ : ∃ xs, xs = wrs.map reqD := ⟨_, rfl⟩
  have cyr : CleanL yr := cleanL_map clean_req hyr
  simp only [← hyr] at h ⊢
  clear hyr
  obtain ⟨yt, hyt⟩ : ∃ xs, xs = wts.map labD := ⟨_, rfl⟩
  have cyt : CleanL yt := cleanL_map (fun _ => ⟨rfl, rfl⟩) hyt
  simp only [← hyt] at h ⊢
  clear hyt
  refine wpF_sound ⟨rfl, by decide⟩ fun O hO V hV => ?_
  subst hV
  conv => cbv
  repeat' (refine And.intro (by first | assumption | exact ⟨rfl⟩ | exact ⟨rfl, rfl⟩) ?_)
  refine ⟨_, h, ?_⟩
  conv => cbv
  trivial
set_option maxRecDepth 100000 in
set_option maxHeartbeats 2000000 in
theorem chk19_claim (R : Ans) (x : ClaimV) (h : R.v 23 [claimD x] (.int .i64 (claimE x))) : AnsF R c19 [.iface 37 (claimD x)] (.int .i64 (claimE x)) := by
  obtain ⟨r, hr⟩ : ∃ r, r = claimE x := ⟨_, rfl⟩
  rw [← hr] at h ⊢
  clear hr
  obtain ⟨cn, cp, cg, ⟨ct, cz, ck⟩, cr, c0, c1, cos, ctr, cid, cph, cb, cm⟩ := x
  unfold claimD claimC at h ⊢
  simp only at h ⊢
  obtain ⟨zo, hzo⟩ : ∃ xs, xs = cos.map offD := ⟨_, rfl⟩
  have czo : CleanL zo := cleanL_map (fun _ => ⟨rfl, rfl⟩) hzo
  simp only [← hzo] at h ⊢
  clear hzo
  refine wpF_sound ⟨rfl, by decide⟩ fun O hO V hV => ?_
  subst hV
  conv => cbv
  repeat' (refine And.intro (by first | assumption | exact ⟨rfl⟩ | exact ⟨rfl, rfl⟩) ?_)
  refine ⟨_, h, ?_⟩
  conv => cbv
  trivial
set_option maxRecDepth 100000 in
set_option maxHeartbeats 2000000 in
theorem chk19_cmd (R : Ans) (x : CmdV) (h : R.v 24 [cmdD x] (.int .i64 (cmdE x))) : AnsF R c19 [.iface 40 (cmdD x)] (.int .i64 (cmdE x)) := by
  obtain ⟨r, hr⟩ : ∃ r, r = cmdE x := ⟨_, rfl⟩
  rw [← hr] at h ⊢
  clear hr
  obtain ⟨mc, mns, ms, mt, mf, mp, mos, mm⟩ := x
  unfold cmdD cmdC at h ⊢
  simp only at h ⊢
  obtain ⟨un, hun⟩ : ∃ xs, xs = mns.map mkS := ⟨_, rfl⟩
  have cun : CleanL un := cleanL_map clean_S hun
  simp only [← hun] at h ⊢
  clear hun
  obtain ⟨uo, huo⟩ : ∃ xs, xs = mos.map offD := ⟨_, rfl⟩
  have cuo : CleanL uo := cleanL_map (fun _ => ⟨rfl, rfl⟩) huo
  simp only [← huo] at h ⊢
  clear huo
  refine wpF_sound ⟨rfl, by decide⟩ fun O hO V hV => ?_
  subst hV
  conv => cbv
  repeat' (refine And.intro (by first | assumption | exact ⟨rfl⟩ | exact ⟨rfl, rfl⟩) ?_)
  refine ⟨_, h, ?_⟩
  conv => cbv
  trivial
set_option maxRecDepth 100000 in
set_option maxHeartbeats 2000000 in
theorem chk19_cool (R : Ans) (x : CoolV) (h : R.v 47 [.sl 4 false [coolD x]] (.int .i64 (cool1E x))) : AnsF R c19 [.iface 42 (coolD x)] (.int .i64 (cool1E x)) := by
  obtain ⟨r, hr⟩ : ∃ r, r = cool1E x := ⟨_, rfl⟩
  rw [← hr] at h ⊢
  clear hr
  obtain ⟨⟨lt, lz, lk⟩, lu⟩ := x
  unfold coolD coolC at h ⊢
  simp only at h ⊢
  refine wpF_sound ⟨rfl, by decide⟩ fun O hO V hV => ?_
  subst hV
  conv => cbv
  repeat' (refine And.intro (by first | assumption | exact ⟨rfl⟩ | exact ⟨rfl, rfl⟩) ?_)
  refine ⟨_, h, ?_⟩
  conv => cbv
  trivial
set_option maxRecDepth 100000 in
set_option maxHeartbeats 2000000 in
theorem chk19_int (R : Ans) (n : Int) : AnsF R c19 [.iface 3 (.int .i64 n)] (.int .i64 1) := by
  refine wpF_sound ⟨rfl, by decide⟩ fun O hO V hV => ?_
  subst hV
  conv => cbv
  trivial
set_option maxRecDepth 100000 in
set_option maxHeartbeats 2000000 in
theorem chk19_nil (R : Ans) : AnsF R c19 [.nili] (.int .i64 1) := by
  refine wpF_sound ⟨rfl, by decide⟩ fun O hO V hV => ?_
  subst hV
  conv => cbv
  trivial
theorem chk19_ok (R : Ans) (x : AnyV) (h21 : R.v 21 [podD x.pod] (.int .i64 (podE x.pod))) (h22 : R.v 22 [poolD x.pool] (.int .i64 (poolE x.pool))) (h23 : R.v 23 [claimD x.claim] (.int .i64 (claimE x.claim)))
    (h24 : R.v 24 [cmdD x.cmd] (.int .i64 (cmdE x.cmd))) (h47 : R.v 47 [.sl 4 false [coolD x.cool]] (.int .i64 (cool1E x.cool))) : AnsF R c19 [ofD x] (.int .i64 (chkE x)) := by
  unfold ofD chkE
  split
  · exact chk19_pod R _ h21
  split
  · exact chk19_pool R _ h22
  split
  · exact chk19_claim R _ h23
  split
  · exact chk19_cmd R _ h24
  split
  · exact chk19_cool R _ h47
  · exact chk19_int R _
end Go.Proofs.AM
namespace Go.Proofs.AM
open Go Go.Lib Cd
set_option maxRecDepth 100000 in
set_option maxHeartbeats 2000000 in
theorem chk20_ok (R : Ans) (x : AnyV) (h48 : R.v 48 [podD x.pod] (.int .i64 (podE x.pod))) (h49 : R.v 49 [poolD x.pool] (.int .i64 (poolE x.pool))) (h50 : R.v 50 [claimD x.claim] (.int .i64 (claimE x.claim))) (h51 : R.v 51 [cmdD x.cmd] (.int .i64 (cmdE x.cmd))) (h52 : R.v 52 [.sl 4 false [coolD x.cool]] (.int .i64 (cool1E x.cool))) : AnsF R c20 [anyD x] (.int .i64 (chkE x)) := by
  obtain ⟨r, hr⟩ : ∃ r, r = chkE x := ⟨_, rfl⟩
  rw [← hr]
  unfold chkE at hr
  obtain ⟨e0, he0⟩ : ∃ e, e = podE x.pod := ⟨_, rfl⟩
  rw [← he0] at h48 hr
  clear he0
  obtain ⟨e1, he1⟩ : ∃ e, e = poolE x.pool := ⟨_, rfl⟩
  rw [← he1] at h49 hr
  clear he1
  obtain ⟨e2, he2⟩ : ∃ e, e = claimE x.claim := ⟨_, rfl⟩
  rw [← he2] at h50 hr
  clear he2
  obtain ⟨e3, he3⟩ : ∃ e, e = cmdE x.cmd := ⟨_, rfl⟩
  rw [← he3] at h51 hr
  clear he3
  obtain ⟨e4, he4⟩ : ∃ e, e = cool1E x.cool := ⟨_, rfl⟩
  rw [← he4] at h52 hr
  clear he4
  obtain ⟨kind, ⟨pn, pa, p0, p1, pp, prs, pts, pss, pns, pas, psi, pon⟩, ⟨wn, ww, w0, w1, wrs, wts, wg, we, wb, wm⟩, ⟨cn, cp, cg, ⟨ct, cz, ck⟩, cr, c0, c1, cos, ctr, cid, cph, cb, cm⟩, ⟨mc, mns, ms, mt, mf, mp, mos, mm⟩, ⟨⟨lt, lz, lk⟩, lu⟩⟩ := x
  unfold anyD podD podC poolD poolC claimD claimC cmdD cmdC coolD coolC at *
  simp only [List.cons_append, List.nil_append] at h48 h49 h50 h51 h52 hr ⊢
  obtain ⟨xr, hxr⟩ : ∃ xs, xs = prs.map reqD := ⟨_, rfl⟩
  have cxr : CleanL xr := cleanL_map clean_req hxr
  simp only [← hxr] at h48 h49 h50 h51 h52 ⊢
  clear hxr
  obtain ⟨xt, hxt⟩ : ∃ xs, xs = pts.map tolD := ⟨_, rfl⟩
  have cxt : CleanL xt := cleanL_map (fun _ => ⟨rfl, rfl⟩) hxt
  simp only [← hxt] at h48 h49 h50 h51 h52 ⊢
  clear hxt
  obtain ⟨xs, hxs⟩ : ∃ xs, xs = pss.map sprD := ⟨_, rfl⟩
  have cxs : CleanL xs := cleanL_map (fun _ => ⟨rfl, rfl⟩) hxs
  simp only [← hxs] at h48 h49 h50 h51 h52 ⊢
  clear hxs
  obtain ⟨xn, hxn⟩ : ∃ xs, xs = pns.map labD := ⟨_, rfl⟩
  have cxn : CleanL xn := cleanL_map (fun _ => ⟨rfl, rfl⟩) hxn
  simp only [← hxn] at h48 h49 h50 h51 h52 ⊢
  clear hxn
  obtain ⟨xa, hxa⟩ : ∃ xs, xs = pas.map labD := ⟨_, rfl⟩
  have cxa : CleanL xa := cleanL_map (fun _ => ⟨rfl, rfl⟩) hxa
  simp only [← hxa] at h48 h49 h50 h51 h52 ⊢
  clear hxa
  obtain ⟨yr, hyr⟩ : ∃ xs, xs = wrs.map reqD := ⟨_, rfl⟩
  have cyr : CleanL yr := cleanL_map clean_req hyr
  simp only [← hyr] at h48 h49 h50 h51 h52 ⊢
  clear hyr
  obtain ⟨yt, hyt⟩ : ∃ xs, xs = wts.map labD := ⟨_, rfl⟩
  have cyt : CleanL yt := cleanL_map (fun _ => ⟨rfl, rfl⟩) hyt
  simp only [← hyt] at h48 h49 h50 h51 h52 ⊢
  clear hyt
  obtain ⟨zo, hzo⟩ : ∃ xs, xs = cos.map offD := ⟨_, rfl⟩
  have czo : CleanL zo := cleanL_map (fun _ => ⟨rfl, rfl⟩) hzo
  simp only [← hzo] at h48 h49 h50 h51 h52 ⊢
  clear hzo
  obtain ⟨un, hun⟩ : ∃ xs, xs = mns.map mkS := ⟨_, rfl⟩
  have cun : CleanL un := cleanL_map clean_S hun
  simp only [← hun] at h48 h49 h50 h51 h52 ⊢
  clear hun
  obtain ⟨uo, huo⟩ : ∃ xs, xs = mos.map offD := ⟨_, rfl⟩
  have cuo : CleanL uo := cleanL_map (fun _ => ⟨rfl, rfl⟩) huo
  simp only [← huo] at h48 h49 h50 h51 h52 ⊢
  clear huo
  refine wpF_sound ⟨rfl, by decide⟩ fun O hO V hV => ?_
  subst hV
  conv => cbv
  rintro (_ | _) g0 <;> replace g0 := ci hO g0 <;> dsimp only [CmpI] at g0
  case true =>
    conv => cbv
    repeat' (refine And.intro (by first | assumption | exact ⟨rfl⟩ | exact ⟨rfl, rfl⟩) ?_)
    refine ⟨_, h48, ?_⟩
    conv => cbv
    rw [hr, if_pos g0]
  conv => cbv
  rintro (_ | _) g1 <;> replace g1 := ci hO g1 <;> dsimp only [CmpI] at g1
  case true =>
    conv => cbv
    repeat' (refine And.intro (by first | assumption | exact ⟨rfl⟩ | exact ⟨rfl, rfl⟩) ?_)
    refine ⟨_, h49, ?_⟩
    conv => cbv
    rw [hr, if_neg g0, if_pos g1]
  conv => cbv
  rintro (_ | _) g2 <;> replace g2 := ci hO g2 <;> dsimp only [CmpI] at g2
  case true =>
    conv => cbv
    repeat' (refine And.intro (by first | assumption | exact ⟨rfl⟩ | exact ⟨rfl, rfl⟩) ?_)
    refine ⟨_, h50, ?_⟩
    conv => cbv
    rw [hr, if_neg g0, if_neg g1, if_pos g2]
  conv => cbv
  rintro (_ | _) g3 <;> replace g3 := ci hO g3 <;> dsimp only [CmpI] at g3
  case true =>
    conv => cbv
    repeat' (refine And.intro (by first | assumption | exact ⟨rfl⟩ | exact ⟨rfl, rfl⟩) ?_)
    refine ⟨_, h51, ?_⟩
    conv => cbv
    rw [hr, if_neg g0, if_neg g1, if_neg g2, if_pos g3]
  conv => cbv
  rintro (_ | _) g4 <;> replace g4 := ci hO g4 <;> dsimp only [CmpI] at g4
  case true =>
    conv => cbv
    repeat' (refine And.intro (by first | assumption | exact ⟨rfl⟩ | exact ⟨rfl, rfl⟩) ?_)
    refine ⟨_, h52, ?_⟩
    conv => cbv
    rw [hr, if_neg g0, if_neg g1, if_neg g2, if_neg g3, if_pos g4]
  conv => cbv
  rw [hr, if_neg g0, if_neg g1, if_neg g2, if_neg g3, if_neg g4]
set_option maxRecDepth 100000 in
set_option maxHeartbeats 2000000 in
theorem of17_ok (R : Ans) (x : AnyV) : AnsF R c17 [anyD x] (ofD x) := by
  obtain ⟨r, hr⟩ : ∃ r, r = ofD x := ⟨_, rfl⟩
  rw [← hr]
  unfold ofD at hr
  obtain ⟨kind, ⟨pn, pa, p0, p1, pp, prs, pts, pss, pns, pas, psi, pon⟩, ⟨wn, ww, w0, w1, wrs, wts, wg, we, wb, wm⟩, ⟨cn, cp, cg, ⟨ct, cz, ck⟩, cr, c0, c1, cos, ctr, cid, cph, cb, cm⟩, ⟨mc, mns, ms, mt, mf, mp, mos, mm⟩, ⟨⟨lt, lz, lk⟩, lu⟩⟩ := x
  unfold anyD podD podC poolD poolC claimD claimC cmdD cmdC coolD coolC at *
  simp only [List.cons_append, List.nil_append] at hr ⊢
  obtain ⟨xr, hxr⟩ : ∃ xs, xs = prs.map reqD := ⟨_, rfl⟩
  have cxr : CleanL xr := cleanL_map clean_req hxr
  simp only [← hxr] at hr ⊢
  clear hxr
  obtain ⟨xt, hxt⟩ : ∃ xs, xs = pts.map tolD := ⟨_, rfl⟩
  have cxt : CleanL xt := cleanL_map (fun _ => ⟨rfl, rfl⟩) hxt
  simp only [← hxt] at hr ⊢
  clear hxt
  obtain ⟨xs, hxs⟩ : ∃ xs, xs = pss.map sprD := ⟨_, rfl⟩
  have cxs : CleanL xs := cleanL_map (fun _ => ⟨rfl, rfl⟩) hxs
  simp only [← hxs] at hr ⊢
  clear hxs
  obtain ⟨xn, hxn⟩ : ∃ xs, xs = pns.map labD := ⟨_, rfl⟩
  have cxn : CleanL xn := cleanL_map (fun _ => ⟨rfl, rfl⟩) hxn
  simp only [← hxn] at hr ⊢
  clear hxn
  obtain ⟨xa, hxa⟩ : ∃ xs, xs = pas.map labD := ⟨_, rfl⟩
  have cxa : CleanL xa := cleanL_map (fun _ => ⟨rfl, rfl⟩) hxa
  simp only [← hxa] at hr ⊢
  clear hxa
  obtain ⟨yr, hyr⟩ : ∃ xs, xs = wrs.map reqD := ⟨_, rfl⟩
  have cyr : CleanL yr := cleanL_map clean_req hyr
  simp only [← hyr] at hr ⊢
  clear hyr
  obtain ⟨yt, hyt⟩ : ∃ xs, xs = wts.map labD := ⟨_, rfl⟩
  have cyt : CleanL yt := cleanL_map (fun _ => ⟨rfl, rfl⟩) hyt
  simp only [← hyt] at hr ⊢
  clear hyt
  obtain ⟨zo, hzo⟩ : ∃ xs, xs = cos.map offD := ⟨_, rfl⟩
  have czo : CleanL zo := cleanL_map (fun _ => ⟨rfl, rfl⟩) hzo
  simp only [← hzo] at hr ⊢
  clear hzo
  obtain ⟨un, hun⟩ : ∃ xs, xs = mns.map mkS := ⟨_, rfl⟩
  have cun : CleanL un := cleanL_map clean_S hun
  simp only [← hun] at hr ⊢
  clear hun
  obtain ⟨uo, huo⟩ : ∃ xs, xs = mos.map offD := ⟨_, rfl⟩
  have cuo : CleanL uo := cleanL_map (fun _ => ⟨rfl, rfl⟩) huo
  simp only [← huo] at hr ⊢
  clear huo
  refine wpF_sound ⟨rfl, by decide⟩ fun O hO V hV => ?_
  subst hV
  conv => cbv
  rintro (_ | _) g0 <;> replace g0 := ci hO g0 <;> dsimp only [CmpI] at g0
  case true =>
    conv => cbv
    repeat' (refine And.intro (by first | assumption | exact ⟨rfl⟩ | exact ⟨rfl, rfl⟩) ?_)
    rw [hr, if_pos g0]; first | done | rfl
  conv => cbv
  rintro (_ | _) g1 <;> replace g1 := ci hO g1 <;> dsimp only [CmpI] at g1
  case true =>
    conv => cbv
    repeat' (refine And.intro (by first | assumption | exact ⟨rfl⟩ | exact ⟨rfl, rfl⟩) ?_)
    rw [hr, if_neg g0, if_pos g1]; first | done | rfl
  conv => cbv
  rintro (_ | _) g2 <;> replace g2 := ci hO g2 <;> dsimp only [CmpI] at g2
  case true =>
    conv => cbv
    repeat' (refine And.intro (by first | assumption | exact ⟨rfl⟩ | exact ⟨rfl, rfl⟩) ?_)
    rw [hr, if_neg g0, if_neg g1, if_pos g2]; first | done | rfl
  conv => cbv
  rintro (_ | _) g3 <;> replace g3 := ci hO g3 <;> dsimp only [CmpI] at g3
  case true =>
    conv => cbv
    repeat' (refine And.intro (by first | assumption | exact ⟨rfl⟩ | exact ⟨rfl, rfl⟩) ?_)
    rw [hr, if_neg g0, if_neg g1, if_neg g2, if_pos g3]; first | done | rfl
  conv => cbv
  rintro (_ | _) g4 <;> replace g4 := ci hO g4 <;> dsimp only [CmpI] at g4
  case true =>
    conv => cbv
    repeat' (refine And.intro (by first | assumption | exact ⟨rfl⟩ | exact ⟨rfl, rfl⟩) ?_)
    rw [hr, if_neg g0, if_neg g1, if_neg g2, if_neg g3, if_pos g4]; first | done | rfl
  conv => cbv
  rw [hr, if_neg g0, if_neg g1, if_neg g2, if_neg g3, if_neg g4]; first | done | rfl
end Go.Proofs.AM
namespace Go.Proofs.AM
open Go Go.Lib Cd
set_option maxRecDepth 100000 in
set_option maxHeartbeats 2000000 in
theorem name16_pod (R : Ans) (x : PodV) (h : R.v 19 [.iface 29 (podD x)] (.int .i64 (podE x))) : AnsF R c16 [.iface 29 (podD x)] (.tup [mkS (if podE x ≠ 0 then [] else x.name), .int .i64 (podE x)]) := by
  obtain ⟨r, hr⟩ : ∃ r, r = podE x := ⟨_, rfl⟩
  rw [← hr] at h ⊢
  clear hr
  obtain ⟨s, hs⟩ : ∃ s, s = if r ≠ 0 then [] else x.name := ⟨_, rfl⟩
  rw [← hs]
  obtain ⟨pn, pa, p0, p1, pp, prs, pts, pss, pns, pas, psi, pon⟩ := x
  unfold podD podC at h ⊢
  simp only at h hs ⊢
  obtain ⟨xr, hxr⟩ : ∃ xs, xs = prs.map reqD := ⟨_, rfl⟩
  have cxr : CleanL xr := cleanL_map clean_req hxr
  simp only [← hxr] at h ⊢
  clear hxr
  obtain ⟨xt, hxt⟩ : ∃ xs, xs = pts.map tolD := ⟨_, rfl⟩
  have cxt : CleanL xt := cleanL_map (fun _ => ⟨rfl, rfl⟩) hxt
  simp only [← hxt] at h ⊢
  clear hxt
  obtain ⟨xs, hxs⟩ : ∃ xs, xs = pss.map sprD := ⟨_, rfl⟩
  have cxs : CleanL xs := cleanL_map (fun _ => ⟨rfl, rfl⟩) hxs
  simp only [← hxs] at h ⊢
  clear hxs
  obtain ⟨xn, hxn⟩ : ∃ xs, xs = pns.map labD := ⟨_, rfl⟩
  have cxn : CleanL xn := cleanL_map (fun _ => ⟨rfl, rfl⟩) hxn
  simp only [← hxn] at h ⊢
  clear hxn
  obtain ⟨xa, hxa⟩ : ∃ xs, xs = pas.map labD := ⟨_, rfl⟩
  have cxa : CleanL xa := cleanL_map (fun _ => ⟨rfl, rfl⟩) hxa
  simp only [← hxa] at h ⊢
  clear hxa
  refine wpF_sound ⟨rfl, by decide⟩ fun O hO V hV => ?_
  subst hV
  conv => cbv
  repeat' (refine And.intro (by first | assumption | exact ⟨rfl⟩ | exact ⟨rfl, rfl⟩) ?_)
  refine ⟨_, h, ?_⟩
  conv => cbv
  rintro (_ | _) g <;> replace g := ci hO g <;> dsimp only [CmpI] at g
  case true =>
    conv => cbv
    rw [hs, if_pos g]
  rw [if_neg (by simpa using g)] at hs
  subst g
  conv => cbv
  rw [hs]; first | done | trivial | rfl
set_option maxRecDepth 100000 in
set_option maxHeartbeats 2000000 in
theorem name16_pool (R : Ans) (x : PoolV) (h : R.v 19 [.iface 32 (poolD x)] (.int .i64 (poolE x))) : AnsF R c16 [.iface 32 (poolD x)] (.tup [mkS (if poolE x ≠ 0 then [] else x.name), .int .i64 (poolE x)]) := by
  obtain ⟨r, hr⟩ : ∃ r, r = poolE x := ⟨_, rfl⟩
  rw [← hr] at h ⊢
  clear hr
  obtain ⟨s, hs⟩ : ∃ s, s = if r ≠ 0 then [] else x.name := ⟨_, rfl⟩
  rw [← hs]
  obtain ⟨wn, ww, w0, w1, wrs, wts, wg, we, wb, wm⟩ := x
  unfold poolD poolC at h ⊢
  simp only at h hs ⊢
  obtain ⟨yr, hyr⟩ : ∃ xs, xs = wrs.map reqD := ⟨_, rfl⟩
  have cyr : CleanL yr := cleanL_map clean_req hyr
  simp only [← hyr] at h ⊢
  clear hyr
  obtain ⟨yt, hyt⟩ : ∃ xs, xs = wts.map labD := ⟨_, rfl⟩
  have cyt : CleanL yt := cleanL_map (fun _ => ⟨rfl, rfl⟩) hyt
  simp only [← hyt] at h ⊢
  clear hyt
  refine wpF_sound ⟨rfl, by decide⟩ fun O hO V hV => ?_
  subst hV
  conv => cbv
  repeat' (refine And.intro (by first | assumption | exact ⟨rfl⟩ | exact ⟨rfl, rfl⟩) ?_)
  refine ⟨_, h, ?_⟩
  conv => cbv
  rintro (_ | _) g <;> replace g := ci hO g <;> dsimp only [CmpI] at g
  case true =>
    conv => cbv
    rw [hs, if_pos g]
  rw [if_neg (by simpa using g)] at hs
  subst g
  conv => cbv
  rw [hs]; first | done | trivial | rfl
set_option maxRecDepth 100000 in
set_option maxHeartbeats 2000000 in
theorem name16_claim (R : Ans) (x : ClaimV) (h : R.v 19 [.iface 37 (claimD x)] (.int .i64 (claimE x))) : AnsF R c16 [.iface 37 (claimD x)] (.tup [mkS (if claimE x ≠ 0 then [] else x.name), .int .i64 (claimE x)]) := by
  obtain ⟨r, hr⟩ : ∃ r, r = claimE x := ⟨_, rfl⟩
  rw [← hr] at h ⊢
  clear hr
  obtain ⟨s, hs⟩ : ∃ s, s = if r ≠ 0 then [] else x.name := ⟨_, rfl⟩
  rw [← hs]
  obtain ⟨cn, cp, cg, ⟨ct, cz, ck⟩, cr, c0, c1, cos, ctr, cid, cph, cb, cm⟩ := x
  unfold claimD claimC at h ⊢
  simp only at h hs ⊢
  obtain ⟨zo, hzo⟩ : ∃ xs, xs = cos.map offD := ⟨_, rfl⟩
  have czo : CleanL zo := cleanL_map (fun _ => ⟨rfl, rfl⟩) hzo
  simp only [← hzo] at h ⊢
  clear hzo
  refine wpF_sound ⟨rfl, by decide⟩ fun O hO V hV => ?_
  subst hV
  conv => cbv
  repeat' (refine And.intro (by first | assumption | exact ⟨rfl⟩ | exact ⟨rfl, rfl⟩) ?_)
  refine ⟨_, h, ?_⟩
  conv => cbv
  rintro (_ | _) g <;> replace g := ci hO g <;> dsimp only [CmpI] at g
  case true =>
    conv => cbv
    rw [hs, if_pos g]
  rw [if_neg (by simpa using g)] at hs
  subst g
  conv => cbv
  rw [hs]; first | done | trivial | rfl
set_option maxRecDepth 100000 in
set_option maxHeartbeats 2000000 in
theorem name16_cmd (R : Ans) (x : CmdV) (h : R.v 19 [.iface 40 (cmdD x)] (.int .i64 (cmdE x))) : AnsF R c16 [.iface 40 (cmdD x)] (.tup [mkS (if cmdE x ≠ 0 then [] else commandS), .int .i64 (cmdE x)]) := by
  obtain ⟨r, hr⟩ : ∃ r, r = cmdE x := ⟨_, rfl⟩
  rw [← hr] at h ⊢
  clear hr
  obtain ⟨s, hs⟩ : ∃ s, s = if r ≠ 0 then [] else commandS := ⟨_, rfl⟩
  rw [← hs]
  obtain ⟨mc, mns, ms, mt, mf, mp, mos, mm⟩ := x
  unfold cmdD cmdC at h ⊢
  simp only at h hs ⊢
  obtain ⟨un, hun⟩ : ∃ xs, xs = mns.map mkS := ⟨_, rfl⟩
  have cun : CleanL un := cleanL_map clean_S hun
  simp only [← hun] at h ⊢
  clear hun
  obtain ⟨uo, huo⟩ : ∃ xs, xs = mos.map offD := ⟨_, rfl⟩
  have cuo : CleanL uo := cleanL_map (fun _ => ⟨rfl, rfl⟩) huo
  simp only [← huo] at h ⊢
  clear huo
  refine wpF_sound ⟨rfl, by decide⟩ fun O hO V hV => ?_
  subst hV
  conv => cbv
  repeat' (refine And.intro (by first | assumption | exact ⟨rfl⟩ | exact ⟨rfl, rfl⟩) ?_)
  refine ⟨_, h, ?_⟩
  conv => cbv
  rintro (_ | _) g <;> replace g := ci hO g <;> dsimp only [CmpI] at g
  case true =>
    conv => cbv
    rw [hs, if_pos g]
  rw [if_neg (by simpa using g)] at hs
  subst g
  conv => cbv
  rw [hs]; first | done | trivial | rfl
set_option maxRecDepth 100000 in
set_option maxHeartbeats 2000000 in
theorem name16_cool (R : Ans) (x : CoolV) (h : R.v 19 [.iface 42 (coolD x)] (.int .i64 (cool1E x))) (h46 : cool1E x = 0 → R.v 46 [.sl 1 false [mkS x.o.t, mkS x.o.z, mkS x.o.k], mkS [47]] (mkS (x.o.t ++ 47 :: (x.o.z ++ 47 :: x.o.k)))) : AnsF R c16 [.iface 42 (coolD x)] (.tup [mkS (if cool1E x ≠ 0 then [] else x.o.t ++ 47 :: (x.o.z ++ 47 :: x.o.k)), .int .i64 (cool1E x)]) := by
  obtain ⟨r, hr⟩ : ∃ r, r = cool1E x := ⟨_, rfl⟩
  obtain ⟨js, hjs⟩ : ∃ j, j = x.o.t ++ 47 :: (x.o.z ++ 47 :: x.o.k) := ⟨_, rfl⟩
  rw [← hjs] at h46 ⊢
  clear hjs
  rw [← hr] at h h46 ⊢
  clear hr
  obtain ⟨s, hs⟩ : ∃ s, s = if r ≠ 0 then [] else js := ⟨_, rfl⟩
  rw [← hs]
  obtain ⟨⟨lt, lz, lk⟩, lu⟩ := x
  unfold coolD coolC at h ⊢
  simp only at h h46 hs ⊢
  refine wpF_sound ⟨rfl, by decide⟩ fun O hO V hV => ?_
  subst hV
  conv => cbv
  repeat' (refine And.intro (by first | assumption | exact ⟨rfl⟩ | exact ⟨rfl, rfl⟩) ?_)
  refine ⟨_, h, ?_⟩
  conv => cbv
  rintro (_ | _) g <;> replace g := ci hO g <;> dsimp only [CmpI] at g
  case true =>
    conv => cbv
    rw [hs, if_pos g]
  rw [if_neg (by simpa using g)] at hs
  replace h46 := h46 g
  subst g
  conv => cbv
  repeat' (refine And.intro (by first | assumption | exact ⟨rfl⟩ | exact ⟨rfl, rfl⟩) ?_)
  refine ⟨_, h46, ?_⟩
  conv => cbv
  rw [hs]; first | done | trivial | rfl
set_option maxRecDepth 100000 in
set_option maxHeartbeats 2000000 in
theorem name16_int (R : Ans) (n : Int) (h : R.v 19 [.iface 3 (.int .i64 n)] (.int .i64 1)) : AnsF R c16 [.iface 3 (.int .i64 n)] (.tup [mkS [], .int .i64 1]) := by
  refine wpF_sound ⟨rfl, by decide⟩ fun O hO V hV => ?_
  subst hV
  conv => cbv
  repeat' (refine And.intro (by first | assumption | exact ⟨rfl⟩ | exact ⟨rfl, rfl⟩) ?_)
  refine ⟨_, h, ?_⟩
  conv => cbv
  rintro (_ | _) g <;> replace g := ci hO g <;> dsimp only [CmpI] at g
  · exact absurd g (by decide)
  conv => cbv
  try trivial
theorem oname16_ok (R : Ans) (x : AnyV) (h19 : R.v 19 [ofD x] (.int .i64 (chkE x))) (h46 : cool1E x.cool = 0 → R.v 46 [.sl 1 false [mkS x.cool.o.t, mkS x.cool.o.z, mkS x.cool.o.k], mkS [47]] (mkS (x.cool.o.t ++ 47 :: (x.cool.o.z ++ 47 :: x.cool.o.k)))) : AnsF R c16 [ofD x] (.tup [mkS (nameT x), .int .i64 (chkE x)]) := by
  unfold nameT
  unfold ofD chkE at *
  split at h19
  · rename_i h1
    simp only [h1, if_true]
    exact name16_pod R _ h19
  rename_i h1
  split at h19
  · rename_i h2
    simp only [h1, h2, if_true, if_false]
    exact name16_pool R _ h19
  rename_i h2
  split at h19
  · rename_i h3
    simp only [h1, h2, h3, if_true, if_false]
    exact name16_claim R _ h19
  rename_i h3
  split at h19
  · rename_i h4
    simp only [h1, h2, h3, h4, if_true, if_false]
    exact name16_cmd R _ h19
  rename_i h4
  split at h19
  · rename_i h5
    simp only [h1, h2, h3, h4, h5, if_true, if_false]
    exact name16_cool R _ h19 h46
  · rename_i h5
    simp only [h1, h2, h3, h4, h5, if_true, if_false]
    exact name16_int R _ h19
set_option maxRecDepth 100000 in
set_option maxHeartbeats 2000000 in
theorem name18_8 (R : Ans) (x : AnyV) (hF : FO x.cool.o) (h20 : R.v 20 [anyD x] (.int .i64 (chkE x))) : AnsF R c18 [anyD x] (.tup [mkS (nameT x), .int .i64 (chkE x)]) := by
  obtain ⟨r, hr⟩ : ∃ r, r = nameT x := ⟨_, rfl⟩
  rw [← hr]
  unfold nameT at hr
  have hk : chkE x = 0 → x.kind = 1 ∨ x.kind = 2 ∨ x.kind = 3 ∨ x.kind = 4 ∨ x.kind = 5 := fun h => by
    unfold chkE at h
    repeat' (split at h)
    all_goals first | omega | skip
  obtain ⟨e, he⟩ : ∃ e, e = chkE x := ⟨_, rfl⟩
  rw [← he] at h20 hr hk ⊢
  clear he
  have ht := hF.t
  have hz := hF.z
  have hk2 := hF.k
  obtain ⟨kind, ⟨pn, pa, p0, p1, pp, prs, pts, pss, pns, pas, psi, pon⟩, ⟨wn, ww, w0, w1, wrs, wts, wg, we, wb, wm⟩, ⟨cn, cp, cg, ⟨ct, cz, ck⟩, cr, c0, c1, cos, ctr, cid, cph, cb, cm⟩, ⟨mc, mns, ms, mt, mf, mp, mos, mm⟩, ⟨⟨lt, lz, lk⟩, lu⟩⟩ := x
  unfold anyD podC poolC claimC cmdC coolC at h20 ⊢
  unfold SL at ht hz hk2
  simp only [List.cons_append, List.nil_append] at h20 hr hk ht hz hk2 ⊢
  obtain ⟨xr, hxr⟩ : ∃ xs, xs = prs.map reqD := ⟨_, rfl⟩
  have cxr : CleanL xr := cleanL_map clean_req hxr
  simp only [← hxr] at h20 ⊢
  clear hxr
  obtain ⟨xt, hxt⟩ : ∃ xs, xs = pts.map tolD := ⟨_, rfl⟩
  have cxt : CleanL xt := cleanL_map (fun _ => ⟨rfl, rfl⟩) hxt
  simp only [← hxt] at h20 ⊢
  clear hxt
  obtain ⟨xs, hxs⟩ : ∃ xs, xs = pss.map sprD := ⟨_, rfl⟩
  have cxs : CleanL xs := cleanL_map (fun _ => ⟨rfl, rfl⟩) hxs
  simp only [← hxs] at h20 ⊢
  clear hxs
  obtain ⟨xn, hxn⟩ : ∃ xs, xs = pns.map labD := ⟨_, rfl⟩
  have cxn : CleanL xn := cleanL_map (fun _ => ⟨rfl, rfl⟩) hxn
  simp only [← hxn] at h20 ⊢
  clear hxn
  obtain ⟨xa, hxa⟩ : ∃ xs, xs = pas.map labD := ⟨_, rfl⟩
  have cxa : CleanL xa := cleanL_map (fun _ => ⟨rfl, rfl⟩) hxa
  simp only [← hxa] at h20 ⊢
  clear hxa
  obtain ⟨yr, hyr⟩ : ∃ xs, xs = wrs.map reqD := ⟨_, rfl⟩
  have cyr : CleanL yr := cleanL_map clean_req hyr
  simp only [← hyr] at h20 ⊢
  clear hyr
  obtain ⟨yt, hyt⟩ : ∃ xs, xs = wts.map labD := ⟨_, rfl⟩
  have cyt : CleanL yt := cleanL_map (fun _ => ⟨rfl, rfl⟩) hyt
  simp only [← hyt] at h20 ⊢
  clear hyt
  obtain ⟨zo, hzo⟩ : ∃ xs, xs = cos.map offD := ⟨_, rfl⟩
  have czo : CleanL zo := cleanL_map (fun _ => ⟨rfl, rfl⟩) hzo
  simp only [← hzo] at h20 ⊢
  clear hzo
  obtain ⟨un, hun⟩ : ∃ xs, xs = mns.map mkS := ⟨_, rfl⟩
  have cun : CleanL un := cleanL_map clean_S hun
  simp only [← hun] at h20 ⊢
  clear hun
  obtain ⟨uo, huo⟩ : ∃ xs, xs = mos.map offD := ⟨_, rfl⟩
  have cuo : CleanL uo := cleanL_map (fun _ => ⟨rfl, rfl⟩) huo
  simp only [← huo] at h20 ⊢
  clear huo
  refine wpF_sound ⟨rfl, by decide⟩ fun O hO V hV => ?_
  subst hV
  conv => cbv
  repeat' (refine And.intro (by first | assumption | exact ⟨rfl⟩ | exact ⟨rfl, rfl⟩) ?_)
  refine ⟨_, h20, ?_⟩
  conv => cbv
  rintro (_ | _) g <;> replace g := ci hO g <;> dsimp only [CmpI] at g
  case true =>
    conv => cbv
    rw [hr, if_pos g]
  rw [if_neg (by simpa using g)] at hr
  replace hk := hk g
  subst g
  conv => cbv
  rintro (_ | _) g0 <;> replace g0 := ci hO g0 <;> dsimp only [CmpI] at g0
  case true =>
    conv => cbv
    rw [hr, if_pos g0]
  conv => cbv
  rintro (_ | _) g1 <;> replace g1 := ci hO g1 <;> dsimp only [CmpI] at g1
  case true =>
    conv => cbv
    rw [hr, if_neg g0, if_pos g1]
  conv => cbv
  rintro (_ | _) g2 <;> replace g2 := ci hO g2 <;> dsimp only [CmpI] at g2
  case true =>
    conv => cbv
    rw [hr, if_neg g0, if_neg g1, if_pos g2]
  conv => cbv
  rintro (_ | _) g3 <;> replace g3 := ci hO g3 <;> dsimp only [CmpI] at g3
  case true =>
    conv => cbv
    rw [hr, if_neg g0, if_neg g1, if_neg g2, if_pos g3]; rfl
  conv => cbv
  rw [if_neg g0, if_neg g1, if_neg g2, if_neg g3] at hr
  simp only [o_cat hO, o_slen hO]
  refine ⟨⟨by simp; omega⟩, ⟨by simp; omega⟩, ⟨by simp; omega⟩, ⟨by simp; omega⟩, ?_⟩
  rw [hr]
  simp
end Go.Proofs.AM
namespace Go.Proofs.AM
open Go Go.Lib Cd
def webS : Str := [119, 101, 98]
def spotS : Str := [115, 112, 111, 116]
def sasS : Str := [115, 47, 97, 47, 115, 112, 111, 116]
def liveP (n : Str) (s : List SprV) : PodV := ⟨n, webS, 500, 1073741824, 0, [], [], s, [], [], 0, []⟩
def liveC : CoolV := ⟨⟨[115], [97], spotS⟩, 0⟩
def rackS : Str := [114, 97, 99, 107]
theorem nameB_list {s : Str} (h1 : 1 ≤ s.length) (h2 : s.length ≤ 16) (h3 : ∀ x ∈ s, small x) : nameB s = true :=
  nameB_true h1 h2 fun _ c hc => ⟨.inl (h3 c (List.mem_of_getElem? hc)), fun _ => h3 c (List.mem_of_getElem? hc)⟩
theorem name_web : nameB webS = true := nameB_list (by decide) (by decide) (by decide)
theorem name_x : nameB [120] = true := nameB_list (by decide) (by decide) (by decide)
theorem name_X : nameB [88] = false := nameB_false (k := 0) (c := 88) rfl (by decide)
theorem name_sa : nmB liveC.o = true := by
  unfold nmB liveC spotS
  simp only
  rw [show nameB [115] = true from nameB_list (by decide) (by decide) (by decide), show nameB [97] = true from nameB_list (by decide) (by decide) (by decide), show nameB [115, 112, 111, 116] = true from nameB_list (by decide) (by decide) (by decide)]; rfl
theorem amts_live : amtsE 500 1073741824 = 0 := by decide
theorem live_p : podE (liveP [120] []) = 0 := by
  unfold podE liveP
  simp only
  rw [name_x, name_web, amts_live]
  simp [reqsE, tolsE, tooE, scanE, allTE, sprsE, termsE, btw, noneB, firstI_cons]
theorem live_q : podE (liveP [88] []) = 7 := by
  unfold podE liveP
  simp only
  rw [name_X]
  rfl
theorem live_r : podE (liveP [120] [⟨rackS, webS, 1⟩]) = 1 := by
  unfold podE liveP
  simp only
  rw [name_x, name_web, amts_live]
  simp [reqsE, tolsE, tooE, scanE, allTE, sprsE, termsE, btw, noneB, firstI_cons, atE, sprE, termE, rackS, zoneS, hostS]
theorem live_c : cool1E liveC = 0 := by
  unfold cool1E
  rw [name_sa]
  simp [liveC, btw]
set_option maxRecDepth 100000 in
set_option maxHeartbeats 2000000 in
theorem live15_8 (R : Ans) (h16 : R.v 16 [.iface 42 (coolD liveC)] (.tup [mkS sasS, .int .i64 0])) (hp : R.v 21 [podD (liveP [120] [])] (.int .i64 0)) (hq : R.v 21 [podD (liveP [88] [])] (.int .i64 7))
    (hr : R.v 21 [podD (liveP [120] [⟨rackS, webS, 1⟩])] (.int .i64 1)) (h5 : R.v 19 [.iface 3 (.int .i64 5)] (.int .i64 1)) (hn : R.v 19 [.nili] (.int .i64 1)) : AnsF R c15 [] (.bool true) := by
  simp only [podD, podC, coolD, coolC, liveP, liveC, sasS, webS, spotS, rackS, List.map, sprD] at h16 hp hq hr
  refine wpF_sound ⟨rfl, by decide⟩ fun O hO V hV => ?_
  subst hV
  conv => cbv
  repeat' (first | (rintro (_ | _) hh <;> (first | replace hh := ci hO hh | replace hh := cs hO hh) <;> (dsimp only [CmpI, CmpS] at hh) <;> first | (exfalso; omega) | (exfalso; exact hh rfl) | (conv => cbv)) | (refine ⟨_, by assumption, ?_⟩; (conv => cbv)) | (refine And.intro (by first | assumption | exact ⟨rfl⟩ | exact ⟨rfl, rfl⟩) ?_))
  all_goals trivial
end Go.Proofs.AM
namespace Go.Proofs.AM
open Go Go.Lib Cd
set_option maxRecDepth 100000 in
set_option maxHeartbeats 2000000 in
theorem law3_pod (R : Ans) (x : AnyV) (s : Str) (e : Int) (hk : x.kind = 1) (h15 : R.v 15 [] (.bool true)) (h17 : R.v 17 [anyD x] (.iface 29 (podD x.pod))) (h16 : R.v 16 [.iface 29 (podD x.pod)] (.tup [mkS s, .int .i64 e])) (h18 : R.v 18 [anyD x] (.tup [mkS s, .int .i64 e]))
    (h19 : R.v 19 [.iface 29 (podD x.pod)] (.int .i64 e)) (h20 : R.v 20 [anyD x] (.int .i64 e)) (hown : R.v 21 [podD x.pod] (.int .i64 e)) : AnsF R c3 [anyD x] (.bool true) := by
  obtain ⟨kind, ⟨pn, pa, p0, p1, pp, prs, pts, pss, pns, pas, psi, pon⟩, ⟨wn, ww, w0, w1, wrs, wts, wg, we, wb, wm⟩, ⟨cn, cp, cg, ⟨ct, cz, ck⟩, cr, c0, c1, cos, ctr, cid, cph, cb, cm⟩, ⟨mc, mns, ms, mt, mf, mp, mos, mm⟩, ⟨⟨lt, lz, lk⟩, lu⟩⟩ := x
  simp only [anyD, podD, podC, poolD, poolC, claimD, claimC, cmdD, cmdC, coolD, coolC, List.cons_append, List.nil_append] at h16 h17 h18 h19 h20 hown hk ⊢
  obtain ⟨xr, hxr⟩ : ∃ xs, xs = prs.map reqD := ⟨_, rfl⟩
  have cxr : CleanL xr := cleanL_map clean_req hxr
  simp only [← hxr] at h16 h17 h18 h19 h20 hown ⊢
  clear hxr
  obtain ⟨xt, hxt⟩ : ∃ xs, xs = pts.map tolD := ⟨_, rfl⟩
  have cxt : CleanL xt := cleanL_map (fun _ => ⟨rfl, rfl⟩) hxt
  simp only [← hxt] at h16 h17 h18 h19 h20 hown ⊢
  clear hxt
  obtain ⟨xs, hxs⟩ : ∃ xs, xs = pss.map sprD := ⟨_, rfl⟩
  have cxs : CleanL xs := cleanL_map (fun _ => ⟨rfl, rfl⟩) hxs
  simp only [← hxs] at h16 h17 h18 h19 h20 hown ⊢
  clear hxs
  obtain ⟨xn, hxn⟩ : ∃ xs, xs = pns.map labD := ⟨_, rfl⟩
  have cxn : CleanL xn := cleanL_map (fun _ => ⟨rfl, rfl⟩) hxn
  simp only [← hxn] at h16 h17 h18 h19 h20 hown ⊢
  clear hxn
  obtain ⟨xa, hxa⟩ : ∃ xs, xs = pas.map labD := ⟨_, rfl⟩
  have cxa : CleanL xa := cleanL_map (fun _ => ⟨rfl, rfl⟩) hxa
  simp only [← hxa] at h16 h17 h18 h19 h20 hown ⊢
  clear hxa
  obtain ⟨yr, hyr⟩ : ∃ xs, xs = wrs.map reqD := ⟨_, rfl⟩
  have cyr : CleanL yr := cleanL_map clean_req hyr
  simp only [← hyr] at h16 h17 h18 h19 h20 hown ⊢
  clear hyr
  obtain ⟨yt, hyt⟩ : ∃ xs, xs = wts.map labD := ⟨_, rfl⟩
  have cyt : CleanL yt := cleanL_map (fun _ => ⟨rfl, rfl⟩) hyt
  simp only [← hyt] at h16 h17 h18 h19 h20 hown ⊢
  clear hyt
  obtain ⟨zo, hzo⟩ : ∃ xs, xs = cos.map offD := ⟨_, rfl⟩
  have czo : CleanL zo := cleanL_map (fun _ => ⟨rfl, rfl⟩) hzo
  simp only [← hzo] at h16 h17 h18 h19 h20 hown ⊢
  clear hzo
  obtain ⟨un, hun⟩ : ∃ xs, xs = mns.map mkS := ⟨_, rfl⟩
  have cun : CleanL un := cleanL_map clean_S hun
  simp only [← hun] at h16 h17 h18 h19 h20 hown ⊢
  clear hun
  obtain ⟨uo, huo⟩ : ∃ xs, xs = mos.map offD := ⟨_, rfl⟩
  have cuo : CleanL uo := cleanL_map (fun _ => ⟨rfl, rfl⟩) huo
  simp only [← huo] at h16 h17 h18 h19 h20 hown ⊢
  clear huo
  refine wpF_sound ⟨rfl, by decide⟩ fun O hO V hV => ?_
  subst hV
  conv => cbv
  repeat' (first | (rintro (_ | _) hh <;> (first | replace hh := ci hO hh | replace hh := cs hO hh) <;> (dsimp only [CmpI, CmpS] at hh) <;> first | (exfalso; omega) | (exfalso; exact hh rfl) | (conv => cbv)) | (refine ⟨_, by assumption, ?_⟩; (conv => cbv)) | (refine And.intro (by first | assumption | exact ⟨rfl⟩ | exact ⟨rfl, rfl⟩) ?_))
  all_goals trivial
set_option maxRecDepth 100000 in
set_option maxHeartbeats 2000000 in
theorem law3_pool (R : Ans) (x : AnyV) (s : Str) (e : Int) (hk : x.kind = 2) (h15 : R.v 15 [] (.bool true)) (h17 : R.v 17 [anyD x] (.iface 32 (poolD x.pool))) (h16 : R.v 16 [.iface 32 (poolD x.pool)] (.tup [mkS s, .int .i64 e])) (h18 : R.v 18 [anyD x] (.tup [mkS s, .int .i64 e]))
    (h19 : R.v 19 [.iface 32 (poolD x.pool)] (.int .i64 e)) (h20 : R.v 20 [anyD x] (.int .i64 e)) (hown : R.v 22 [poolD x.pool] (.int .i64 e)) : AnsF R c3 [anyD x] (.bool true) := by
  obtain ⟨kind, ⟨pn, pa, p0, p1, pp, prs, pts, pss, pns, pas, psi, pon⟩, ⟨wn, ww, w0, w1, wrs, wts, wg, we, wb, wm⟩, ⟨cn, cp, cg, ⟨ct, cz, ck⟩, cr, c0, c1, cos, ctr, cid, cph, cb, cm⟩, ⟨mc, mns, ms, mt, mf, mp, mos, mm⟩, ⟨⟨lt, lz, lk⟩, lu⟩⟩ := x
  simp only [anyD, podD, podC, poolD, poolC, claimD, claimC, cmdD, cmdC, coolD, coolC, List.cons_append, List.nil_append] at h16 h17 h18 h19 h20 hown hk ⊢
  obtain ⟨xr, hxr⟩ : ∃ xs, xs = prs.map reqD := ⟨_, rfl⟩
  have cxr : CleanL xr := cleanL_map clean_req hxr
  simp only [← hxr] at h16 h17 h18 h19 h20 hown ⊢
  clear hxr
  obtain ⟨xt, hxt⟩ : ∃ xs, xs = pts.map tolD := ⟨_, rfl⟩
  have cxt : CleanL xt := cleanL_map (fun _ => ⟨rfl, rfl⟩) hxt
  simp only [← hxt] at h16 h17 h18 h19 h20 hown ⊢
  clear hxt
  obtain ⟨xs, hxs⟩ : ∃ xs, xs = pss.map sprD := ⟨_, rfl⟩
  have cxs : CleanL xs := cleanL_map (fun _ => ⟨rfl, rfl⟩) hxs
  simp only [← hxs] at h16 h17 h18 h19 h20 hown ⊢
  clear hxs
  obtain ⟨xn, hxn⟩ : ∃ xs, xs = pns.map labD := ⟨_, rfl⟩
  have cxn : CleanL xn := cleanL_map (fun _ => ⟨rfl, rfl⟩) hxn
  simp only [← hxn] at h16 h17 h18 h19 h20 hown ⊢
  clear hxn
  obtain ⟨xa, hxa⟩ : ∃ xs, xs = pas.map labD := ⟨_, rfl⟩
  have cxa : CleanL xa := cleanL_map (fun _ => ⟨rfl, rfl⟩) hxa
  simp only [← hxa] at h16 h17 h18 h19 h20 hown ⊢
  clear hxa
  obtain ⟨yr, hyr⟩ : ∃ xs, xs = wrs.map reqD := ⟨_, rfl⟩
  have cyr : CleanL yr := cleanL_map clean_req hyr
  simp only [← hyr] at h16 h17 h18 h19 h20 hown ⊢
  clear hyr
  obtain ⟨yt, hyt⟩ : ∃ xs, xs = wts.map labD := ⟨_, rfl⟩
  have cyt : CleanL yt := cleanL_map (fun _ => ⟨rfl, rfl⟩) hyt
  simp only [← hyt] at h16 h17 h18 h19 h20 hown ⊢
  clear hyt
  obtain ⟨zo, hzo⟩ : ∃ xs, xs = cos.map offD := ⟨_, rfl⟩
  have czo : CleanL zo := cleanL_map (fun _ => ⟨rfl, rfl⟩) hzo
  simp only [← hzo] at h16 h17 h18 h19 h20 hown ⊢
  clear hzo
  obtain ⟨un, hun⟩ : ∃ xs, xs = mns.map mkS := ⟨_, rfl⟩
  have cun : CleanL un := cleanL_map clean_S hun
  simp only [← hun] at h16 h17 h18 h19 h20 hown ⊢
  clear hun
  obtain ⟨uo, huo⟩ : ∃ xs, xs = mos.map offD := ⟨_, rfl⟩
  have cuo : CleanL uo := cleanL_map (fun _ => ⟨rfl, rfl⟩) huo
  simp only [← huo] at h16 h17 h18 h19 h20 hown ⊢
  clear huo
  refine wpF_sound ⟨rfl, by decide⟩ fun O hO V hV => ?_
  subst hV
  conv => cbv
  repeat' (first | (rintro (_ | _) hh <;> (first | replace hh := ci hO hh | replace hh := cs hO hh) <;> (dsimp only [CmpI, CmpS] at hh) <;> first | (exfalso; omega) | (exfalso; exact hh rfl) | (conv => cbv)) | (refine ⟨_, by assumption, ?_⟩; (conv => cbv)) | (refine And.intro (by first | assumption | exact ⟨rfl⟩ | exact ⟨rfl, rfl⟩) ?_))
  all_goals trivial
set_option maxRecDepth 100000 in
set_option maxHeartbeats 2000000 in
theorem law3_claim (R : Ans) (x : AnyV) (s : Str) (e : Int) (hk : x.kind = 3) (h15 : R.v 15 [] (.bool true)) (h17 : R.v 17 [anyD x] (.iface 37 (claimD x.claim))) (h16 : R.v 16 [.iface 37 (claimD x.claim)] (.tup [mkS s, .int .i64 e])) (h18 : R.v 18 [anyD x] (.tup [mkS s, .int .i64 e]))
    (h19 : R.v 19 [.iface 37 (claimD x.claim)] (.int .i64 e)) (h20 : R.v 20 [anyD x] (.int .i64 e)) (hown : R.v 23 [claimD x.claim] (.int .i64 e)) : AnsF R c3 [anyD x] (.bool true) := by
  obtain ⟨kind, ⟨pn, pa, p0, p1, pp, prs, pts, pss, pns, pas, psi, pon⟩, ⟨wn, ww, w0, w1, wrs, wts, wg, we, wb, wm⟩, ⟨cn, cp, cg, ⟨ct, cz, ck⟩, cr, c0, c1, cos, ctr, cid, cph, cb, cm⟩, ⟨mc, mns, ms, mt, mf, mp, mos, mm⟩, ⟨⟨lt, lz, lk⟩, lu⟩⟩ := x
  simp only [anyD, podD, podC, poolD, poolC, claimD, claimC, cmdD, cmdC, coolD, coolC, List.cons_append, List.nil_append] at h16 h17 h18 h19 h20 hown hk ⊢
  obtain ⟨xr, hxr⟩ : ∃ xs, xs = prs.map reqD := ⟨_, rfl⟩
  have cxr : CleanL xr := cleanL_map clean_req hxr
  simp only [← hxr] at h16 h17 h18 h19 h20 hown ⊢
  clear hxr
  obtain ⟨xt, hxt⟩ : ∃ xs, xs = pts.map tolD := ⟨_, rfl⟩
  have cxt : CleanL xt := cleanL_map (fun _ => ⟨rfl, rfl⟩) hxt
  simp only [← hxt] at h16 h17 h18 h19 h20 hown ⊢
  clear hxt
  obtain ⟨xs, hxs⟩ : ∃ xs, xs = pss.map sprD := ⟨_, rfl⟩
  have cxs : CleanL xs := cleanL_map (fun _ => ⟨rfl, rfl⟩) hxs
  simp only [← hxs] at h16 h17 h18 h19 h20 hown ⊢
  clear hxs
  obtain ⟨xn, hxn⟩ : ∃ xs, xs = pns.map labD := ⟨_, rfl⟩
  have cxn : CleanL xn := cleanL_map (fun _ => ⟨rfl, rfl⟩) hxn
  simp only [← hxn] at h16 h17 h18 h19 h20 hown ⊢
  clear hxn
  obtain ⟨xa, hxa⟩ : ∃ xs, xs = pas.map labD := ⟨_, rfl⟩
  have cxa : CleanL xa := cleanL_map (fun _ => ⟨rfl, rfl⟩) hxa
  simp only [← hxa] at h16 h17 h18 h19 h20 hown ⊢
  clear hxa
  obtain ⟨yr, hyr⟩ : ∃ xs, xs = wrs.map reqD := ⟨_, rfl⟩
  have cyr : CleanL yr := cleanL_map clean_req hyr
  simp only [← hyr] at h16 h17 h18 h19 h20 hown ⊢
  clear hyr
  obtain ⟨yt, hyt⟩ : ∃ xs, xs = wts.map labD := ⟨_, rfl⟩
  have cyt : CleanL yt := cleanL_map (fun _ => ⟨rfl, rfl⟩) hyt
  simp only [← hyt] at h16 h17 h18 h19 h20 hown ⊢
  clear hyt
  obtain ⟨zo, hzo⟩ : ∃ xs, xs = cos.map offD := ⟨_, rfl⟩
  have czo : CleanL zo := cleanL_map (fun _ => ⟨rfl, rfl⟩) hzo
  simp only [← hzo] at h16 h17 h18 h19 h20 hown ⊢
  clear hzo
  obtain ⟨un, hun⟩ : ∃ xs, xs = mns.map mkS := ⟨_, rfl⟩
  have cun : CleanL un := cleanL_map clean_S hun
  simp only [← hun] at h16 h17 h18 h19 h20 hown ⊢
  clear hun
  obtain ⟨uo, huo⟩ : ∃ xs, xs = mos.map offD := ⟨_, rfl⟩
  have cuo : CleanL uo := cleanL_map (fun _ => ⟨rfl, rfl⟩) huo
  simp only [← huo] at h16 h17 h18 h19 h20 hown ⊢
  clear huo
  refine wpF_sound ⟨rfl, by decide⟩ fun O hO V hV => ?_
  subst hV
  conv => cbv
  repeat' (first | (rintro (_ | _) hh <;> (first | replace hh := ci hO hh | replace hh := cs hO hh) <;> (dsimp only [CmpI, CmpS] at hh) <;> first | (exfalso; omega) | (exfalso; exact hh rfl) | (conv => cbv)) | (refine ⟨_, by assumption, ?_⟩; (conv => cbv)) | (refine And.intro (by first | assumption | exact ⟨rfl⟩ | exact ⟨rfl, rfl⟩) ?_))
  all_goals trivial
set_option maxRecDepth 100000 in
set_option maxHeartbeats 2000000 in
theorem law3_cmd (R : Ans) (x : AnyV) (s : Str) (e : Int) (hk : x.kind = 4) (h15 : R.v 15 [] (.bool true)) (h17 : R.v 17 [anyD x] (.iface 40 (cmdD x.cmd))) (h16 : R.v 16 [.iface 40 (cmdD x.cmd)] (.tup [mkS s, .int .i64 e])) (h18 : R.v 18 [anyD x] (.tup [mkS s, .int .i64 e]))
    (h19 : R.v 19 [.iface 40 (cmdD x.cmd)] (.int .i64 e)) (h20 : R.v 20 [anyD x] (.int .i64 e)) (hown : R.v 24 [cmdD x.cmd] (.int .i64 e)) : AnsF R c3 [anyD x] (.bool true) := by
  obtain ⟨kind, ⟨pn, pa, p0, p1, pp, prs, pts, pss, pns, pas, psi, pon⟩, ⟨wn, ww, w0, w1, wrs, wts, wg, we, wb, wm⟩, ⟨cn, cp, cg, ⟨ct, cz, ck⟩, cr, c0, c1, cos, ctr, cid, cph, cb, cm⟩, ⟨mc, mns, ms, mt, mf, mp, mos, mm⟩, ⟨⟨lt, lz, lk⟩, lu⟩⟩ := x
  simp only [anyD, podD, podC, poolD, poolC, claimD, claimC, cmdD, cmdC, coolD, coolC, List.cons_append, List.nil_append] at h16 h17 h18 h19 h20 hown hk ⊢
  obtain ⟨xr, hxr⟩ : ∃ xs, xs = prs.map reqD := ⟨_, rfl⟩
  have cxr : CleanL xr := cleanL_map clean_req hxr
  simp only [← hxr] at h16 h17 h18 h19 h20 hown ⊢
  clear hxr
  obtain ⟨xt, hxt⟩ : ∃ xs, xs = pts.map tolD := ⟨_, rfl⟩
  have cxt : CleanL xt := cleanL_map (fun _ => ⟨rfl, rfl⟩) hxt
  simp only [← hxt] at h16 h17 h18 h19 h20 hown ⊢
  clear hxt
  obtain ⟨xs, hxs⟩ : ∃ xs, xs = pss.map sprD := ⟨_, rfl⟩
  have cxs : CleanL xs := cleanL_map (fun _ => ⟨rfl, rfl⟩) hxs
  simp only [← hxs] at h16 h17 h18 h19 h20 hown ⊢
  clear hxs
  obtain ⟨xn, hxn⟩ : ∃ xs, xs = pns.map labD := ⟨_, rfl⟩
  have cxn : CleanL xn := cleanL_map (fun _ => ⟨rfl, rfl⟩) hxn
  simp only [← hxn] at h16 h17 h18 h19 h20 hown ⊢
  clear hxn
  obtain ⟨xa, hxa⟩ : ∃ xs, xs = pas.map labD := ⟨_, rfl⟩
  have cxa : CleanL xa := cleanL_map (fun _ => ⟨rfl, rfl⟩) hxa
  simp only [← hxa] at h16 h17 h18 h19 h20 hown ⊢
  clear hxa
  obtain ⟨yr, hyr⟩ : ∃ xs, xs = wrs.map reqD := ⟨_, rfl⟩
  have cyr : CleanL yr := cleanL_map clean_req hyr
  simp only [← hyr] at h16 h17 h18 h19 h20 hown ⊢
  clear hyr
  obtain ⟨yt, hyt⟩ : ∃ xs, xs = wts.map labD := ⟨_, rfl⟩
  have cyt : CleanL yt := cleanL_map (fun _ => ⟨rfl, rfl⟩) hyt
  simp only [← hyt] at h16 h17 h18 h19 h20 hown ⊢
  clear hyt
  obtain ⟨zo, hzo⟩ : ∃ xs, xs = cos.map offD := ⟨_, rfl⟩
  have czo : CleanL zo := cleanL_map (fun _ => ⟨rfl, rfl⟩) hzo
  simp only [← hzo] at h16 h17 h18 h19 h20 hown ⊢
  clear hzo
  obtain ⟨un, hun⟩ : ∃ xs, xs = mns.map mkS := ⟨_, rfl⟩
  have cun : CleanL un := cleanL_map clean_S hun
  simp only [← hun] at h16 h17 h18 h19 h20 hown ⊢
  clear hun
  obtain ⟨uo, huo⟩ : ∃ xs, xs = mos.map offD := ⟨_, rfl⟩
  have cuo : CleanL uo := cleanL_map (fun _ => ⟨rfl, rfl⟩) huo
  simp only [← huo] at h16 h17 h18 h19 h20 hown ⊢
  clear huo
  refine wpF_sound ⟨rfl, by decide⟩ fun O hO V hV => ?_
  subst hV
  conv => cbv
  repeat' (first | (rintro (_ | _) hh <;> (first | replace hh := ci hO hh | replace hh := cs hO hh) <;> (dsimp only [CmpI, CmpS] at hh) <;> first | (exfalso; omega) | (exfalso; exact hh rfl) | (conv => cbv)) | (refine ⟨_, by assumption, ?_⟩; (conv => cbv)) | (refine And.intro (by first | assumption | exact ⟨rfl⟩ | exact ⟨rfl, rfl⟩) ?_))
  all_goals trivial
set_option maxRecDepth 100000 in
set_option maxHeartbeats 2000000 in
theorem law3_cool (R : Ans) (x : AnyV) (s : Str) (e : Int) (hk : x.kind = 5) (h15 : R.v 15 [] (.bool true)) (h17 : R.v 17 [anyD x] (.iface 42 (coolD x.cool))) (h16 : R.v 16 [.iface 42 (coolD x.cool)] (.tup [mkS s, .int .i64 e])) (h18 : R.v 18 [anyD x] (.tup [mkS s, .int .i64 e]))
    (h19 : R.v 19 [.iface 42 (coolD x.cool)] (.int .i64 e)) (h20 : R.v 20 [anyD x] (.int .i64 e)) : AnsF R c3 [anyD x] (.bool true) := by
  obtain ⟨kind, ⟨pn, pa, p0, p1, pp, prs, pts, pss, pns, pas, psi, pon⟩, ⟨wn, ww, w0, w1, wrs, wts, wg, we, wb, wm⟩, ⟨cn, cp, cg, ⟨ct, cz, ck⟩, cr, c0, c1, cos, ctr, cid, cph, cb, cm⟩, ⟨mc, mns, ms, mt, mf, mp, mos, mm⟩, ⟨⟨lt, lz, lk⟩, lu⟩⟩ := x
  simp only [anyD, podD, podC, poolD, poolC, claimD, claimC, cmdD, cmdC, coolD, coolC, List.cons_append, List.nil_append] at h16 h17 h18 h19 h20 hk ⊢
  obtain ⟨xr, hxr⟩ : ∃ xs, xs = prs.map reqD := ⟨_, rfl⟩
  have cxr : CleanL xr := cleanL_map clean_req hxr
  simp only [← hxr] at h16 h17 h18 h19 h20 ⊢
  clear hxr
  obtain ⟨xt, hxt⟩ : ∃ xs, xs = pts.map tolD := ⟨_, rfl⟩
  have cxt : CleanL xt := cleanL_map (fun _ => ⟨rfl, rfl⟩) hxt
  simp only [← hxt] at h16 h17 h18 h19 h20 ⊢
  clear hxt
  obtain ⟨xs, hxs⟩ : ∃ xs, xs = pss.map sprD := ⟨_, rfl⟩
  have cxs : CleanL xs := cleanL_map (fun _ => ⟨rfl, rfl⟩) hxs
  simp only [← hxs] at h16 h17 h18 h19 h20 ⊢
  clear hxs
  obtain ⟨xn, hxn⟩ : ∃ xs, xs = pns.map labD := ⟨_, rfl⟩
  have cxn : CleanL xn := cleanL_map (fun _ => ⟨rfl, rfl⟩) hxn
  simp only [← hxn] at h16 h17 h18 h19 h20 ⊢
  clear hxn
  obtain ⟨xa, hxa⟩ : ∃ xs, xs = pas.map labD := ⟨_, rfl⟩
  have cxa : CleanL xa := cleanL_map (fun _ => ⟨rfl, rfl⟩) hxa
  simp only [← hxa] at h16 h17 h18 h19 h20 ⊢
  clear hxa
  obtain ⟨yr, hyr⟩ : ∃ xs, xs = wrs.map reqD := ⟨_, rfl⟩
  have cyr : CleanL yr := cleanL_map clean_req hyr
  simp only [← hyr] at h16 h17 h18 h19 h20 ⊢
  clear hyr
  obtain ⟨yt, hyt⟩ : ∃ xs, xs = wts.map labD := ⟨_, rfl⟩
  have cyt : CleanL yt := cleanL_map (fun _ => ⟨rfl, rfl⟩) hyt
  simp only [← hyt] at h16 h17 h18 h19 h20 ⊢
  clear hyt
  obtain ⟨zo, hzo⟩ : ∃ xs, xs = cos.map offD := ⟨_, rfl⟩
  have czo : CleanL zo := cleanL_map (fun _ => ⟨rfl, rfl⟩) hzo
  simp only [← hzo] at h16 h17 h18 h19 h20 ⊢
  clear hzo
  obtain ⟨un, hun⟩ : ∃ xs, xs = mns.map mkS := ⟨_, rfl⟩
  have cun : CleanL un := cleanL_map clean_S hun
  simp only [← hun] at h16 h17 h18 h19 h20 ⊢
  clear hun
  obtain ⟨uo, huo⟩ : ∃ xs, xs = mos.map offD := ⟨_, rfl⟩
  have cuo : CleanL uo := cleanL_map (fun _ => ⟨rfl, rfl⟩) huo
  simp only [← huo] at h16 h17 h18 h19 h20 ⊢
  clear huo
  refine wpF_sound ⟨rfl, by decide⟩ fun O hO V hV => ?_
  subst hV
  conv => cbv
  repeat' (first | (rintro (_ | _) hh <;> (first | replace hh := ci hO hh | replace hh := cs hO hh) <;> (dsimp only [CmpI, CmpS] at hh) <;> first | (exfalso; omega) | (exfalso; exact hh rfl) | (conv => cbv)) | (refine ⟨_, by assumption, ?_⟩; (conv => cbv)) | (refine And.intro (by first | assumption | exact ⟨rfl⟩ | exact ⟨rfl, rfl⟩) ?_))
  all_goals trivial
set_option maxRecDepth 100000 in
set_option maxHeartbeats 2000000 in
theorem law3_int (R : Ans) (x : AnyV) (s : Str) (e : Int) (hk : ¬ x.kind = 1 ∧ ¬ x.kind = 2 ∧ ¬ x.kind = 3 ∧ ¬ x.kind = 4) (h15 : R.v 15 [] (.bool true)) (h17 : R.v 17 [anyD x] (.iface 3 (.int .i64 x.kind))) (h16 : R.v 16 [.iface 3 (.int .i64 x.kind)] (.tup [mkS s, .int .i64 e])) (h18 : R.v 18 [anyD x] (.tup [mkS s, .int .i64 e]))
    (h19 : R.v 19 [.iface 3 (.int .i64 x.kind)] (.int .i64 e)) (h20 : R.v 20 [anyD x] (.int .i64 e)) : AnsF R c3 [anyD x] (.bool true) := by
  obtain ⟨kind, ⟨pn, pa, p0, p1, pp, prs, pts, pss, pns, pas, psi, pon⟩, ⟨wn, ww, w0, w1, wrs, wts, wg, we, wb, wm⟩, ⟨cn, cp, cg, ⟨ct, cz, ck⟩, cr, c0, c1, cos, ctr, cid, cph, cb, cm⟩, ⟨mc, mns, ms, mt, mf, mp, mos, mm⟩, ⟨⟨lt, lz, lk⟩, lu⟩⟩ := x
  simp only [anyD, podD, podC, poolD, poolC, claimD, claimC, cmdD, cmdC, coolD, coolC, List.cons_append, List.nil_append] at h16 h17 h18 h19 h20 hk ⊢
  obtain ⟨xr, hxr⟩ : ∃ xs, xs = prs.map reqD := ⟨_, rfl⟩
  have cxr : CleanL xr := cleanL_map clean_req hxr
  simp only [← hxr] at h16 h17 h18 h19 h20 ⊢
  clear hxr
  obtain ⟨xt, hxt⟩ : ∃ xs, xs = pts.map tolD := ⟨_, rfl⟩
  have cxt : CleanL xt := cleanL_map (fun _ => ⟨rfl, rfl⟩) hxt
  simp only [← hxt] at h16 h17 h18 h19 h20 ⊢
  clear hxt
  obtain ⟨xs, hxs⟩ : ∃ xs, xs = pss.map sprD := ⟨_, rfl⟩
  have cxs : CleanL xs := cleanL_map (fun _ => ⟨rfl, rfl⟩) hxs
  simp only [← hxs] at h16 h17 h18 h19 h20 ⊢
  clear hxs
  obtain ⟨xn, hxn⟩ : ∃ xs, xs = pns.map labD := ⟨_, rfl⟩
  have cxn : CleanL xn := cleanL_map (fun _ => ⟨rfl, rfl⟩) hxn
  simp only [← hxn] at h16 h17 h18 h19 h20 ⊢
  clear hxn
  obtain ⟨xa, hxa⟩ : ∃ xs, xs = pas.map labD := ⟨_, rfl⟩
  have cxa : CleanL xa := cleanL_map (fun _ => ⟨rfl, rfl⟩) hxa
  simp only [← hxa] at h16 h17 h18 h19 h20 ⊢
  clear hxa
  obtain ⟨yr, hyr⟩ : ∃ xs, xs = wrs.map reqD := ⟨_, rfl⟩
  have cyr : CleanL yr := cleanL_map clean_req hyr
  simp only [← hyr] at h16 h17 h18 h19 h20 ⊢
  clear hyr
  obtain ⟨yt, hyt⟩ : ∃ xs, xs = wts.map labD := ⟨_, rfl⟩
  have cyt : CleanL yt := cleanL_map (fun _ => ⟨rfl, rfl⟩) hyt
  simp only [← hyt] at h16 h17 h18 h19 h20 ⊢
  clear hyt
  obtain ⟨zo, hzo⟩ : ∃ xs, xs = cos.map offD := ⟨_, rfl⟩
  have czo : CleanL zo := cleanL_map (fun _ => ⟨rfl, rfl⟩) hzo
  simp only [← hzo] at h16 h17 h18 h19 h20 ⊢
  clear hzo
  obtain ⟨un, hun⟩ : ∃ xs, xs = mns.map mkS := ⟨_, rfl⟩
  have cun : CleanL un := cleanL_map clean_S hun
  simp only [← hun] at h16 h17 h18 h19 h20 ⊢
  clear hun
  obtain ⟨uo, huo⟩ : ∃ xs, xs = mos.map offD := ⟨_, rfl⟩
  have cuo : CleanL uo := cleanL_map (fun _ => ⟨rfl, rfl⟩) huo
  simp only [← huo] at h16 h17 h18 h19 h20 ⊢
  clear huo
  refine wpF_sound ⟨rfl, by decide⟩ fun O hO V hV => ?_
  subst hV
  conv => cbv
  repeat' (first | (rintro (_ | _) hh <;> (first | replace hh := ci hO hh | replace hh := cs hO hh) <;> (dsimp only [CmpI, CmpS] at hh) <;> first | (exfalso; omega) | (exfalso; exact hh rfl) | (conv => cbv)) | (refine ⟨_, by assumption, ?_⟩; (conv => cbv)) | (refine And.intro (by first | assumption | exact ⟨rfl⟩ | exact ⟨rfl, rfl⟩) ?_))
  all_goals trivial
end Go.Proofs.AM
namespace Go.Proofs.AM
open Go Go.Lib Cd
set_option maxRecDepth 100000 in
set_option maxHeartbeats 2000000 in
theorem law4_ok (R : Ans) (p : PodV) (w : Int) (hF : FPod p) (hw : FI w) (h15 : R.v 15 [] (.bool true)) (h21 : ∀ p, FPod p → R.v 21 [podD p] (.int .i64 (podE p))) : AnsF R c4 [podD p, .int .i64 w] (.bool true) := by
  have k1 := h21 p hF
  have kq : ∀ n : Nat, podE p = 0 → R.v 21 [podD (lessP n p)] (.int .i64 0) := fun n h => by
    have := h21 _ (fpod_less n hF)
    rwa [pod_less n h] at this
  have hz := @pod_lens p
  obtain ⟨e, he⟩ : ∃ e, e = podE p := ⟨_, rfl⟩
  rw [← he] at k1 kq hz
  clear he h21
  obtain ⟨name, app, n0, n1, prio, reqs, tols, spr, near, apart, since, on⟩ := p
  simp only [lessP, podD, podC] at k1 kq hz ⊢
  obtain ⟨n, hn⟩ : ∃ n : Nat, n = (w.tmod 8).natAbs := ⟨_, rfl⟩
  have hn8 : n < 8 := by
    have h1 := Int.tmod_lt_of_pos w (show (0 : Int) < 8 by omega)
    have h2 : -8 < w.tmod 8 := by
      have := Int.tmod_lt_of_pos (-w) (show (0 : Int) < 8 by omega)
      rw [Int.neg_tmod] at this
      omega
    omega
  replace kq := kq n
  obtain ⟨rs, hrs⟩ : ∃ xs, xs = reqs.map reqD := ⟨_, rfl⟩
  obtain ⟨ts, hts⟩ : ∃ xs, xs = tols.map tolD := ⟨_, rfl⟩
  obtain ⟨ss, hss⟩ : ∃ xs, xs = spr.map sprD := ⟨_, rfl⟩
  obtain ⟨ns, hns⟩ : ∃ xs, xs = near.map labD := ⟨_, rfl⟩
  obtain ⟨aps, has⟩ : ∃ xs, xs = apart.map labD := ⟨_, rfl⟩
  have c1 : CleanL rs := cleanL_map clean_req hrs
  have c2 : CleanL ts := cleanL_map (fun _ => ⟨rfl, rfl⟩) hts
  have c3 : CleanL ss := cleanL_map (fun _ => ⟨rfl, rfl⟩) hss
  have c4 : CleanL ns := cleanL_map (fun _ => ⟨rfl, rfl⟩) hns
  have c5 : CleanL aps := cleanL_map (fun _ => ⟨rfl, rfl⟩) has
  have kq2 : ∀ a b c d : List D, e = 0 → a = (less n reqs).map reqD → b = (less n tols).map tolD → c = (less n spr).map sprD → d = (less n near).map labD →
      R.v 21 [.agg [mkS name, mkS app, .int .i64 n0, .int .i64 n1, .int .i64 prio, .sl 4 false a, .sl 3 false b, .sl 3 false c, .sl 2 false d, .sl 2 false aps, .int .i64 since, mkS on]] (.int .i64 0) := by
    rintro a b c d h rfl rfl rfl rfl
    rw [has]
    exact kq h
  simp only [← hrs, ← hts, ← hss, ← hns, ← has] at k1 ⊢
  clear kq has hF
  refine wpF_sound ⟨rfl, by decide⟩ fun O hO V hV => ?_
  subst hV
  have g1 : O .len rs = reqs.length := by rw [o_len hO, hrs]; simp
  have g2 : O .len ts = tols.length := by rw [o_len hO, hts]; simp
  have g3 : O .len ss = spr.length := by rw [o_len hO, hss]; simp
  have g4 : O .len ns = near.length := by rw [o_len hO, hns]; simp
  conv => cbv
  refine ⟨_, h15, ?_⟩
  conv => cbv
  repeat' (refine And.intro (by first | assumption | exact ⟨rfl⟩ | exact ⟨rfl, rfl⟩) ?_)
  refine ⟨_, k1, ?_⟩
  conv => cbv
  rintro (_ | _) h1 <;> replace h1 := ci hO h1 <;> dsimp only [CmpI] at h1
  case true =>
    conv => cbv
    trivial
  conv => cbv
  have hrem : O .iop .rem .i64 w 8 = w.tmod 8 := o_rem hO _ _ _ (by decide)
  have hneg : O .neg .neg .i64 (w.tmod 8) = - w.tmod 8 := by rw [o_neg hO, wrap_i64 (by omega) (by omega)]; omega
  have hN : O .mx true (O .iop .rem .i64 w 8) (O .neg .neg .i64 (O .iop .rem .i64 w 8)) = n := by rw [hrem, hneg, o_max hO]; omega
  obtain ⟨m, hm⟩ : ∃ m, m = O .mx true (O .iop .rem .i64 w 8) (O .neg .neg .i64 (O .iop .rem .i64 w 8)) := ⟨_, rfl⟩
  rw [← hm]
  rw [hN] at hm
  clear hN hneg hrem hn
  have hadd : O .iop .add .i64 m 1 = m + 1 := o_add64 hO (by omega) (by omega)
  obtain ⟨z1, z2, z3, z4⟩ := hz h1
  all_goals
    rintro (_ | _) q1 <;> replace q1 := ci hO q1 <;> dsimp only [CmpI] at q1 <;> rw [g1] at q1 <;> conv => cbv
    all_goals first
      | have p1 : rs = (less n reqs).map reqD := by rw [less_ge (by omega), hrs]
      | have ua : O .subL rs 0 m = (reqs.take n).map reqD := by rw [o_subL hO, hrs, hm, List.map_take]; simp
        have ub : O .subL rs (O .iop .add .i64 m 1) (O .len rs) = (reqs.drop (n + 1)).map reqD := by rw [o_subL hO, hadd, g1, hrs, hm, List.take_of_length_le (by simp), List.map_drop]; congr 1
        obtain ⟨a1, ha⟩ : ∃ a, a = O .subL rs 0 m := ⟨_, rfl⟩
        obtain ⟨b1, hb⟩ : ∃ b, b = O .subL rs (O .iop .add .i64 m 1) (O .len rs) := ⟨_, rfl⟩
        rw [← ha, ← hb]
        rw [← ha] at ua
        rw [← hb] at ub
        have la : O .len a1 = n := by rw [o_len hO, ua]; simp; omega
        have lb : O .len b1 = reqs.length - (n + 1) := by rw [o_len hO, ub]; simp; omega
        have p1 : O .app a1 b1 = (less n reqs).map reqD := by rw [o_app hO, ua, ub, less, List.map_append]
        have cc1 : CleanL (O .app a1 b1) := cleanL_map clean_req p1
        have ca : CleanL a1 := cleanL_map clean_req ua
        have cb : CleanL b1 := cleanL_map clean_req ub
        clear ha hb ua ub
        refine ⟨⟨by omega⟩, ⟨by omega⟩, ⟨by rw [g1]; omega⟩, ⟨ca.c⟩, ⟨by rw [la]; omega⟩, ⟨by rw [hadd]; omega⟩, ⟨by rw [hadd, g1]; omega⟩, ⟨by omega⟩, ⟨cb.c⟩, ⟨by show (O .len a1 + O .len b1) * 56 ≤ 140737488355328; rw [la, lb]; omega⟩, ?_⟩
        clear la lb
  all_goals
    rintro (_ | _) q2 <;> replace q2 := ci hO q2 <;> dsimp only [CmpI] at q2 <;> rw [g2] at q2 <;> conv => cbv
    all_goals first
      | have p2 : ts = (less n tols).map tolD := by rw [less_ge (by omega), hts]
      | have ua : O .subL ts 0 m = (tols.take n).map tolD := by rw [o_subL hO, hts, hm, List.map_take]; simp
        have ub : O .subL ts (O .iop .add .i64 m 1) (O .len ts) = (tols.drop (n + 1)).map tolD := by rw [o_subL hO, hadd, g2, hts, hm, List.take_of_length_le (by simp), List.map_drop]; congr 1
        obtain ⟨a2, ha⟩ : ∃ a, a = O .subL ts 0 m := ⟨_, rfl⟩
        obtain ⟨b2, hb⟩ : ∃ b, b = O .subL ts (O .iop .add .i64 m 1) (O .len ts) := ⟨_, rfl⟩
        rw [← ha, ← hb]
        rw [← ha] at ua
        rw [← hb] at ub
        have la : O .len a2 = n := by rw [o_len hO, ua]; simp; omega
        have lb : O .len b2 = tols.length - (n + 1) := by rw [o_len hO, ub]; simp; omega
        have p2 : O .app a2 b2 = (less n tols).map tolD := by rw [o_app hO, ua, ub, less, List.map_append]
        have cc2 : CleanL (O .app a2 b2) := cleanL_map (fun _ => ⟨rfl, rfl⟩) p2
        have ca : CleanL a2 := cleanL_map (fun _ => ⟨rfl, rfl⟩) ua
        have cb : CleanL b2 := cleanL_map (fun _ => ⟨rfl, rfl⟩) ub
        clear ha hb ua ub
        refine ⟨⟨by omega⟩, ⟨by omega⟩, ⟨by rw [g2]; omega⟩, ⟨ca.c⟩, ⟨by rw [la]; omega⟩, ⟨by rw [hadd]; omega⟩, ⟨by rw [hadd, g2]; omega⟩, ⟨by omega⟩, ⟨cb.c⟩, ⟨by show (O .len a2 + O .len b2) * 40 ≤ 140737488355328; rw [la, lb]; omega⟩, ?_⟩
        clear la lb
  all_goals
    rintro (_ | _) q3 <;> replace q3 := ci hO q3 <;> dsimp only [CmpI] at q3 <;> rw [g3] at q3 <;> conv => cbv
    all_goals first
      | have p3 : ss = (less n spr).map sprD := by rw [less_ge (by omega), hss]
      | have ua : O .subL ss 0 m = (spr.take n).map sprD := by rw [o_subL hO, hss, hm, List.map_take]; simp
        have ub : O .subL ss (O .iop .add .i64 m 1) (O .len ss) = (spr.drop (n + 1)).map sprD := by rw [o_subL hO, hadd, g3, hss, hm, List.take_of_length_le (by simp), List.map_drop]; congr 1
        obtain ⟨a3, ha⟩ : ∃ a, a = O .subL ss 0 m := ⟨_, rfl⟩
        obtain ⟨b3, hb⟩ : ∃ b, b = O .subL ss (O .iop .add .i64 m 1) (O .len ss) := ⟨_, rfl⟩
        rw [← ha, ← hb]
        rw [← ha] at ua
        rw [← hb] at ub
        have la : O .len a3 = n := by rw [o_len hO, ua]; simp; omega
        have lb : O .len b3 = spr.length - (n + 1) := by rw [o_len hO, ub]; simp; omega
        have p3 : O .app a3 b3 = (less n spr).map sprD := by rw [o_app hO, ua, ub, less, List.map_append]
        have cc3 : CleanL (O .app a3 b3) := cleanL_map (fun _ => ⟨rfl, rfl⟩) p3
        have ca : CleanL a3 := cleanL_map (fun _ => ⟨rfl, rfl⟩) ua
        have cb : CleanL b3 := cleanL_map (fun _ => ⟨rfl, rfl⟩) ub
        clear ha hb ua ub
        refine ⟨⟨by omega⟩, ⟨by omega⟩, ⟨by rw [g3]; omega⟩, ⟨ca.c⟩, ⟨by rw [la]; omega⟩, ⟨by rw [hadd]; omega⟩, ⟨by rw [hadd, g3]; omega⟩, ⟨by omega⟩, ⟨cb.c⟩, ⟨by show (O .len a3 + O .len b3) * 40 ≤ 140737488355328; rw [la, lb]; omega⟩, ?_⟩
        clear la lb
  all_goals
    rintro (_ | _) q4 <;> replace q4 := ci hO q4 <;> dsimp only [CmpI] at q4 <;> rw [g4] at q4 <;> conv => cbv
    all_goals first
      | have p4 : ns = (less n near).map labD := by rw [less_ge (by omega), hns]
      | have ua : O .subL ns 0 m = (near.take n).map labD := by rw [o_subL hO, hns, hm, List.map_take]; simp
        have ub : O .subL ns (O .iop .add .i64 m 1) (O .len ns) = (near.drop (n + 1)).map labD := by rw [o_subL hO, hadd, g4, hns, hm, List.take_of_length_le (by simp), List.map_drop]; congr 1
        obtain ⟨a4, ha⟩ : ∃ a, a = O .subL ns 0 m := ⟨_, rfl⟩
        obtain ⟨b4, hb⟩ : ∃ b, b = O .subL ns (O .iop .add .i64 m 1) (O .len ns) := ⟨_, rfl⟩
        rw [← ha, ← hb]
        rw [← ha] at ua
        rw [← hb] at ub
        have la : O .len a4 = n := by rw [o_len hO, ua]; simp; omega
        have lb : O .len b4 = near.length - (n + 1) := by rw [o_len hO, ub]; simp; omega
        have p4 : O .app a4 b4 = (less n near).map labD := by rw [o_app hO, ua, ub, less, List.map_append]
        have cc4 : CleanL (O .app a4 b4) := cleanL_map (fun _ => ⟨rfl, rfl⟩) p4
        have ca : CleanL a4 := cleanL_map (fun _ => ⟨rfl, rfl⟩) ua
        have cb : CleanL b4 := cleanL_map (fun _ => ⟨rfl, rfl⟩) ub
        clear ha hb ua ub
        refine ⟨⟨by omega⟩, ⟨by omega⟩, ⟨by rw [g4]; omega⟩, ⟨ca.c⟩, ⟨by rw [la]; omega⟩, ⟨by rw [hadd]; omega⟩, ⟨by rw [hadd, g4]; omega⟩, ⟨by omega⟩, ⟨cb.c⟩, ⟨by show (O .len a4 + O .len b4) * 32 ≤ 140737488355328; rw [la, lb]; omega⟩, ?_⟩
        clear la lb
  all_goals
    repeat' (refine And.intro (by first | assumption | exact ⟨rfl⟩ | exact ⟨rfl, rfl⟩) ?_)
    refine ⟨_, kq2 _ _ _ _ h1 p1 p2 p3 p4, ?_⟩
    conv => cbv
    rintro (_ | _) hh <;> replace hh := ci hO hh <;> dsimp only [CmpI] at hh
    case false => exact absurd rfl hh
    conv => cbv
    trivial
set_option maxRecDepth 100000 in
set_option maxHeartbeats 2000000 in
theorem law5_ok (R : Ans) (c : CmdV) (hF : FCmd c) (h15 : R.v 15 [] (.bool true)) (h24 : ∀ c, FCmd c → R.v 24 [cmdD c] (.int .i64 (cmdE c))) : AnsF R c5 [cmdD c] (.bool true) := by
  have k1 := h24 c hF
  have hlt : c.nodes.length < 4611686018427387904 := by have := hF.nodes.len; omega
  have hc := @cmd_nodes c
  have kq : ∀ x ∈ c.nodes, cmdE c = 0 → R.v 24 [cmdD (oneC x c)] (.int .i64 0) := fun x hx h => by
    have := h24 (oneC x c) ⟨hF.cause, ⟨by simp [oneC], by simpa [oneC] using hF.nodes.all x hx⟩, hF.stp, hF.til, hF.fresh, hF.pool, hF.opts⟩
    rwa [(hc h).2.2.2 x hx] at this
  obtain ⟨e, he⟩ : ∃ e, e = cmdE c := ⟨_, rfl⟩
  rw [← he] at k1 kq hc
  clear he h24 hF
  obtain ⟨cause, nodes, stp, til, fresh, pool, opts, made⟩ := c
  simp only [oneC, cmdD, cmdC, List.map] at k1 kq hc hlt ⊢
  obtain ⟨ns, hns⟩ : ∃ xs, xs = nodes.map mkS := ⟨_, rfl⟩
  obtain ⟨os, hos⟩ : ∃ xs, xs = opts.map offD := ⟨_, rfl⟩
  have c1 : CleanL ns := cleanL_map clean_S hns
  have c2 : CleanL os := cleanL_map (fun _ => ⟨rfl, rfl⟩) hos
  simp only [← hos] at k1 kq ⊢
  rw [← hns] at k1 ⊢
  clear hos
  refine wpF_sound ⟨rfl, by decide⟩ fun O hO V hV => ?_
  subst hV
  have hlen : O .len ns = nodes.length := by rw [o_len hO, hns]; simp
  conv => cbv
  refine ⟨_, h15, ?_⟩
  conv => cbv
  repeat' (refine And.intro (by first | assumption | exact ⟨rfl⟩ | exact ⟨rfl, rfl⟩) ?_)
  refine ⟨_, k1, ?_⟩
  conv => cbv
  rintro (_ | _) h1 <;> replace h1 := ci hO h1 <;> dsimp only [CmpI] at h1
  case true =>
    conv => cbv
    trivial
  obtain ⟨m1, m2, m3, m4⟩ := hc h1
  conv => cbv
  refine loop_of (fun n d => ∃ (i : Int) (k : Nat), d = ⟨[(1, .ptr 1 1 0), (3, .bool true), (13, .sl 1 false ns), (14, .int .i64 (O .len ns)), (15, .int .i64 i)], [(1, ⟨1, .rw, .var, [.int .i64 cause, .sl 1 false ns, .int .i64 stp, .int .i64 til, mkS fresh, mkS pool, .sl 3 false os, .bool made]⟩)], false⟩ ∧ i = k ∧ k ≤ nodes.length ∧ n = nodes.length - k) ⟨_, _, ⟨_, 0, rfl, rfl, by omega, rfl⟩, ⟨⟨rfl, rfl, rfl, rfl, rfl, trivial⟩, ⟨rfl, trivial⟩, rfl⟩⟩ ?_
  rintro J up n d ⟨i, k, rfl, hi, hk, rfl⟩
  conv => cbv
  rintro (_ | _) h7
  · replace h7 := f_lss hO h7
    rw [hlen] at h7
    conv => cbv
    rintro (_ | _) h8 <;> replace h8 := ci hO h8 <;> dsimp only [CmpI] at h8 <;> rw [hlen] at h8
    · conv => cbv
      exfalso; omega
    conv => cbv
    rintro (_ | _) h9 <;> replace h9 := ci hO h9 <;> dsimp only [CmpI] at h9 <;> rw [hlen] at h9
    · conv => cbv
      exfalso; omega
    conv => cbv
    trivial
  · replace h7 := t_lss hO h7
    rw [hlen] at h7
    obtain ⟨y, hy⟩ : ∃ y, nodes[k]? = some y := ⟨_, List.getElem?_eq_getElem (by omega)⟩
    have hat : atX ns i (mkS y) := atX_map hy hns hi
    have kk := kq y (List.mem_of_getElem? hy) h1
    conv => cbv
    refine ⟨_, hat, ?_⟩
    conv => cbv
    rintro (_ | _) h8 <;> replace h8 := ci hO h8 <;> dsimp only [CmpI] at h8
    case false =>
      conv => cbv
      intro g6
      conv => cbv
      intro g34
      conv => cbv
      repeat' (refine And.intro (by first | assumption | exact ⟨rfl⟩ | exact ⟨rfl, rfl⟩) ?_)
      refine ⟨_, kk, ?_⟩
      conv => cbv
      rintro (_ | _) hh <;> replace hh := ci hO hh <;> dsimp only [CmpI] at hh
      case true => exact absurd rfl hh
      conv => cbv
      exact ⟨_, _, up _ _ ⟨_, k + 1, rfl, by rw [o_add64 hO (by omega) (by omega)]; omega, by omega, rfl⟩, ⟨⟨rfl, rfl, rfl, rfl, rfl, trivial⟩, ⟨rfl, trivial⟩, rfl⟩, by omega⟩
    obtain ⟨p, hp⟩ : ∃ p, nodes[k - 1]? = some p := ⟨_, List.getElem?_eq_getElem (by omega)⟩
    have hsub : O .iop .sub .i64 i 1 = ((k - 1 : Nat) : Int) := by rw [o_sub64 hO (by omega) (by omega)]; omega
    have hat2 : atX ns (O .iop .sub .i64 i 1) (mkS p) := atX_map hp hns hsub
    have hlt2 : p < y := m3 (k - 1) p y hp (by rw [show k - 1 + 1 = k by omega]; exact hy)
    conv => cbv
    refine ⟨_, hat2, ?_⟩
    conv => cbv
    rintro (_ | _) h9 <;> replace h9 := cs hO h9 <;> dsimp only [CmpS] at h9
    case true => exact absurd hlt2 h9
    conv => cbv
    intro g6
    conv => cbv
    intro g34
    conv => cbv
    repeat' (refine And.intro (by first | assumption | exact ⟨rfl⟩ | exact ⟨rfl, rfl⟩) ?_)
    refine ⟨_, kk, ?_⟩
    conv => cbv
    rintro (_ | _) hh <;> replace hh := ci hO hh <;> dsimp only [CmpI] at hh
    case true => exact absurd rfl hh
    conv => cbv
    exact ⟨_, _, up _ _ ⟨_, k + 1, rfl, by rw [o_add64 hO (by omega) (by omega)]; omega, by omega, rfl⟩, ⟨⟨rfl, rfl, rfl, rfl, rfl, trivial⟩, ⟨rfl, trivial⟩, rfl⟩, by omega⟩
end Go.Proofs.AM
namespace Go.Proofs.AM
open Go Go.Lib Cd
set_option maxRecDepth 100000 in
set_option maxHeartbeats 4000000 in
theorem cool47_ok (R : Ans) (l : List CoolV) (hl : l.length < 4611686018427387904) (hf : FLs FCool l) (h108 : ∀ c, FO c.o → R.v 108 [coolD c] (.int .i64 (cool1E c))) (h109 : ∀ x y, FO x → FO y → R.v 109 [offD x, offD y] (.int .i64 (cmpO x y))) : AnsF R c47 [.sl 4 false (l.map coolD)] (.int .i64 (coolsE l)) := by
  obtain ⟨xs, hxs⟩ : ∃ xs, xs = l.map coolD := ⟨_, rfl⟩
  obtain ⟨r, hr0⟩ : ∃ r, r = coolsE l := ⟨_, rfl⟩
  have hcx : CleanL xs := cleanL_map (fun _ => ⟨rfl, rfl⟩) hxs
  rw [← hxs, ← hr0]
  unfold coolsE tooE at hr0
  refine wpF_sound ⟨rfl, by decide⟩ fun O hO V hV => ?_
  subst hV
  have hlen : O .len xs = l.length := by rw [o_len hO, hxs]; simp
  conv => cbv
  rintro (_ | _) h0
  · replace h0 := f_gtr hO h0
    rw [hlen] at h0
    have hr : r = scanE (upE coolE l) l.length := by rw [hr0, if_neg (by omega)]
    conv => cbv
    refine loop_of (fun n d => ∃ (i : Int) (k : Nat), d = ⟨[(0, .sl 4 false xs), (9, .sl 4 false xs), (10, .int .i64 (O .len xs)), (11, .int .i64 i)], [], false⟩ ∧ i = k ∧ k ≤ l.length ∧ n = l.length - k ∧ ∀ j, j < k → upE coolE l j = 0) ⟨_, _, ⟨_, 0, rfl, rfl, by omega, rfl, by simp⟩, ⟨⟨rfl, rfl, rfl, rfl, trivial⟩, trivial, rfl⟩⟩ ?_
    rintro J up n d ⟨i, k, rfl, hi, hk, rfl, hno⟩
    conv => cbv
    rintro (_ | _) h1
    · replace h1 := f_lss hO h1
      rw [hlen] at h1
      conv => cbv
      rw [hr, scanE_end (fun j hj => hno j (by omega))]
    · replace h1 := t_lss hO h1
      rw [hlen] at h1
      obtain ⟨y, hy⟩ : ∃ y, l[k]? = some y := ⟨_, List.getElem?_eq_getElem (by omega)⟩
      have hat : atX xs i (coolD y) := atX_map hy hxs hi
      have hg : upE coolE l k = _ := upE_some hy
      obtain ⟨e, he⟩ : ∃ e, e = upE coolE l k := ⟨_, rfl⟩
      rw [hg] at he
      rw [← he] at hg
      have hfy := (hf.all y (List.mem_of_getElem? hy))
      have hk1 := h108 y hfy.o
      obtain ⟨w, hw⟩ : ∃ w, w = cool1E y := ⟨_, rfl⟩
      rw [← hw] at hk1
      have he1 : e = if w = 0 then (match (l.take k).getLast? with | some z => if ltO z.o y.o then 0 else 6 | none => 0) else w := by rw [he, hw]; rfl
      obtain ⟨q, p, c, hk2, hp, hq⟩ : ∃ (q : Bool) (p : CoolV) (c : Int), V.v 109 [offD p.o, offD y.o] (.int .i64 c) ∧ (0 < k → l[k - 1]? = some p ∧ (c < 0 ↔ q = true)) ∧ e = if w = 0 then (if 0 < k then (if q then 0 else 6) else 0) else w := by
        by_cases h0 : 0 < k
        · obtain ⟨p, hp⟩ : ∃ p, l[k - 1]? = some p := ⟨_, List.getElem?_eq_getElem (by omega)⟩
          rw [take_last h0 hp] at he1
          exact ⟨ltO p.o y.o, p, _, h109 p.o y.o (hf.all p (List.mem_of_getElem? hp)).o hfy.o, fun _ => ⟨hp, cmpO_lt _ _⟩, by rw [he1]; simp [h0]⟩
        · have : k = 0 := by omega
          subst this
          exact ⟨true, y, _, h109 y.o y.o hfy.o hfy.o, fun h => absurd h (by omega), by rw [he1]; simp⟩
      clear he1 he
      have he := hq
      have hsub : 0 < k → O .iop .sub .i64 i 1 = ((k - 1 : Nat) : Int) := fun h => by rw [o_sub64 hO (by omega) (by omega)]; omega
      have hat2 : 0 < k → atX xs (O .iop .sub .i64 i 1) (coolD p) := fun h => atX_map (hp h).1 hxs (hsub h)
      have hq := fun h => (hp h).2
      clear hp hw
      obtain ⟨⟨y1, y2, y3⟩, y4⟩ := y
      obtain ⟨⟨p1, p2, p3⟩, p4⟩ := p
      simp only at hk2
      conv => cbv
      refine ⟨_, hat, ?_⟩
      conv => cbv
      intro g4
      by_cases hw0 : w = 0
      all_goals by_cases hk0 : 0 < k
      all_goals simp [hw0, hk0] at he
      all_goals cases q <;> (conv => cbv)
      all_goals (try simp [hk0] at hq)
      all_goals (repeat' (first | (rintro (_ | _) h <;> (first | replace h := ci hO h | replace h := cs hO h) <;> (dsimp only [CmpI, CmpS] at h) <;> (conv => cbv)) | (refine ⟨_, by assumption, ?_⟩; (conv => cbv)) | (refine ⟨_, hat2 (by omega), ?_⟩; (conv => cbv)) | (refine ⟨_, hat, ?_⟩; (conv => cbv)) | (refine And.intro (by first | assumption | exact ⟨by omega⟩ | exact ⟨by rw [hlen]; omega⟩ | exact ⟨rfl⟩ | exact ⟨rfl, rfl⟩) ?_)))
      all_goals first
        | (exfalso; omega)
        | exact ⟨_, _, up _ _ ⟨_, k + 1, rfl, by rw [o_add64 hO (by omega) (by omega)]; omega, by omega, rfl, scan_step hno (by rw [hg]; first | exact he | exact he.symm | (rw [he]; rfl) | (rw [he]; simp [hw0, hk0]; done) | exact h)⟩, ⟨⟨rfl, rfl, rfl, rfl, trivial⟩, trivial, rfl⟩, by omega⟩
        | exact (by rw [hr]; exact congrArg (D.int .i64) (scanE_hit (by omega) hno (by rw [hg]; first | exact he | exact he.symm | (rw [he]; rfl) | (rw [he]; simp [hw0, hk0]; done) | rfl) (by first | decide | exact h)).symm)
  · replace h0 := t_gtr hO h0
    rw [hlen] at h0
    conv => cbv
    rw [hr0, if_pos (by omega)]
end Go.Proofs.AM
namespace Go.Proofs.AM
open Go Go.Lib Cd
set_option maxRecDepth 100000 in
set_option maxHeartbeats 4000000 in
theorem cool52_ok (R : Ans) (l : List CoolV) (hl : l.length < 4611686018427387904) (hf : FLs FCool l) (h119 : ∀ c, FO c.o → R.v 119 [coolD c] (.int .i64 (cool1E c))) (h120 : ∀ x y, R.v 120 [offD x, offD y] (.bool (ltO x y))) : AnsF R c52 [.sl 4 false (l.map coolD)] (.int .i64 (coolsE l)) := by
  obtain ⟨xs, hxs⟩ : ∃ xs, xs = l.map coolD := ⟨_, rfl⟩
  obtain ⟨r, hr0⟩ : ∃ r, r = coolsE l := ⟨_, rfl⟩
  have hcx : CleanL xs := cleanL_map (fun _ => ⟨rfl, rfl⟩) hxs
  rw [← hxs, ← hr0]
  unfold coolsE tooE at hr0
  refine wpF_sound ⟨rfl, by decide⟩ fun O hO V hV => ?_
  subst hV
  have hlen : O .len xs = l.length := by rw [o_len hO, hxs]; simp
  conv => cbv
  rintro (_ | _) h0
  · replace h0 := f_gtr hO h0
    rw [hlen] at h0
    have hr : r = scanE (upE coolE l) l.length := by rw [hr0, if_neg (by omega)]
    conv => cbv
    refine loop_of (fun n d => ∃ (i : Int) (k : Nat), d = ⟨[(0, .sl 4 false xs), (3, .int .i64 i)], [], false⟩ ∧ i = k ∧ k ≤ l.length ∧ n = l.length - k ∧ ∀ j, j < k → upE coolE l j = 0) ⟨_, _, ⟨_, 0, rfl, rfl, by omega, rfl, by simp⟩, ⟨⟨rfl, rfl, trivial⟩, trivial, rfl⟩⟩ ?_
    rintro J up n d ⟨i, k, rfl, hi, hk, rfl, hno⟩
    conv => cbv
    rintro (_ | _) h1
    · replace h1 := f_lss hO h1
      rw [hlen] at h1
      conv => cbv
      rw [hr, scanE_end (fun j hj => hno j (by omega))]
    · replace h1 := t_lss hO h1
      rw [hlen] at h1
      obtain ⟨y, hy⟩ : ∃ y, l[k]? = some y := ⟨_, List.getElem?_eq_getElem (by omega)⟩
      have hat : atX xs i (coolD y) := atX_map hy hxs hi
      have hg : upE coolE l k = _ := upE_some hy
      obtain ⟨e, he⟩ : ∃ e, e = upE coolE l k := ⟨_, rfl⟩
      rw [hg] at he
      rw [← he] at hg
      have hfy := (hf.all y (List.mem_of_getElem? hy))
      have hk1 := h119 y hfy.o
      obtain ⟨w, hw⟩ : ∃ w, w = cool1E y := ⟨_, rfl⟩
      rw [← hw] at hk1
      have he1 : e = if w = 0 then (match (l.take k).getLast? with | some z => if ltO z.o y.o then 0 else 6 | none => 0) else w := by rw [he, hw]; rfl
      obtain ⟨q, p, c, hk2, hp, hq⟩ : ∃ (q : Bool) (p : CoolV) (c : Bool), V.v 120 [offD p.o, offD y.o] (.bool c) ∧ (0 < k → l[k - 1]? = some p ∧ (c = true ↔ q = true)) ∧ e = if w = 0 then (if 0 < k then (if q then 0 else 6) else 0) else w := by
        by_cases h0 : 0 < k
        · obtain ⟨p, hp⟩ : ∃ p, l[k - 1]? = some p := ⟨_, List.getElem?_eq_getElem (by omega)⟩
          rw [take_last h0 hp] at he1
          exact ⟨ltO p.o y.o, p, _, h120 p.o y.o, fun _ => ⟨hp, Iff.rfl⟩, by rw [he1]; simp [h0]⟩
        · have : k = 0 := by omega
          subst this
          exact ⟨true, y, _, h120 y.o y.o, fun h => absurd h (by omega), by rw [he1]; simp⟩
      clear he1 he
      have he := hq
      have hsub : 0 < k → O .iop .sub .i64 i 1 = ((k - 1 : Nat) : Int) := fun h => by rw [o_sub64 hO (by omega) (by omega)]; omega
      have hat2 : 0 < k → atX xs (O .iop .sub .i64 i 1) (coolD p) := fun h => atX_map (hp h).1 hxs (hsub h)
      have hq := fun h => (hp h).2
      clear hp hw
      obtain ⟨⟨y1, y2, y3⟩, y4⟩ := y
      obtain ⟨⟨p1, p2, p3⟩, p4⟩ := p
      simp only at hk2
      conv => cbv
      refine ⟨_, hat, ?_⟩
      conv => cbv
      by_cases hw0 : w = 0
      all_goals by_cases hk0 : 0 < k
      all_goals simp [hw0, hk0] at he
      all_goals cases q <;> cases c <;> (conv => cbv)
      all_goals (try simp [hk0] at hq)
      all_goals (repeat' (first | (rintro (_ | _) h <;> (first | replace h := ci hO h | replace h := cs hO h) <;> (dsimp only [CmpI, CmpS] at h) <;> (conv => cbv)) | (refine ⟨_, by assumption, ?_⟩; (conv => cbv)) | (refine ⟨_, hat2 (by omega), ?_⟩; (conv => cbv)) | (refine ⟨_, hat, ?_⟩; (conv => cbv)) | (refine And.intro (by first | assumption | exact ⟨by omega⟩ | exact ⟨by rw [hlen]; omega⟩ | exact ⟨rfl⟩ | exact ⟨rfl, rfl⟩) ?_)))
      all_goals first
        | (exfalso; omega)
        | exact ⟨_, _, up _ _ ⟨_, k + 1, rfl, by rw [o_add64 hO (by omega) (by omega)]; omega, by omega, rfl, scan_step hno (by rw [hg]; first | exact he | exact he.symm | (rw [he]; rfl) | (rw [he]; simp [hw0, hk0]; done) | exact h)⟩, ⟨⟨rfl, rfl, trivial⟩, trivial, rfl⟩, by omega⟩
        | exact (by rw [hr]; exact congrArg (D.int .i64) (scanE_hit (by omega) hno (by rw [hg]; first | exact he | exact he.symm | (rw [he]; rfl) | (rw [he]; simp [hw0, hk0]; done) | rfl) (by first | decide | exact h)).symm)
  · replace h0 := t_gtr hO h0
    rw [hlen] at h0
    conv => cbv
    rw [hr0, if_pos (by omega)]
end Go.Proofs.AM
namespace Go.Proofs.AM
open Go Go.Lib Cd
set_option maxRecDepth 100000 in
set_option maxHeartbeats 4000000 in
theorem offs118_ok (R : Ans) (l : List OffV) (hl : l.length < 4611686018427387904) (hf : FLs FO l) (h116 : ∀ o, FO o → R.v 116 [offD o] (.bool (nmB o))) : AnsF R c118 [.sl 3 false (l.map offD)] (.int .i64 (offsE l)) := by
  obtain ⟨xs, hxs⟩ : ∃ xs, xs = l.map offD := ⟨_, rfl⟩
  obtain ⟨r, hr0⟩ : ∃ r, r = offsE l := ⟨_, rfl⟩
  have hcx : CleanL xs := cleanL_map (fun _ => ⟨rfl, rfl⟩) hxs
  rw [← hxs, ← hr0]
  unfold offsE tooE at hr0
  refine wpF_sound ⟨rfl, by decide⟩ fun O hO V hV => ?_
  subst hV
  have hlen : O .len xs = l.length := by rw [o_len hO, hxs]; simp
  conv => cbv
  rintro (_ | _) h0
  · replace h0 := f_gtr hO h0
    rw [hlen] at h0
    have hr : r = scanE (upE offE l) l.length := by rw [hr0, if_neg (by omega)]
    conv => cbv
    refine loop_of (fun n d => ∃ (i : Int) (k : Nat), d = ⟨[(0, .sl 3 false xs), (10, .sl 3 false xs), (11, .int .i64 (O .len xs)), (12, .int .i64 i)], [], false⟩ ∧ i = k ∧ k ≤ l.length ∧ n = l.length - k ∧ ∀ j, j < k → upE offE l j = 0) ⟨_, _, ⟨_, 0, rfl, rfl, by omega, rfl, by simp⟩, ⟨⟨rfl, rfl, rfl, rfl, trivial⟩, trivial, rfl⟩⟩ ?_
    rintro J up n d ⟨i, k, rfl, hi, hk, rfl, hno⟩
    conv => cbv
    rintro (_ | _) h1
    · replace h1 := f_lss hO h1
      rw [hlen] at h1
      conv => cbv
      rw [hr, scanE_end (fun j hj => hno j (by omega))]
    · replace h1 := t_lss hO h1
      rw [hlen] at h1
      obtain ⟨y, hy⟩ : ∃ y, l[k]? = some y := ⟨_, List.getElem?_eq_getElem (by omega)⟩
      have hat : atX xs i (offD y) := atX_map hy hxs hi
      have hg : upE offE l k = _ := upE_some hy
      obtain ⟨e, he⟩ : ∃ e, e = upE offE l k := ⟨_, rfl⟩
      rw [hg] at he
      rw [← he] at hg
      have hk1 := h116 y (hf.all y (List.mem_of_getElem? hy))
      obtain ⟨q1, hq1⟩ : ∃ q, q = nmB y := ⟨_, rfl⟩
      unfold offE at he
      rw [← hq1] at hk1 he
      clear hq1
      have htk0 : O .subL xs 0 i = (l.take k).map offD := by rw [o_subL hO, hxs, hi, ← List.map_take]; simp
      obtain ⟨ts, hts⟩ : ∃ ts, ts = O .subL xs 0 i := ⟨_, rfl⟩
      have htk : ts = (l.take k).map offD := hts.trans htk0
      have hlt : O .len ts = k := by rw [o_len hO, htk]; simp; omega
      obtain ⟨w, hw⟩ : ∃ w, w = y := ⟨_, rfl⟩
      rw [show (fun z => decide (y = z)) = fun z => decide (w = z) by rw [hw]] at he
      obtain ⟨y1, y2, y3⟩ := y
      conv => cbv
      refine ⟨_, hat, ?_⟩
      conv => cbv
      intro g4
      cases q1 <;> (conv => cbv)
      all_goals (repeat' (first | (rintro (_ | _) h <;> (first | replace h := ci hO h | replace h := cs hO h) <;> (dsimp only [CmpI, CmpS] at h) <;> (conv => cbv)) | (refine ⟨_, by assumption, ?_⟩; (conv => cbv)) | (refine ⟨_, hat, ?_⟩; (conv => cbv)) | (refine And.intro (by first | assumption | exact ⟨by omega⟩ | exact ⟨by rw [hlen]; omega⟩ | exact ⟨rfl⟩ | exact ⟨rfl, rfl⟩) ?_)))
      all_goals first
        | (exfalso; omega)
        | exact ⟨_, _, up _ _ ⟨_, k + 1, rfl, by rw [o_add64 hO (by omega) (by omega)]; omega, by omega, rfl, scan_step hno (by rw [hg]; first | exact he | exact he.symm | (rw [he]; rfl) | (rw [he]; simp [h]; done) | exact h)⟩, ⟨⟨rfl, rfl, rfl, rfl, trivial⟩, trivial, rfl⟩, by omega⟩
        | exact (by rw [hr]; exact congrArg (D.int .i64) (scanE_hit (by omega) hno (by rw [hg]; first | exact he | exact he.symm | (rw [he]; rfl) | (rw [he]; simp [h]; done) | rfl) (by first | decide | exact h)).symm)
        | skip
      rw [← hts]
      conv => cbv
      refine loop_of (fun n d => ∃ (i2 : Int) (k2 : Nat), d = ⟨[(0, .sl 3 false xs), (10, .sl 3 false xs), (11, .int .i64 (O .len xs)), (12, .int .i64 i), (4, .ptr 4 g4 0), (22, .sl 3 false ts), (23, .int .i64 (O .len ts)), (24, .int .i64 i2)], [(4, ⟨g4, .rw, .var, [mkS y1, mkS y2, mkS y3]⟩)], false⟩ ∧ i2 = k2 ∧ k2 ≤ k ∧ n = k - k2 ∧ ∀ (j : Nat) z, j < k2 → l[j]? = some z → (fun z => decide (w = z)) z = false) ⟨_, _, ⟨_, 0, rfl, rfl, by omega, rfl, by simp⟩, ⟨⟨rfl, rfl, rfl, rfl, rfl, rfl, rfl, rfl, trivial⟩, ⟨rfl, trivial⟩, rfl⟩⟩ ?_
      rintro J2 up2 n2 d2 ⟨i2, k2, rfl, hi2, hk2, rfl, hno2⟩
      conv => cbv
      rintro (_ | _) h3
      · replace h3 := f_lss hO h3
        rw [hlt] at h3
        conv => cbv
        have ha := any_take_false (p := fun z => decide (w = z)) (l := l) (k := k) (fun j z hj hz => hno2 j z (by omega) hz)
        rw [ha] at he
        all_goals first
          | (exfalso; omega)
          | exact ⟨_, _, up _ _ ⟨_, k + 1, rfl, by rw [o_add64 hO (by omega) (by omega)]; omega, by omega, rfl, scan_step hno (by rw [hg]; first | exact he | exact he.symm | (rw [he]; rfl) | (rw [he]; simp [h]; done) | exact h)⟩, ⟨⟨rfl, rfl, rfl, rfl, trivial⟩, trivial, rfl⟩, by omega⟩
          | exact (by rw [hr]; exact congrArg (D.int .i64) (scanE_hit (by omega) hno (by rw [hg]; first | exact he | exact he.symm | (rw [he]; rfl) | (rw [he]; simp [h]; done) | rfl) (by first | decide | exact h)).symm)
      · replace h3 := t_lss hO h3
        rw [hlt] at h3
        obtain ⟨z, hz⟩ : ∃ z, l[k2]? = some z := ⟨_, List.getElem?_eq_getElem (by omega)⟩
        have hat2 : atX ts i2 (offD z) := atX_map (l := l.take k) (by rw [List.getElem?_take, if_pos (by omega)]; exact hz) htk hi2
        conv => cbv
        refine ⟨_, hat2, ?_⟩
        conv => cbv
        intro g6
        conv => cbv
        intro t ht
        replace ht := eqc_off (t := t) (x := z) (y := w) hO (by rw [hw]; exact ht)
        replace ht : t = decide (w = z) := ht.trans (dec_comm _ _)
        cases t
        · conv => cbv
          exact ⟨_, _, up2 _ _ ⟨_, k2 + 1, rfl, by rw [o_add64 hO (by omega) (by omega)]; omega, by omega, rfl, hno_step hno2 hz ht.symm⟩, ⟨⟨rfl, rfl, rfl, rfl, rfl, rfl, rfl, rfl, trivial⟩, ⟨rfl, trivial⟩, rfl⟩, by omega⟩
        · conv => cbv
          have ha := any_take_true (p := fun z => decide (w = z)) (show k2 < k by omega) hz ht.symm
          rw [ha] at he
          all_goals first
            | (exfalso; omega)
            | exact ⟨_, _, up _ _ ⟨_, k + 1, rfl, by rw [o_add64 hO (by omega) (by omega)]; omega, by omega, rfl, scan_step hno (by rw [hg]; first | exact he | exact he.symm | (rw [he]; rfl) | (rw [he]; simp [h]; done) | exact h)⟩, ⟨⟨rfl, rfl, rfl, rfl, trivial⟩, trivial, rfl⟩, by omega⟩
            | exact (by rw [hr]; exact congrArg (D.int .i64) (scanE_hit (by omega) hno (by rw [hg]; first | exact he | exact he.symm | (rw [he]; rfl) | (rw [he]; simp [h]; done) | rfl) (by first | decide | exact h)).symm)
  · replace h0 := t_gtr hO h0
    rw [hlen] at h0
    conv => cbv
    rw [hr0, if_pos (by omega)]
end Go.Proofs.AM
namespace Go.Proofs.AM
open Go Go.Lib Cd
set_option maxRecDepth 100000 in
set_option maxHeartbeats 4000000 in
theorem offs63_ok (R : Ans) (l : List OffV) (hl : l.length < 4611686018427387904) (hf : FLs FO l) (h55 : ∀ l : List Str, FL l → R.v 55 [.sl 1 false (l.map mkS)] (.bool (l.all nameB))) (h54 : ∀ (b : Bool) (e : Int), R.v 54 [.bool b, .int .i64 e] (.int .i64 (wantI b e))) (h53 : ∀ l : List Int, l.length < 4611686018427387904 → R.v 53 [.sl 1 false (l.map iD)] (.int .i64 (firstI l))) (h127 : ∀ (l : List OffV) (x : OffV), l.length < 4611686018427387904 → R.v 127 [.sl 3 false (l.map offD), offD x] (.bool (l.any fun y => decide (x = y)))) : AnsF R c63 [.sl 3 false (l.map offD)] (.int .i64 (offsE l)) := by
  obtain ⟨xs, hxs⟩ : ∃ xs, xs = l.map offD := ⟨_, rfl⟩
  obtain ⟨r, hr0⟩ : ∃ r, r = offsE l := ⟨_, rfl⟩
  have hcx : CleanL xs := cleanL_map (fun _ => ⟨rfl, rfl⟩) hxs
  rw [← hxs, ← hr0]
  unfold offsE tooE at hr0
  refine wpF_sound ⟨rfl, by decide⟩ fun O hO V hV => ?_
  subst hV
  have hlen : O .len xs = l.length := by rw [o_len hO, hxs]; simp
  conv => cbv
  rintro (_ | _) h0
  · replace h0 := f_gtr hO h0
    rw [hlen] at h0
    have hr : r = scanE (upE offE l) l.length := by rw [hr0, if_neg (by omega)]
    conv => cbv
    refine loop_of (fun n d => ∃ (i : Int) (k : Nat), d = ⟨[(0, .sl 3 false xs), (9, .sl 3 false xs), (10, .int .i64 (O .len xs)), (11, .int .i64 i)], [], false⟩ ∧ i = k ∧ k ≤ l.length ∧ n = l.length - k ∧ ∀ j, j < k → upE offE l j = 0) ⟨_, _, ⟨_, 0, rfl, rfl, by omega, rfl, by simp⟩, ⟨⟨rfl, rfl, rfl, rfl, trivial⟩, trivial, rfl⟩⟩ ?_
    rintro J up n d ⟨i, k, rfl, hi, hk, rfl, hno⟩
    conv => cbv
    rintro (_ | _) h1
    · replace h1 := f_lss hO h1
      rw [hlen] at h1
      conv => cbv
      rw [hr, scanE_end (fun j hj => hno j (by omega))]
    · replace h1 := t_lss hO h1
      rw [hlen] at h1
      obtain ⟨y, hy⟩ : ∃ y, l[k]? = some y := ⟨_, List.getElem?_eq_getElem (by omega)⟩
      have hat : atX xs i (offD y) := atX_map hy hxs hi
      have hg : upE offE l k = _ := upE_some hy
      obtain ⟨e, he⟩ : ∃ e, e = upE offE l k := ⟨_, rfl⟩
      rw [hg] at he
      rw [← he] at hg
      have hk1 := h55 [y.t, y.z, y.k] ⟨by simp, by have := hf.all y (List.mem_of_getElem? hy); simpa using ⟨this.t, this.z, this.k⟩⟩
      have hk3 := h127 (l.take k) y (by simp; omega)
      obtain ⟨q1, hq1⟩ : ∃ q, q = nmB y := ⟨_, rfl⟩
      have hq1' : ([y.t, y.z, y.k].all nameB) = q1 := by rw [hq1]; simp [nmB]
      obtain ⟨q3, hq3⟩ : ∃ q, q = (l.take k).any fun z => decide (y = z) := ⟨_, rfl⟩
      unfold offE at he
      rw [hq1'] at hk1
      rw [← hq1] at he
      rw [← hq3] at hk3 he
      have htk : O .subL xs 0 i = (l.take k).map offD := by rw [o_subL hO, hxs, hi, ← List.map_take]; simp
      have hct : CleanL (O .subL xs 0 i) := cleanL_map (fun _ => ⟨rfl, rfl⟩) htk
      rw [← htk] at hk3
      clear hq1 hq3 hq1'
      have w1 := h54 q1 7
      have w2 := h54 (!q3) 6
      have f1 := h53 [wantI q1 7, wantI (!q3) 6] (by simp)
      obtain ⟨yt, yz, yk⟩ := y
      simp only [List.map] at he hk1 f1
      conv => cbv
      refine ⟨_, hat, ?_⟩
      conv => cbv
      intro g4
      cases q1 <;> cases q3 <;> simp only [Bool.not_true, Bool.not_false, wantI_true, wantI_false] at w1 w2 f1 <;> (conv => cbv)
      all_goals (repeat' (first | (rintro (_ | _) h <;> (first | replace h := ci hO h | replace h := cs hO h) <;> (dsimp only [CmpI, CmpS] at h) <;> (conv => cbv)) | (refine ⟨_, by assumption, ?_⟩; (conv => cbv)) | (refine And.intro (by first | assumption | exact ⟨by omega⟩ | exact ⟨by rw [hlen]; omega⟩ | exact ⟨rfl⟩ | exact ⟨rfl, rfl⟩) ?_)))
      all_goals first
        | (exfalso; omega)
        | exact ⟨_, _, up _ _ ⟨_, k + 1, rfl, by rw [o_add64 hO (by omega) (by omega)]; omega, by omega, rfl, scan_step hno (by rw [hg]; first | exact he | exact he.symm | (rw [he]; rfl) | (rw [he]; simp [h]; done) | exact h)⟩, ⟨⟨rfl, rfl, rfl, rfl, trivial⟩, trivial, rfl⟩, by omega⟩
        | exact (by rw [hr]; exact congrArg (D.int .i64) (scanE_hit (by omega) hno (by rw [hg]; first | exact he | exact he.symm | (rw [he]; rfl) | (rw [he]; simp [h]; done) | rfl) (by first | decide | exact h)).symm)
  · replace h0 := t_gtr hO h0
    rw [hlen] at h0
    conv => cbv
    rw [hr0, if_pos (by omega)]
end Go.Proofs.AM
namespace Go.Proofs.AM
open Go Go.Lib Cd
set_option maxRecDepth 100000 in
set_option maxHeartbeats 4000000 in
theorem terms113_ok (R : Ans) (l : List LabV) (hl : l.length < 4611686018427387904) (hf : FLs FLab l) (h110 : ∀ s, SL s → R.v 110 [mkS s] (.bool (nameB s))) : AnsF R c113 [.sl 2 false (l.map labD)] (.int .i64 (termsE l)) := by
  obtain ⟨xs, hxs⟩ : ∃ xs, xs = l.map labD := ⟨_, rfl⟩
  obtain ⟨r, hr⟩ : ∃ r, r = termsE l := ⟨_, rfl⟩
  have hcx : CleanL xs := cleanL_map (fun _ => ⟨rfl, rfl⟩) hxs
  rw [← hxs, ← hr]
  unfold termsE at hr
  refine wpF_sound ⟨rfl, by decide⟩ fun O hO V hV => ?_
  subst hV
  have hlen : O .len xs = l.length := by rw [o_len hO, hxs]; simp
  conv => cbv
  refine loop_of (fun n d => ∃ (i : Int) (k : Nat), d = ⟨[(5, .sl 2 false xs), (6, .int .i64 (O .len xs)), (7, .int .i64 i)], [], false⟩ ∧ i = k ∧ k ≤ l.length ∧ n = l.length - k ∧ ∀ j, j < k → atE (fun x => termE x.k x.v) l j = 0) ⟨_, _, ⟨_, 0, rfl, rfl, by omega, rfl, by simp⟩, ⟨⟨rfl, rfl, rfl, trivial⟩, trivial, rfl⟩⟩ ?_
  rintro J up n d ⟨i, k, rfl, hi, hk, rfl, hno⟩
  conv => cbv
  rintro (_ | _) h1
  · replace h1 := f_lss hO h1
    rw [hlen] at h1
    conv => cbv
    rw [hr, scanE_end (fun j hj => hno j (by omega))]
  · replace h1 := t_lss hO h1
    rw [hlen] at h1
    obtain ⟨y, hy⟩ : ∃ y, l[k]? = some y := ⟨_, List.getElem?_eq_getElem (by omega)⟩
    have hat : atX xs i (labD y) := atX_map hy hxs hi
    have hg : atE (fun x => termE x.k x.v) l k = _ := atE_some hy
    obtain ⟨e, he⟩ : ∃ e, e = atE (fun x => termE x.k x.v) l k := ⟨_, rfl⟩
    rw [hg] at he
    rw [← he] at hg
    have hk1 := h110 y.v (hf.all y (List.mem_of_getElem? hy)).v
    obtain ⟨q1, hq1⟩ : ∃ q, q = nameB y.v := ⟨_, rfl⟩
    unfold termE zoneS hostS at he
    rw [← hq1] at hk1 he
    clear hq1
    obtain ⟨y1, y2⟩ := y
    try simp only at he
    conv => cbv
    refine ⟨_, hat, ?_⟩
    conv => cbv
    intro g4
    cases q1 <;> (conv => cbv)
    all_goals (repeat' (first | (rintro (_ | _) h <;> (first | replace h := ci hO h | replace h := cs hO h) <;> (dsimp only [CmpI, CmpS] at h) <;> (try simp [h] at he) <;> (conv => cbv)) | (refine ⟨_, by assumption, ?_⟩; (conv => cbv)) | (refine ⟨_, hat, ?_⟩; (conv => cbv)) | (refine And.intro (by first | assumption | exact ⟨by omega⟩ | exact ⟨by rw [hlen]; omega⟩ | exact ⟨rfl⟩ | exact ⟨rfl, rfl⟩) ?_)))
    all_goals first
      | (exfalso; omega)
      | exact ⟨_, _, up _ _ ⟨_, k + 1, rfl, by rw [o_add64 hO (by omega) (by omega)]; omega, by omega, rfl, scan_step hno (by rw [hg]; first | exact he | exact he.symm | (rw [he]; rfl) | (rw [he]; simp [h]; done) | exact h)⟩, ⟨⟨rfl, rfl, rfl, trivial⟩, trivial, rfl⟩, by omega⟩
      | exact (by rw [hr]; exact congrArg (D.int .i64) (scanE_hit (by omega) hno (by rw [hg]; first | exact he | exact he.symm | (rw [he]; rfl) | (rw [he]; simp [h]; done) | rfl) (by first | decide | exact h)).symm)
end Go.Proofs.AM
namespace Go.Proofs.AM
open Go Go.Lib Cd
set_option maxRecDepth 100000 in
set_option maxHeartbeats 4000000 in
theorem tnts115_ok (R : Ans) (l : List LabV) (hl : l.length < 4611686018427387904) (hf : FLs FLab l) (h110 : ∀ s, SL s → R.v 110 [mkS s] (.bool (nameB s))) (h193 : ∀ s, SL s → R.v 193 [mkS s] (.bool (valueB s))) : AnsF R c115 [.sl 2 false (l.map labD)] (.int .i64 (tntsE l)) := by
  obtain ⟨xs, hxs⟩ : ∃ xs, xs = l.map labD := ⟨_, rfl⟩
  obtain ⟨r, hr0⟩ : ∃ r, r = tntsE l := ⟨_, rfl⟩
  have hcx : CleanL xs := cleanL_map (fun _ => ⟨rfl, rfl⟩) hxs
  rw [← hxs, ← hr0]
  unfold tntsE tooE at hr0
  refine wpF_sound ⟨rfl, by decide⟩ fun O hO V hV => ?_
  subst hV
  have hlen : O .len xs = l.length := by rw [o_len hO, hxs]; simp
  conv => cbv
  rintro (_ | _) h0
  · replace h0 := f_gtr hO h0
    rw [hlen] at h0
    have hr : r = scanE (upE tntE l) l.length := by rw [hr0, if_neg (by omega)]
    conv => cbv
    refine loop_of (fun n d => ∃ (i : Int) (k : Nat), d = ⟨[(0, .sl 2 false xs), (3, .int .i64 i)], [], false⟩ ∧ i = k ∧ k ≤ l.length ∧ n = l.length - k ∧ ∀ j, j < k → upE tntE l j = 0) ⟨_, _, ⟨_, 0, rfl, rfl, by omega, rfl, by simp⟩, ⟨⟨rfl, rfl, trivial⟩, trivial, rfl⟩⟩ ?_
    rintro J up n d ⟨i, k, rfl, hi, hk, rfl, hno⟩
    conv => cbv
    rintro (_ | _) h1
    · replace h1 := f_lss hO h1
      rw [hlen] at h1
      conv => cbv
      rw [hr, scanE_end (fun j hj => hno j (by omega))]
    · replace h1 := t_lss hO h1
      rw [hlen] at h1
      obtain ⟨y, hy⟩ : ∃ y, l[k]? = some y := ⟨_, List.getElem?_eq_getElem (by omega)⟩
      have hat : atX xs i (labD y) := atX_map hy hxs hi
      have hg : upE tntE l k = _ := upE_some hy
      obtain ⟨e, he⟩ : ∃ e, e = upE tntE l k := ⟨_, rfl⟩
      rw [hg] at he
      rw [← he] at hg
      have hk1 := h110 y.k (hf.all y (List.mem_of_getElem? hy)).k
      have hk2 := h193 y.v (hf.all y (List.mem_of_getElem? hy)).v
      obtain ⟨q1, hq1⟩ : ∃ q, q = nameB y.k := ⟨_, rfl⟩
      obtain ⟨q2, hq2⟩ : ∃ q, q = valueB y.v := ⟨_, rfl⟩
      unfold tntE at he
      rw [← hq1] at hk1 he
      rw [← hq2] at hk2 he
      clear hq1 hq2
      obtain ⟨yk, yv⟩ := y
      simp only at he
      conv => cbv
      refine ⟨_, hat, ?_⟩
      conv => cbv
      cases q1 <;> cases q2 <;> (conv => cbv)
      all_goals (repeat' (first | (rintro (_ | _) h <;> (first | replace h := ci hO h | replace h := cs hO h) <;> (dsimp only [CmpI, CmpS] at h) <;> (conv => cbv)) | (refine ⟨_, by assumption, ?_⟩; (conv => cbv)) | (refine ⟨_, hat, ?_⟩; (conv => cbv)) | (refine And.intro (by first | assumption | exact ⟨by omega⟩ | exact ⟨by rw [hlen]; omega⟩ | exact ⟨rfl⟩ | exact ⟨rfl, rfl⟩) ?_)))
      all_goals first
        | (exfalso; omega)
        | exact ⟨_, _, up _ _ ⟨_, k + 1, rfl, by rw [o_add64 hO (by omega) (by omega)]; omega, by omega, rfl, scan_step hno (by rw [hg]; first | exact he | exact he.symm | (rw [he]; rfl) | (rw [he]; simp [h]; done) | exact h)⟩, ⟨⟨rfl, rfl, trivial⟩, trivial, rfl⟩, by omega⟩
        | exact (by rw [hr]; exact congrArg (D.int .i64) (scanE_hit (by omega) hno (by rw [hg]; first | exact he | exact he.symm | (rw [he]; rfl) | (rw [he]; simp [h]; done) | rfl) (by first | decide | exact h)).symm)
        | skip
      all_goals
        refine loop_of (fun n d => ∃ (i2 : Int) (k2 : Nat), d = ⟨[(0, .sl 2 false xs), (3, .int .i64 i), (6, .int .i64 i2)], [], false⟩ ∧ i2 = k2 ∧ k2 ≤ k ∧ n = k - k2 ∧ ∀ (j : Nat) z, j < k2 → l[j]? = some z → (fun z => decide (z.k = yk)) z = false) ⟨_, _, ⟨_, 0, rfl, rfl, by omega, rfl, by simp⟩, ⟨⟨rfl, rfl, rfl, trivial⟩, trivial, rfl⟩⟩ ?_
        rintro J2 up2 n2 d2 ⟨i2, k2, rfl, hi2, hk2, rfl, hno2⟩
        conv => cbv
        rintro (_ | _) h3
        · replace h3 := f_lss hO h3
          conv => cbv
          have ha := any_take_false (p := fun z => decide (z.k = yk)) (l := l) (k := k) (fun j z hj hz => hno2 j z (by omega) hz)
          rw [ha] at he
          all_goals first
            | (exfalso; omega)
            | exact ⟨_, _, up _ _ ⟨_, k + 1, rfl, by rw [o_add64 hO (by omega) (by omega)]; omega, by omega, rfl, scan_step hno (by rw [hg]; first | exact he | exact he.symm | (rw [he]; rfl) | (rw [he]; simp [h]; done) | exact h)⟩, ⟨⟨rfl, rfl, trivial⟩, trivial, rfl⟩, by omega⟩
            | exact (by rw [hr]; exact congrArg (D.int .i64) (scanE_hit (by omega) hno (by rw [hg]; first | exact he | exact he.symm | (rw [he]; rfl) | (rw [he]; simp [h]; done) | rfl) (by first | decide | exact h)).symm)
        · replace h3 := t_lss hO h3
          obtain ⟨z, hz⟩ : ∃ z, l[k2]? = some z := ⟨_, List.getElem?_eq_getElem (by omega)⟩
          have hat2 : atX xs i2 (labD z) := atX_map hz hxs hi2
          conv => cbv
          refine ⟨_, hat2, ?_⟩
          conv => cbv
          refine ⟨_, hat, ?_⟩
          conv => cbv
          rintro (_ | _) ht
          · replace ht : z.k ≠ yk := f_seql hO ht
            conv => cbv
            exact ⟨_, _, up2 _ _ ⟨_, k2 + 1, rfl, by rw [o_add64 hO (by omega) (by omega)]; omega, by omega, rfl, hno_step hno2 hz (by simpa using ht)⟩, ⟨⟨rfl, rfl, rfl, trivial⟩, trivial, rfl⟩, by omega⟩
          · replace ht : z.k = yk := t_seql hO ht
            conv => cbv
            have ha := any_take_true (p := fun z => decide (z.k = yk)) (show k2 < k by omega) hz (by simpa using ht)
            rw [ha] at he
            all_goals first
              | (exfalso; omega)
              | exact ⟨_, _, up _ _ ⟨_, k + 1, rfl, by rw [o_add64 hO (by omega) (by omega)]; omega, by omega, rfl, scan_step hno (by rw [hg]; first | exact he | exact he.symm | (rw [he]; rfl) | (rw [he]; simp [h]; done) | exact h)⟩, ⟨⟨rfl, rfl, trivial⟩, trivial, rfl⟩, by omega⟩
              | exact (by rw [hr]; exact congrArg (D.int .i64) (scanE_hit (by omega) hno (by rw [hg]; first | exact he | exact he.symm | (rw [he]; rfl) | (rw [he]; simp [h]; done) | rfl) (by first | decide | exact h)).symm)
  · replace h0 := t_gtr hO h0
    rw [hlen] at h0
    conv => cbv
    rw [hr0, if_pos (by omega)]
end Go.Proofs.AM
