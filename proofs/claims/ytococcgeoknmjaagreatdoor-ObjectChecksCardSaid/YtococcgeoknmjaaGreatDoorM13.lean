/- Part 13 of the lemmas: ZOh. -/
import Derived.Test.YtococcgeoknmjaaGreatDoorM12
namespace Go.Proofs.AM
open Go Go.Lib Cd
structure CO (R : Ans) : Prop where
  named : ∀ l : List Str, FL l → R.v 55 [.sl 1 false (l.map mkS)] (.bool (l.all nameB))
  want : ∀ (b : Bool) (e : Int), R.v 54 [.bool b, .int .i64 e] (.int .i64 (wantI b e))
  first : ∀ l : List Int, l.length < 4611686018427387904 → R.v 53 [.sl 1 false (l.map iD)] (.int .i64 (firstI l))
  btw : ∀ n lo hi, R.v 59 [.int .i64 n, .int .i64 lo, .int .i64 hi] (.bool (btw n lo hi))
  none : ∀ s, SL s → R.v 60 [mkS s] (.bool (noneB s))
  amt : ∀ n, R.v 62 [.int .i64 n] (.int .i64 (amtE n))
  amts : ∀ a b, R.v 56 [.agg [.int .i64 a, .int .i64 b]] (.int .i64 (amtsE a b))
  offs : ∀ l : List OffV, FLs FO l → R.v 63 [.sl 3 false (l.map offD)] (.int .i64 (offsE l))
set_option maxRecDepth 100000 in
set_option maxHeartbeats 2000000 in
theorem pod21_ok (R : Ans) (h : CO R) (p : PodV) (hF : FPod p) (h36 : R.v 36 [.sl 4 false (p.reqs.map reqD)] (.int .i64 (reqsE 8 p.reqs))) (h57 : R.v 57 [.sl 3 false (p.tols.map tolD)] (.int .i64 (tolsE p.tols))) (h58 : R.v 58 [podD p] (.int .i64 (allTE p.spr p.near p.apart))) :
    AnsF R c21 [podD p] (.int .i64 (podE p)) := by
  have k1 := h.named [p.name, p.app] ⟨by simp, by simpa using ⟨hF.name, hF.app⟩⟩
  have k2 := h.amts p.n0 p.n1
  have k3 := h.btw p.since 0 1099511627776
  have k4 := h.none p.on hF.on
  obtain ⟨r, hr⟩ : ∃ r, r = podE p := ⟨_, rfl⟩
  rw [← hr]
  unfold podE at hr
  obtain ⟨q1, hq1⟩ : ∃ q, q = (nameB p.name && nameB p.app) := ⟨_, rfl⟩
  obtain ⟨q3, hq3⟩ : ∃ q, q = btw p.since 0 1099511627776 := ⟨_, rfl⟩
  obtain ⟨q4, hq4⟩ : ∃ q, q = noneB p.on := ⟨_, rfl⟩
  obtain ⟨q5, hq5⟩ : ∃ q, q = btw p.prio (-1000) 1000 := ⟨_, rfl⟩
  rw [show [p.name, p.app].all nameB = q1 by rw [hq1]; simp] at k1
  rw [← hq1, ← hq3, ← hq4, ← hq5] at hr
  rw [← hq3] at k3
  rw [← hq4] at k4
  obtain ⟨e1, he1⟩ : ∃ e, e = amtsE p.n0 p.n1 := ⟨_, rfl⟩
  obtain ⟨e2, he2⟩ : ∃ e, e = reqsE 8 p.reqs := ⟨_, rfl⟩
  obtain ⟨e3, he3⟩ : ∃ e, e = tolsE p.tols := ⟨_, rfl⟩
  obtain ⟨e4, he4⟩ : ∃ e, e = allTE p.spr p.near p.apart := ⟨_, rfl⟩
  rw [← he1] at k2 hr
  rw [← he2] at h36 hr
  rw [← he3] at h57 hr
  rw [← he4] at h58 hr
  have w1 := h.want q1 7
  have w2 := h.want q5 1
  have w3 := h.want q3 1
  have w4 := h.want q4 7
  have f := h.first [wantI q1 7, e1, wantI q5 1, e2, e3, e4, wantI q3 1, wantI q4 7] (by simp)
  rw [← hr] at f
  obtain ⟨v1, hv1⟩ : ∃ v, v = wantI q1 7 := ⟨_, rfl⟩
  obtain ⟨v2, hv2⟩ : ∃ v, v = wantI q5 1 := ⟨_, rfl⟩
  obtain ⟨v3, hv3⟩ : ∃ v, v = wantI q3 1 := ⟨_, rfl⟩
  obtain ⟨v4, hv4⟩ : ∃ v, v = wantI q4 7 := ⟨_, rfl⟩
  rw [← hv1] at w1 f
  rw [← hv2] at w2 f
  rw [← hv3] at w3 f
  rw [← hv4] at w4 f
  clear h hr hq1 hq3 hq4 he1 he2 he3 he4 hv1 hv2 hv3 hv4
  unfold podD podC at h58 ⊢
  simp only [List.map] at f k1
  obtain ⟨rs, hrs⟩ : ∃ xs, xs = p.reqs.map reqD := ⟨_, rfl⟩
  obtain ⟨ts, hts⟩ : ∃ xs, xs = p.tols.map tolD := ⟨_, rfl⟩
  obtain ⟨ss, hss⟩ : ∃ xs, xs = p.spr.map sprD := ⟨_, rfl⟩
  obtain ⟨ns, hns⟩ : ∃ xs, xs = p.near.map labD := ⟨_, rfl⟩
  obtain ⟨aps, has⟩ : ∃ xs, xs = p.apart.map labD := ⟨_, rfl⟩
  have c1 : CleanL rs := cleanL_map clean_req hrs
  have c2 : CleanL ts := cleanL_map (fun _ => ⟨rfl, rfl⟩) hts
  have c3 : CleanL ss := cleanL_map (fun _ => ⟨rfl, rfl⟩) hss
  have c4 : CleanL ns := cleanL_map (fun _ => ⟨rfl, rfl⟩) hns
  have c5 : CleanL aps := cleanL_map (fun _ => ⟨rfl, rfl⟩) has
  rw [← hrs] at h36
  rw [← hts] at h57
  rw [← hrs, ← hts, ← hss, ← hns, ← has] at h58 ⊢
  obtain ⟨pr, hpr⟩ : ∃ x, x = p.prio := ⟨_, rfl⟩
  rw [← hpr] at hq5 h58 ⊢
  refine wpF_sound ⟨rfl, by decide⟩ fun O hO V hV => ?_
  subst hV
  cases q5 <;> simp [btw] at hq5 <;> conv => cbv
  all_goals (repeat' (first | (rintro (_ | _) h <;> (first | replace h := ci hO h | replace h := cs hO h) <;> (dsimp only [CmpI, CmpS] at h) <;> first | (exfalso; omega) | (conv => cbv)) | (refine ⟨_, by assumption, ?_⟩; (conv => cbv)) | (refine And.intro (by first | assumption | exact ⟨rfl⟩ | exact ⟨rfl, rfl⟩) ?_)))
  all_goals first | trivial | (exfalso; omega)
set_option maxRecDepth 100000 in
set_option maxHeartbeats 2000000 in
theorem pool22_ok (R : Ans) (h : CO R) (p : PoolV) (hF : FPool p) (h36 : R.v 36 [.sl 4 false (p.reqs.map reqD)] (.int .i64 (reqsE 8 p.reqs))) (h61 : R.v 61 [.sl 2 false (p.taints.map labD)] (.int .i64 (tntsE p.taints))) :
    AnsF R c22 [poolD p] (.int .i64 (poolE p)) := by
  have k1 := h.named [p.name] ⟨by simp, by simpa using hF.name⟩
  have k2 := h.amts p.l0 p.l1
  have k3 := h.btw p.gen 0 1099511627776
  have k4 := h.btw p.expire 0 1073741824
  obtain ⟨r, hr⟩ : ∃ r, r = poolE p := ⟨_, rfl⟩
  rw [← hr]
  unfold poolE at hr
  obtain ⟨q1, hq1⟩ : ∃ q, q = nameB p.name := ⟨_, rfl⟩
  obtain ⟨q2, hq2⟩ : ∃ q, q = btw p.weight 0 100 := ⟨_, rfl⟩
  obtain ⟨q3, hq3⟩ : ∃ q, q = btw p.gen 0 1099511627776 := ⟨_, rfl⟩
  obtain ⟨q4, hq4⟩ : ∃ q, q = btw p.expire 0 1073741824 := ⟨_, rfl⟩
  obtain ⟨q5, hq5⟩ : ∃ q, q = btw p.budget 0 16 := ⟨_, rfl⟩
  obtain ⟨q6, hq6⟩ : ∃ q, q = btw p.merge 0 2 := ⟨_, rfl⟩
  rw [show [p.name].all nameB = q1 by rw [hq1]; simp] at k1
  rw [← hq1, ← hq2, ← hq3, ← hq4, ← hq5, ← hq6] at hr
  rw [← hq3] at k3
  rw [← hq4] at k4
  obtain ⟨e1, he1⟩ : ∃ e, e = amtsE p.l0 p.l1 := ⟨_, rfl⟩
  obtain ⟨e2, he2⟩ : ∃ e, e = reqsE 8 p.reqs := ⟨_, rfl⟩
  obtain ⟨e3, he3⟩ : ∃ e, e = tntsE p.taints := ⟨_, rfl⟩
  rw [← he1] at k2 hr
  rw [← he2] at h36 hr
  rw [← he3] at h61 hr
  obtain ⟨q7, hq7⟩ : ∃ q, q = (q3 && (q4 && (q5 && q6))) := ⟨_, rfl⟩
  rw [← hq7] at hr
  have w1 := h.want q1 7
  have w2 := h.want q2 1
  have w3 := h.want q7 1
  have f := h.first [wantI q1 7, wantI q2 1, e1, e2, e3, wantI q7 1] (by simp)
  rw [← hr] at f
  clear h hr hq1 hq3 hq4 he1 he2 he3
  unfold poolD poolC
  simp only [List.map] at f k1
  obtain ⟨rs, hrs⟩ : ∃ xs, xs = p.reqs.map reqD := ⟨_, rfl⟩
  obtain ⟨ts, hts⟩ : ∃ xs, xs = p.taints.map labD := ⟨_, rfl⟩
  have c1 : CleanL rs := cleanL_map clean_req hrs
  have c2 : CleanL ts := cleanL_map (fun _ => ⟨rfl, rfl⟩) hts
  rw [← hrs] at h36 ⊢
  rw [← hts] at h61 ⊢
  obtain ⟨z1, hz1⟩ : ∃ x, x = p.weight := ⟨_, rfl⟩
  obtain ⟨z2, hz2⟩ : ∃ x, x = p.budget := ⟨_, rfl⟩
  obtain ⟨z3, hz3⟩ : ∃ x, x = p.merge := ⟨_, rfl⟩
  rw [← hz1] at hq2 ⊢
  rw [← hz2] at hq5 ⊢
  rw [← hz3] at hq6 ⊢
  refine wpF_sound ⟨rfl, by decide⟩ fun O hO V hV => ?_
  subst hV
  subst hq5 hq6
  obtain ⟨v1, hv1⟩ : ∃ v, v = wantI q1 7 := ⟨_, rfl⟩
  rw [← hv1] at w1 f
  clear hv1
  cases q2 <;> simp [btw] at hq2 <;> cases q3 <;> cases q4 <;> cases q7 <;> simp [btw] at hq7 <;> simp only [wantI_true, wantI_false] at w2 w3 f <;> conv => cbv
  all_goals (repeat' (first | (rintro (_ | _) h <;> (first | replace h := ci hO h | replace h := cs hO h) <;> (dsimp only [CmpI, CmpS] at h) <;> first | (exfalso; omega) | (conv => cbv)) | (refine ⟨_, by assumption, ?_⟩; (conv => cbv)) | (refine And.intro (by first | assumption | exact ⟨rfl⟩ | exact ⟨rfl, rfl⟩) ?_)))
  all_goals first | trivial | (exfalso; omega)
end Go.Proofs.AM
