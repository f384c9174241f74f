/- Part 18 of the lemmas: ZXh, PXf, ZXi, ZXj, PXg, ZXk, ZGNc. -/
import Derived.Test.YtococcgeoknmjaaGreatDoorM17
import Derived.Test.YtococcgeoknmjaaGreatDoorM12
import Derived.Test.YtococcgeoknmjaaGreatDoorM15
import Derived.Test.YtococcgeoknmjaaGreatDoorM11
import Derived.Test.YtococcgeoknmjaaGreatDoorM13
namespace Go.Proofs.AM
open Go Go.Lib Cd
theorem can_err (l : List ReqV) : (canE l).2 = (setsE l).2 := by
  unfold canE
  split
  · rfl
  · rename_i h; simp only [ne_eq, Decidable.not_not] at h; rw [h]
set_option maxRecDepth 100000 in
set_option maxHeartbeats 2000000 in
theorem met14_ok (R : Ans) (l : List ReqV) (L : List LabV) (hl : FLs FR l) (hL : FLs FLab L) (h34 : R.v 34 [.sl 4 false (l.map reqD), .sl 2 false (L.map labD)] (.tup [.bool (admE l L).1, .int .i64 (admE l L).2]))
    (h33 : R.v 33 [.sl 4 false (l.map reqD)] (.tup [.sl 7 false ((setsE l).1.map keyedD), .int .i64 (setsE l).2])) (h41 : R.v 41 [.sl 4 false (l.map reqD)] (.tup [.bool (canE l).1, .int .i64 (canE l).2]))
    (h35 : R.v 35 [] (.bool true)) (h45 : ∀ x v, x ∈ (setsE l).1 → SL v → R.v 45 [setD x.s, mkS v] (.bool (hasB x.s v))) (hlen : (setsE l).1.length < 4611686018427387904) : AnsF R c14 [.sl 4 false (l.map reqD), .sl 2 false (L.map labD)] (.bool true) := by
  have hLt := hL.lt
  have hbad := adm_bad (l := l) (L := L)
  have hlaw := met_law (l := l) (L := L)
  rw [can_err] at h41
  obtain ⟨xs, hxs⟩ : ∃ xs, xs = l.map reqD := ⟨_, rfl⟩
  obtain ⟨ys, hys⟩ : ∃ xs, xs = L.map labD := ⟨_, rfl⟩
  have cx : CleanL xs := cleanL_map clean_req hxs
  have cy : CleanL ys := cleanL_map (fun x => show Clean (labD x) from ⟨rfl, rfl⟩) hys
  obtain ⟨⟨r1, r2⟩, hr⟩ : ∃ r, r = admE l L := ⟨_, rfl⟩
  rw [← hr] at h34 hbad hlaw
  obtain ⟨⟨K, e⟩, hK⟩ : ∃ r, r = setsE l := ⟨_, rfl⟩
  rw [← hK] at h33 h41 h45 hlaw hlen
  obtain ⟨c1, hc⟩ : ∃ r, r = (canE l).1 := ⟨_, rfl⟩
  rw [← hc] at h41 hlaw
  rw [← hxs] at h34 h33 h41 ⊢
  rw [← hys] at h34 ⊢
  obtain ⟨zs, hzs⟩ : ∃ xs, xs = K.map keyedD := ⟨_, rfl⟩
  simp only at h34 h33 h41 hbad hlaw h45 hlen
  rw [← hzs] at h33
  clear hr hK hc
  refine wpF_sound ⟨rfl, by decide⟩ fun O hO V hV => ?_
  subst hV
  have hlz : O .len zs = K.length := by rw [o_len hO, hzs]; simp
  have hly : O .len ys = L.length := by rw [o_len hO, hys]; simp
  conv => cbv
  repeat' (refine And.intro (by first | assumption | exact ⟨rfl⟩ | exact ⟨rfl, rfl⟩) ?_)
  refine ⟨_, h34, ?_⟩
  conv => cbv
  rintro (_ | _) h <;> replace h := ci hO h <;> dsimp only [CmpI] at h
  case true =>
    obtain rfl := hbad h
    conv => cbv
    refine ⟨_, h35, ?_⟩
    conv => cbv
    trivial
  subst h
  obtain ⟨hL0, h3, hlaw⟩ := hlaw rfl
  clear hbad h34
  conv => cbv
  repeat' (refine And.intro (by first | assumption | exact ⟨rfl⟩ | exact ⟨rfl, rfl⟩) ?_)
  refine ⟨_, h41, ?_⟩
  conv => cbv
  repeat' (refine And.intro (by first | assumption | exact ⟨rfl⟩ | exact ⟨rfl, rfl⟩) ?_)
  refine ⟨_, h33, ?_⟩
  conv => cbv
  rintro (_ | _) h <;> replace h := ci hO h <;> dsimp only [CmpI] at h
  case true => exact absurd rfl h
  clear h
  conv => cbv
  rintro (_ | _) h <;> replace h := ci hO h <;> dsimp only [CmpI] at h
  case true =>
    conv => cbv
    refine ⟨_, h35, ?_⟩
    conv => cbv
    rcases h3 with h4 | h4
    · exact absurd h4 h
    subst h4
    rintro (_ | _) h
    · conv => cbv
      exfalso; exact f_eql hO h rfl
    conv => cbv
    trivial
  subst h
  obtain ⟨ht, hcan⟩ := hlaw rfl
  clear h41 h33
  conv => cbv
  refine loop_of (fun n d => ∃ (i : Int) (k : Nat) (b : Bool), d = ⟨[(1, .sl 2 false ys), (5, .bool r1), (7, .bool c1), (9, .sl 7 false zs), (11, .bool b), (12, .int .i64 i)], [], false⟩ ∧ i = k ∧ k ≤ K.length ∧ n = K.length - k ∧ b = (K.take k).all fun x => thereB x L) ⟨_, _, ⟨_, 0, true, rfl, rfl, by omega, rfl, by simp⟩, ⟨⟨rfl, rfl, rfl, rfl, rfl, rfl, trivial⟩, trivial, rfl⟩⟩ ?_
  rintro J up n d ⟨i, k, b, rfl, hi, hk, rfl, hb⟩
  conv => cbv
  rintro (_ | _) h1
  · replace h1 := f_lss hO h1
    rw [hlz] at h1
    rw [List.take_of_length_le (by omega), ht] at hb
    subst hb
    clear up
    conv => cbv
    refine ⟨_, h35, ?_⟩
    conv => cbv
    intro t htt
    replace htt := b_eq hO htt
    rw [beq_self_eq_true] at htt
    subst htt
    cases b
    · conv => cbv
      trivial
    · obtain rfl := hcan rfl
      conv => cbv
      trivial
  replace h1 := t_lss hO h1
  rw [hlz] at h1
  obtain ⟨x, hx⟩ : ∃ x, K[k]? = some x := ⟨_, List.getElem?_eq_getElem (by omega)⟩
  have hatz : atX zs i (keyedD x) := atX_map hx hzs hi
  have hxk : x ∈ K := List.mem_of_getElem? hx
  have hb2 : (K.take (k + 1)).all (fun x => thereB x L) = (b && thereB x L) := by
    rw [List.take_add_one, hx, Option.toList_some, List.all_append, hb]
    simp
  have h45' := fun v => h45 x v hxk
  have h0 : thereB x (L.take 0) = x.s.m := rfl
  have hstep := fun (j : Nat) (y : LabV) (hy : L[j]? = some y) => there_step (x := x) hy (labs_keys hL0 hy)
  have hend : thereB x L = thereB x (L.take L.length) := by rw [List.take_length]
  obtain ⟨T, hT⟩ : ∃ T : Nat → Bool, T = fun j => thereB x (L.take j) := ⟨_, rfl⟩
  have hT' : ∀ j, thereB x (L.take j) = T j := fun j => by rw [hT]
  rw [hend] at hb2
  simp only [hT'] at h0 hstep hb2
  clear hT hT' hend h45
  obtain ⟨xk, ⟨sm, sn, su, sl, slo, shi⟩⟩ := x
  simp only [keyedD, keyC, setD] at hatz h45' hstep h0
  obtain ⟨ls, hls⟩ : ∃ xs, xs = sl.map mkS := ⟨_, rfl⟩
  have cl : CleanL ls := cleanL_map clean_S hls
  obtain ⟨H, hH⟩ : ∃ H : Str → Bool, H = fun v => hasB ⟨sm, sn, su, sl, slo, shi⟩ v := ⟨_, rfl⟩
  have hH' : ∀ v, hasB ⟨sm, sn, su, sl, slo, shi⟩ v = H v := fun v => by rw [hH]
  simp only [← hls, hH'] at hatz h45' hstep
  clear hls hH hH' hb hx hxk
  conv => cbv
  refine ⟨_, hatz, ?_⟩
  conv => cbv
  refine loop_of (fun n d => ∃ (j : Int) (m : Nat) (t : Bool), d = ⟨[(1, .sl 2 false ys), (5, .bool r1), (7, .bool c1), (9, .sl 7 false zs), (11, .bool b), (12, .int .i64 i), (13, .bool t), (14, .int .i64 j)], [], false⟩ ∧ j = m ∧ m ≤ L.length ∧ n = L.length - m ∧ t = T m) ⟨_, _, ⟨_, 0, sm, rfl, rfl, by omega, rfl, h0.symm⟩, ⟨⟨rfl, rfl, rfl, rfl, rfl, rfl, rfl, rfl, trivial⟩, trivial, rfl⟩⟩ ?_
  rintro J2 up2 n d ⟨j, m, t, rfl, hj, hm, rfl, ht2⟩
  conv => cbv
  rintro (_ | _) h2
  · replace h2 := f_lss hO h2
    rw [hly] at h2
    obtain rfl : m = L.length := by omega
    rw [← ht2] at hb2
    clear up2 h45' hstep
    cases b
    · conv => cbv
      exact ⟨_, _, up _ _ ⟨_, k + 1, _, rfl, by rw [o_add64 hO (by omega) (by omega)]; omega, by omega, rfl, by rw [hb2]; rfl⟩, ⟨⟨rfl, rfl, rfl, rfl, rfl, rfl, trivial⟩, trivial, rfl⟩, by omega⟩
    · conv => cbv
      exact ⟨_, _, up _ _ ⟨_, k + 1, _, rfl, by rw [o_add64 hO (by omega) (by omega)]; omega, by omega, rfl, by rw [hb2]; rfl⟩, ⟨⟨rfl, rfl, rfl, rfl, rfl, rfl, trivial⟩, trivial, rfl⟩, by omega⟩
  replace h2 := t_lss hO h2
  rw [hly] at h2
  obtain ⟨y, hy⟩ : ∃ y, L[m]? = some y := ⟨_, List.getElem?_eq_getElem (by omega)⟩
  have haty : atX ys j (labD y) := atX_map hy hys hj
  have hs := hstep m y hy
  have hv := h45' y.v (hL.all y (List.mem_of_getElem? hy)).v
  obtain ⟨yk, yv⟩ := y
  simp only [labD] at haty hv hs
  obtain ⟨hB, hhB⟩ : ∃ b, b = H yv := ⟨_, rfl⟩
  rw [← hhB] at hv hs
  clear hhB hy hstep h45'
  conv => cbv
  refine ⟨_, haty, ?_⟩
  conv => cbv
  refine ⟨_, hatz, ?_⟩
  conv => cbv
  rintro (_ | _) h3 <;> replace h3 := cs hO h3 <;> dsimp only [CmpS] at h3
  · rw [if_neg h3] at hs
    conv => cbv
    exact ⟨_, _, up2 _ _ ⟨_, m + 1, _, rfl, by rw [o_add64 hO (by omega) (by omega)]; omega, by omega, rfl, by rw [hs]; exact ht2⟩, ⟨⟨rfl, rfl, rfl, rfl, rfl, rfl, rfl, rfl, trivial⟩, trivial, rfl⟩, by omega⟩
  · rw [if_pos h3] at hs
    conv => cbv
    refine ⟨_, hatz, ?_⟩
    conv => cbv
    refine ⟨_, haty, ?_⟩
    conv => cbv
    repeat' (refine And.intro (by first | assumption | exact ⟨rfl⟩ | exact ⟨rfl, rfl⟩) ?_)
    refine ⟨_, hv, ?_⟩
    conv => cbv
    exact ⟨_, _, up2 _ _ ⟨_, m + 1, _, rfl, by rw [o_add64 hO (by omega) (by omega)]; omega, by omega, rfl, by rw [hs]⟩, ⟨⟨rfl, rfl, rfl, rfl, rfl, rfl, rfl, rfl, trivial⟩, trivial, rfl⟩, by omega⟩
end Go.Proofs.AM
namespace Go.Proofs.AM
open Go Go.Lib
theorem ins_at {x : KeyV} : ∀ {l : List KeyV} {k : Nat}, k ≤ l.length → (∀ (j : Nat) y, j < k → l[j]? = some y → y.k < x.k) → (∀ y, l[k]? = some y → ¬ y.k < x.k) → insK x l = l.take k ++ x :: l.drop k
  | [], k, hk, _, _ => by
    obtain rfl : k = 0 := by simpa using hk
    rfl
  | y :: r, 0, _, _, h => by
    unfold insK
    rw [if_neg (h y rfl)]
    rfl
  | y :: r, k + 1, hk, h, h2 => by
    unfold insK
    rw [if_pos (h 0 y (by omega) rfl), ins_at (k := k) (by simpa using hk) (fun j z hj hz => h (j + 1) z (by omega) (by simpa using hz)) (fun z hz => h2 z (by simpa using hz))]
    rfl
theorem setK_at {k : Str} {s : SetV} : ∀ {l : List KeyV} {i : Nat} {x : KeyV}, (l.map (·.k)).Nodup → l[i]? = some x → x.k = k → setK k s l = l.set i ⟨k, s⟩
  | [], i, x, _, h, _ => by simp at h
  | y :: r, 0, x, hn, h, hk => by
    simp only [List.getElem?_cons_zero, Option.some.injEq] at h
    subst h
    simp only [List.map_cons, List.nodup_cons] at hn
    have : setK k s (y :: r) = ⟨k, s⟩ :: setK k s r := by simp only [setK, List.map_cons, if_pos hk]
    rw [this, setK_away fun z hz e => hn.1 (List.mem_map.2 ⟨z, hz, by rw [e, hk]⟩)]
    rfl
  | y :: r, i + 1, x, hn, h, hk => by
    simp only [List.map_cons, List.nodup_cons] at hn
    simp only [List.getElem?_cons_succ] at h
    have hy : y.k ≠ k := fun e => hn.1 (List.mem_map.2 ⟨x, List.mem_of_getElem? h, by rw [hk, e]⟩)
    have : setK k s (y :: r) = y :: setK k s r := by simp only [setK, List.map_cons, if_neg hy]
    rw [this, setK_at hn.2 h hk]
    rfl
theorem find_idx {l : List KeyV} {k : Str} : (l.find? (fun y => decide (y.k = k)) = none ∧ idxI (fun y : KeyV => decide (y.k = k)) l = -1) ∨ ∃ (i : Nat) (x : KeyV), l[i]? = some x ∧ x.k = k ∧ l.find? (fun y => decide (y.k = k)) = some x ∧ idxI (fun y : KeyV => decide (y.k = k)) l = i := by
  unfold idxI
  cases h : l.findIdx? (fun y : KeyV => decide (y.k = k)) with
  | none =>
    left
    rw [List.findIdx?_eq_none_iff] at h
    exact ⟨List.find?_eq_none.2 fun x hx => by simpa using h x hx, rfl⟩
  | some i =>
    right
    rw [List.findIdx?_eq_some_iff_getElem] at h
    obtain ⟨h1, h2, h3⟩ := h
    exact ⟨i, l[i], List.getElem?_eq_getElem h1, by simpa using h2, find_at (List.getElem?_eq_getElem h1) h2 fun j z hj hz => by
      obtain ⟨h4, rfl⟩ := List.getElem?_eq_some_iff.1 hz
      have := h3 j hj
      simpa using this, rfl⟩
theorem insK_len (x : KeyV) (l : List KeyV) : (insK x l).length = l.length + 1 := by
  have := (insK_perm x l).length_eq
  simpa using this
theorem setK_len (k : Str) (s : SetV) (l : List KeyV) : (setK k s l).length = l.length := by unfold setK; simp
end Go.Proofs.AM
namespace Go.Proofs.AM
open Go Go.Lib Cd
set_option maxRecDepth 100000 in
set_option maxHeartbeats 2000000 in
theorem find94_ok (R : Ans) (l : List KeyV) (hl : l.length < 4611686018427387904) (key : Str) : AnsF R c94 [.sl 7 false (l.map keyedD), mkS key] (.int .i64 (idxI (fun y : KeyV => decide (y.k = key)) l)) := by
  obtain ⟨xs, hxs⟩ : ∃ xs, xs = l.map keyedD := ⟨_, rfl⟩
  obtain ⟨r, hr⟩ : ∃ r, r = idxI (fun y : KeyV => decide (y.k = key)) l := ⟨_, rfl⟩
  rw [← hxs, ← hr]
  refine wpF_sound ⟨rfl, by decide⟩ fun O hO V hV => ?_
  subst hV
  have hlen : O .len xs = l.length := by rw [o_len hO, hxs]; simp
  conv => cbv
  refine loop_of (fun n d => ∃ (i : Int) (k : Nat), d = ⟨[(0, .sl 7 false xs), (1, mkS key), (5, .int .i64 i)], [], false⟩ ∧ i = k ∧ k ≤ l.length ∧ n = l.length - k ∧ ∀ (j : Nat) z, j < k → l[j]? = some z → (fun y : KeyV => decide (y.k = key)) z = false) ⟨_, _, ⟨_, 0, rfl, rfl, by omega, rfl, by simp⟩, ⟨⟨rfl, rfl, rfl, trivial⟩, trivial, rfl⟩⟩ ?_
  rintro J up n d ⟨i, k, rfl, hi, hk, rfl, hno⟩
  conv => cbv
  rintro (_ | _) h1
  · replace h1 := f_lss hO h1
    rw [hlen] at h1
    have : r = -1 := by
      rw [hr]
      exact idxI_none fun y hy => by
        obtain ⟨j, hj⟩ := List.mem_iff_getElem?.1 hy
        exact hno j y (by have := (List.getElem?_eq_some_iff.1 hj).1; omega) hj
    conv => cbv
    rw [this]
  · replace h1 := t_lss hO h1
    rw [hlen] at h1
    obtain ⟨y, hy⟩ : ∃ y, l[k]? = some y := ⟨_, List.getElem?_eq_getElem (by omega)⟩
    have hat : atX xs i (keyedD y) := atX_map hy hxs hi
    have hhit : y.k = key → r = i := fun h => by rw [hr, idxI_hit hy (by simpa using h) hno, hi]
    have hgo : y.k ≠ key → ∀ (j : Nat) z, j < k + 1 → l[j]? = some z → (fun y : KeyV => decide (y.k = key)) z = false := fun h => hno_step hno hy (by simpa using h)
    obtain ⟨kk, ⟨m, nn, u, ll, lo, hh⟩⟩ := y
    unfold keyedD keyC at hat
    simp only at hat hhit hgo
    obtain ⟨ls, hls⟩ : ∃ xs, xs = ll.map mkS := ⟨_, rfl⟩
    rw [← hls] at hat
    conv => cbv
    refine ⟨_, hat, ?_⟩
    conv => cbv
    rintro (_ | _) h2 <;> replace h2 := cs hO h2 <;> dsimp only [CmpS] at h2
    · have h3 := hgo h2
      conv => cbv
      exact ⟨_, _, up _ _ ⟨_, k + 1, rfl, by rw [o_add64 hO (by omega) (by omega)]; omega, by omega, rfl, h3⟩, ⟨⟨rfl, rfl, rfl, trivial⟩, trivial, rfl⟩, by omega⟩
    · have h3 := hhit h2
      conv => cbv
      rw [h3]
set_option maxRecDepth 100000 in
set_option maxHeartbeats 2000000 in
theorem rcan42_ok (R : Ans) (l : List ReqV) (hlt : (setsE l).1.length < 4611686018427387904) (h38 : R.v 38 [.sl 4 false (l.map reqD)] (.tup [.sl 7 false ((setsE l).1.map keyedD), .int .i64 (setsE l).2])) (h101 : ∀ x, x ∈ (setsE l).1 → R.v 101 [setD x.s] (.bool (emptyB x.s))) :
    AnsF R c42 [.sl 4 false (l.map reqD)] (.tup [.bool (canE l).1, .int .i64 (canE l).2]) := by
  obtain ⟨r, hr⟩ : ∃ r, r = canE l := ⟨_, rfl⟩
  rw [← hr]
  unfold canE at hr
  obtain ⟨xs, hxs⟩ : ∃ xs, xs = l.map reqD := ⟨_, rfl⟩
  have cx : CleanL xs := cleanL_map clean_req hxs
  obtain ⟨⟨K, e⟩, hK⟩ : ∃ r, r = setsE l := ⟨_, rfl⟩
  rw [← hK] at h38 h101 hr hlt
  rw [← hxs] at h38 ⊢
  simp only at h38 h101 hr hlt
  obtain ⟨zs, hzs⟩ : ∃ xs, xs = K.map keyedD := ⟨_, rfl⟩
  rw [← hzs] at h38
  clear hK hxs
  obtain ⟨r1, r2⟩ := r
  simp only
  refine wpF_sound ⟨rfl, by decide⟩ fun O hO V hV => ?_
  subst hV
  have hlz : O .len zs = K.length := by rw [o_len hO, hzs]; simp
  conv => cbv
  refine ⟨cx, _, h38, ?_⟩
  conv => cbv
  rintro (_ | _) h <;> replace h := ci hO h <;> dsimp only [CmpI] at h
  case true =>
    rw [if_pos h] at hr
    simp only [Prod.mk.injEq] at hr
    obtain ⟨rfl, rfl⟩ := hr
    conv => cbv
  subst h
  rw [if_neg (by simp)] at hr
  simp only [Prod.mk.injEq] at hr
  obtain ⟨hr, rfl⟩ := hr
  conv => cbv
  refine loop_of (fun n d => ∃ (i : Int) (k : Nat), d = ⟨[(4, .sl 7 false zs), (6, .int .i64 i)], [], false⟩ ∧ i = k ∧ k ≤ K.length ∧ n = K.length - k ∧ ∀ (j : Nat) z, j < k → K[j]? = some z → (fun x : KeyV => emptyB x.s) z = false) ⟨_, _, ⟨_, 0, rfl, rfl, by omega, rfl, by simp⟩, ⟨⟨rfl, rfl, trivial⟩, trivial, rfl⟩⟩ ?_
  rintro J up n d ⟨i, k, rfl, hi, hk, rfl, hno⟩
  conv => cbv
  rintro (_ | _) h1
  · replace h1 := f_lss hO h1
    rw [hlz] at h1
    have : r1 = true := by
      rw [hr]
      have : K.any (fun x => emptyB x.s) = false := by
        rw [List.any_eq_false]
        intro y hy
        obtain ⟨j, hj⟩ := List.mem_iff_getElem?.1 hy
        have := hno j y (by have := (List.getElem?_eq_some_iff.1 hj).1; omega) hj
        simpa using this
      rw [this]; rfl
    subst this
    conv => cbv
  · replace h1 := t_lss hO h1
    rw [hlz] at h1
    obtain ⟨y, hy⟩ : ∃ y, K[k]? = some y := ⟨_, List.getElem?_eq_getElem (by omega)⟩
    have hat : atX zs i (keyedD y) := atX_map hy hzs hi
    have hk1 := h101 y (List.mem_of_getElem? hy)
    have hhit : emptyB y.s = true → r1 = false := fun h => by
      rw [hr, List.any_eq_true.2 ⟨y, List.mem_of_getElem? hy, h⟩]; rfl
    have hgo : emptyB y.s = false → ∀ (j : Nat) z, j < k + 1 → K[j]? = some z → (fun x : KeyV => emptyB x.s) z = false := fun h => hno_step hno hy h
    obtain ⟨b, hb⟩ : ∃ b, b = emptyB y.s := ⟨_, rfl⟩
    rw [← hb] at hk1 hhit hgo
    clear hb
    obtain ⟨kk, ⟨m, nn, u, ll, lo, hh⟩⟩ := y
    unfold keyedD keyC at hat
    unfold setD at hk1
    simp only at hat hk1
    obtain ⟨ls, hls⟩ : ∃ xs, xs = ll.map mkS := ⟨_, rfl⟩
    have cl : CleanL ls := cleanL_map clean_S hls
    rw [← hls] at hat hk1
    conv => cbv
    refine ⟨_, hat, ?_⟩
    conv => cbv
    repeat' (refine And.intro (by first | assumption | exact ⟨rfl⟩ | exact ⟨rfl, rfl⟩) ?_)
    refine ⟨_, hk1, ?_⟩
    cases b
    · have h2 := hgo rfl
      conv => cbv
      exact ⟨_, _, up _ _ ⟨_, k + 1, rfl, by rw [o_add64 hO (by omega) (by omega)]; omega, by omega, rfl, h2⟩, ⟨⟨rfl, rfl, trivial⟩, trivial, rfl⟩, by omega⟩
    · obtain rfl := hhit rfl
      conv => cbv
theorem clean_app {a b : List D} (ha : CleanL a) (hb : CleanL b) : CleanL (a ++ b) := by
  have c1 : ∀ l : List D, closedL l = l.all closed := fun l => by
    induction l with
    | nil => rfl
    | cons x r ih => simp only [closedL, List.all_cons, ih]
  have s1 : ∀ l : List D, stripL l = l.map strip := fun l => by
    induction l with
    | nil => rfl
    | cons x r ih => simp only [stripL, List.map_cons, ih]
  obtain ⟨h1, h2⟩ := ha
  obtain ⟨h3, h4⟩ := hb
  refine ⟨?_, ?_⟩
  · rw [c1] at *; rw [List.all_append, h1, h3]; rfl
  · rw [s1] at *; rw [List.map_append, h2, h4]
set_option maxRecDepth 100000 in
set_option maxHeartbeats 2000000 in
theorem rmeets44_ok (R : Ans) (a b : List ReqV) (h37 : ∀ l, l = a ∨ l = b → R.v 37 [.sl 4 false (l.map reqD)] (.int .i64 (reqsE 8 l))) (h42 : reqsE 8 a = 0 → reqsE 8 b = 0 → R.v 42 [.sl 4 false ((a ++ b).map reqD)] (.tup [.bool (canE (a ++ b)).1, .int .i64 (canE (a ++ b)).2])) :
    AnsF R c44 [.sl 4 false (a.map reqD), .sl 4 false (b.map reqD)] (.tup [.bool (meetsE a b).1, .int .i64 (meetsE a b).2]) := by
  have ka := h37 a (.inl rfl)
  have kb := h37 b (.inr rfl)
  have la := @reqs_len 8 a
  have lb := @reqs_len 8 b
  obtain ⟨r, hr⟩ : ∃ r, r = meetsE a b := ⟨_, rfl⟩
  rw [← hr]
  unfold meetsE at hr
  obtain ⟨e1, he1⟩ : ∃ e, e = reqsE 8 a := ⟨_, rfl⟩
  obtain ⟨e2, he2⟩ : ∃ e, e = reqsE 8 b := ⟨_, rfl⟩
  rw [← he1] at ka hr h42 la
  rw [← he2] at kb hr h42 lb
  obtain ⟨q, hq⟩ : ∃ q, q = canE (a ++ b) := ⟨_, rfl⟩
  rw [← hq] at hr h42
  obtain ⟨xs, hxs⟩ : ∃ xs, xs = a.map reqD := ⟨_, rfl⟩
  obtain ⟨ys, hys⟩ : ∃ xs, xs = b.map reqD := ⟨_, rfl⟩
  have cx : CleanL xs := cleanL_map clean_req hxs
  have cy : CleanL ys := cleanL_map clean_req hys
  have hxl : xs.length = a.length := by rw [hxs]; simp
  have hyl : ys.length = b.length := by rw [hys]; simp
  have e3 : (a ++ b).map reqD = xs ++ ys := by rw [List.map_append, hxs, hys]
  rw [e3] at h42
  rw [← hxs] at ka ⊢
  rw [← hys] at kb ⊢
  clear he1 he2 hq hxs hys h37 e3
  obtain ⟨q1, q2⟩ := q
  obtain ⟨r1, r2⟩ := r
  simp only at h42 ⊢
  refine wpF_sound ⟨rfl, by decide⟩ fun O hO V hV => ?_
  subst hV
  have hlx : O .len xs = a.length := by rw [o_len hO, hxl]
  have hly : O .len ys = b.length := by rw [o_len hO, hyl]
  rw [← o_app hO] at h42
  have cr : CleanL (O .app xs ys) := by rw [o_app hO]; exact clean_app cx cy
  conv => cbv
  refine ⟨cx, _, ka, ?_⟩
  conv => cbv
  rintro (_ | _) h1 <;> replace h1 := ci hO h1 <;> dsimp only [CmpI] at h1
  case true =>
    rw [if_pos h1] at hr
    simp only [Prod.mk.injEq] at hr
    obtain ⟨rfl, rfl⟩ := hr
    conv => cbv
  rw [if_neg (by simpa using h1)] at hr
  replace la := la h1
  conv => cbv
  refine ⟨cy, _, kb, ?_⟩
  conv => cbv
  rintro (_ | _) h2 <;> replace h2 := ci hO h2 <;> dsimp only [CmpI] at h2
  case true =>
    rw [if_pos h2] at hr
    simp only [Prod.mk.injEq] at hr
    obtain ⟨rfl, rfl⟩ := hr
    conv => cbv
  rw [if_neg (by simpa using h2)] at hr
  simp only [Prod.mk.injEq] at hr
  obtain ⟨rfl, rfl⟩ := hr
  replace lb := lb h2
  replace h42 := h42 h1 h2
  conv => cbv
  refine ⟨⟨cx.c⟩, ⟨by show O .len xs * ((56 : Nat) : Int) ≤ _; rw [hlx]; omega⟩, ?_⟩
  conv => cbv
  refine ⟨⟨cy.c⟩, ⟨by show (O .len xs + O .len ys) * ((56 : Nat) : Int) ≤ _; rw [hlx, hly]; omega⟩, cr, _, h42, ?_⟩
  conv => cbv
set_option maxRecDepth 100000 in
set_option maxHeartbeats 2000000 in
theorem can13_ok (R : Ans) (a b : List ReqV) (h41 : R.v 41 [.sl 4 false (a.map reqD)] (.tup [.bool (canE a).1, .int .i64 (canE a).2])) (h42 : R.v 42 [.sl 4 false (a.map reqD)] (.tup [.bool (canE a).1, .int .i64 (canE a).2]))
    (h43 : R.v 43 [.sl 4 false (a.map reqD), .sl 4 false (b.map reqD)] (.tup [.bool (meetsE a b).1, .int .i64 (meetsE a b).2])) (h44 : R.v 44 [.sl 4 false (a.map reqD), .sl 4 false (b.map reqD)] (.tup [.bool (meetsE a b).1, .int .i64 (meetsE a b).2]))
    (h35 : R.v 35 [] (.bool true)) : AnsF R c13 [.sl 4 false (a.map reqD), .sl 4 false (b.map reqD)] (.bool true) := by
  obtain ⟨xs, hxs⟩ : ∃ xs, xs = a.map reqD := ⟨_, rfl⟩
  obtain ⟨ys, hys⟩ : ∃ xs, xs = b.map reqD := ⟨_, rfl⟩
  have cx : CleanL xs := cleanL_map clean_req hxs
  have cy : CleanL ys := cleanL_map clean_req hys
  obtain ⟨⟨r1, r2⟩, hr⟩ : ∃ r, r = canE a := ⟨_, rfl⟩
  obtain ⟨⟨q1, q2⟩, hq⟩ : ∃ r, r = meetsE a b := ⟨_, rfl⟩
  rw [← hr, ← hxs] at h41 h42
  rw [← hq, ← hxs, ← hys] at h43 h44
  rw [← hxs, ← hys]
  clear hr hq hxs hys
  simp only at h41 h42 h43 h44
  refine wpF_sound ⟨rfl, by decide⟩ fun O hO V hV => ?_
  subst hV
  conv => cbv
  refine ⟨cx, _, h41, ?_⟩
  conv => cbv
  refine ⟨cx, _, h42, ?_⟩
  conv => cbv
  refine ⟨cx, cy, _, h43, ?_⟩
  conv => cbv
  refine ⟨cx, cy, _, h44, ?_⟩
  conv => cbv
  refine ⟨_, h35, ?_⟩
  conv => cbv
  intro t ht
  replace ht := b_eq hO ht
  rw [beq_self_eq_true] at ht
  subst ht
  conv => cbv
  rintro (_ | _) h
  · conv => cbv
    exfalso; exact f_eql hO h rfl
  clear h
  conv => cbv
  intro t ht
  replace ht := b_eq hO ht
  rw [beq_self_eq_true] at ht
  subst ht
  conv => cbv
  rintro (_ | _) h
  · conv => cbv
    exfalso; exact f_eql hO h rfl
  conv => cbv
  trivial
end Go.Proofs.AM
namespace Go.Proofs.AM
open Go Go.Lib Cd
set_option maxRecDepth 100000 in
set_option maxHeartbeats 2000000 in
theorem rsets38_ok (R : Ans) (l : List ReqV) (hl : FLs FR l) (h92 : R.v 92 [.sl 4 false (l.map reqD)] (.int .i64 (reqsE 16 l))) (h93 : ∀ q, FR q → R.v 93 [reqD q] (.tup [setD (ofSet q), .int .i64 (wrongE q)]))
    (h94 : ∀ out key, List.length out < 4611686018427387904 → R.v 94 [.sl 7 false (out.map keyedD), mkS key] (.int .i64 (idxI (fun y : KeyV => decide (y.k = key)) out)))
    (h95 : ∀ a b, FS a → FS b → R.v 95 [setD a, setD b] (.tup [setD (meetS a b).1, .int .i64 (meetS a b).2])) :
    AnsF R c38 [.sl 4 false (l.map reqD)] (.tup [.sl 7 false ((setsE l).1.map keyedD), .int .i64 (setsE l).2]) := by
  have hlt := hl.lt
  obtain ⟨xs, hxs⟩ : ∃ xs, xs = l.map reqD := ⟨_, rfl⟩
  have cx : CleanL xs := cleanL_map clean_req hxs
  obtain ⟨r, hr⟩ : ∃ r, r = setsE l := ⟨_, rfl⟩
  rw [← hr]
  obtain ⟨rs, hrs⟩ : ∃ x, x = r.1.map keyedD := ⟨_, rfl⟩
  obtain ⟨re, hre⟩ : ∃ x, x = r.2 := ⟨_, rfl⟩
  rw [← hrs, ← hre]
  unfold setsE at hr
  obtain ⟨e1, he1⟩ : ∃ e, e = reqsE 16 l := ⟨_, rfl⟩
  have hl16 : e1 = 0 → l.length ≤ 16 := fun h => reqs_len (he1 ▸ h)
  rw [← he1] at hr h92
  rw [← hxs] at h92 ⊢
  clear he1
  refine wpF_sound ⟨rfl, by decide⟩ fun O hO V hV => ?_
  subst hV
  have hlx : O .len xs = l.length := by rw [o_len hO, hxs]; simp
  conv => cbv
  refine ⟨cx, _, h92, ?_⟩
  conv => cbv
  rintro (_ | _) h1 <;> replace h1 := ci hO h1 <;> dsimp only [CmpI] at h1
  case true =>
    rw [if_pos h1] at hr
    rw [hr] at hrs hre
    simp only [List.map_nil] at hrs hre
    subst hrs hre
    conv => cbv
    exact ⟨⟨rfl, rfl⟩, rfl⟩
  rw [if_neg (by simpa using h1)] at hr
  replace hl16 := hl16 h1
  clear h92 h1
  conv => cbv
  refine loop_of (fun n d => ∃ (i : Int) (k : Nat) (out : List KeyV) (g : Nat) (os : List D), d = ⟨[(0, .sl 4 false xs), (5, .own 83 g), (6, .int .i64 i)], [(83, ⟨g, .rw, .arr 7 92, os⟩)], false⟩ ∧ i = k ∧ k ≤ l.length ∧ n = l.length - k ∧ os = out.map keyedD ∧ OrdK out ∧ (∀ x ∈ out, FS x.s) ∧ out.length ≤ k ∧ r = setsF out (l.drop k)) ⟨_, _, ⟨_, 0, [], 1, [], rfl, rfl, by omega, rfl, rfl, by simp [OrdK], by simp, by simp, by simpa using hr⟩, ⟨⟨rfl, rfl, rfl, trivial⟩, ⟨rfl, trivial⟩, rfl⟩⟩ ?_
  rintro J up n d ⟨i, k, out, g, os, rfl, hi, hk, rfl, hos, hord, hfo, hol, hrk⟩
  have co : CleanL os := cleanL_map clean_keyed hos
  have hlo : O .len os = out.length := by rw [o_len hO, hos]; simp
  conv => cbv
  rintro (_ | _) h1
  · replace h1 := f_lss hO h1
    rw [hlx] at h1
    rw [List.drop_eq_nil_of_le (by omega)] at hrk
    unfold setsF at hrk
    rw [hrk] at hrs hre
    simp only at hrs hre
    subst hre
    rw [← hos] at hrs
    subst hrs
    clear up h93 h94 h95
    conv => cbv
    exact ⟨co, rfl⟩
  replace h1 := t_lss hO h1
  rw [hlx] at h1
  obtain ⟨y, hy⟩ : ∃ y, l[k]? = some y := ⟨_, List.getElem?_eq_getElem (by omega)⟩
  have hatx : atX xs i (reqD y) := atX_map hy hxs hi
  have hfy := hl.all y (List.mem_of_getElem? hy)
  rw [List.drop_eq_getElem_cons (by omega), show l[k] = y from (List.getElem?_eq_some_iff.1 hy).2] at hrk
  have k93 := h93 y hfy
  have k94 := h94 out y.key (by omega)
  rw [← hos] at k94
  have k95 := fun a (ha : FS a) => h95 a (ofSet y) ha
  obtain ⟨S, hS⟩ : ∃ S, S = ofSet y := ⟨_, rfl⟩
  unfold setsF at hrk
  have hfind := find_idx (l := out) (k := y.key)
  obtain ⟨ix, hix⟩ : ∃ ix, ix = idxI (fun x : KeyV => decide (x.k = y.key)) out := ⟨_, rfl⟩
  rw [← hix] at k94 hfind
  have fS : FS (ofSet y) := ofSet_fs y
  simp only [← hS] at k93 k95 hrk fS
  obtain ⟨we, hwe⟩ : ∃ we, we = wrongE y := ⟨_, rfl⟩
  rw [← hwe] at k93
  clear hix hwe h93 h94 h95
  obtain ⟨key, op, vals, nn⟩ := y
  obtain ⟨sm, sn, su, sl, slo, shi⟩ := S
  simp only [reqD, setD] at hatx k93 k94 hfind hrk
  obtain ⟨vs, hvs⟩ : ∃ xs, xs = vals.map mkS := ⟨_, rfl⟩
  obtain ⟨ls, hls⟩ : ∃ xs, xs = sl.map mkS := ⟨_, rfl⟩
  have cv : CleanL vs := cleanL_map clean_S hvs
  have cl : CleanL ls := cleanL_map clean_S hls
  simp only [← hvs, ← hls] at hatx k93
  clear hvs
  conv => cbv
  refine ⟨_, hatx, ?_⟩
  conv => cbv
  repeat' (refine And.intro (by first | assumption | exact ⟨rfl⟩ | exact ⟨rfl, rfl⟩) ?_)
  refine ⟨_, k93, ?_⟩
  conv => cbv
  intro g7
  conv => cbv
  refine ⟨_, hatx, ?_⟩
  conv => cbv
  repeat' (refine And.intro (by first | assumption | exact ⟨rfl⟩ | exact ⟨rfl, rfl⟩) ?_)
  refine ⟨_, k94, ?_⟩
  conv => cbv
  intro g10 kd10 cs10
  conv => cbv
  rcases hfind with ⟨hf0, rfl⟩ | ⟨i0, x, hx, hxk, hf1, rfl⟩
  · rintro (_ | _) h2 <;> replace h2 := ci hO h2 <;> dsimp only [CmpI] at h2
    case true => exfalso; omega
    clear h2 k95
    rw [hf0] at hrk
    simp only at hrk
    have hfo2 : ∀ x ∈ insK ⟨key, ⟨sm, sn, su, sl, slo, shi⟩⟩ out, FS x.s := fun x hx => by
      rcases List.mem_cons.1 ((insK_perm _ _).mem_iff.1 hx) with rfl | h
      · exact fS
      · exact hfo x h
    have hord2 : OrdK (insK ⟨key, ⟨sm, sn, su, sl, slo, shi⟩⟩ out) := insK_ord hord fun z hz => by simpa using List.find?_eq_none.1 hf0 z hz
    have hins := @ins_at ⟨key, ⟨sm, sn, su, sl, slo, shi⟩⟩ out
    have hnew : keyedD ⟨key, ⟨sm, sn, su, sl, slo, shi⟩⟩ = .agg [mkS key, .bool sm, .bool sn, .bool su, .sl 1 false ls, .int .i64 slo, .int .i64 shi] := by rw [hls]; rfl
    have hlen2 : (insK ⟨key, ⟨sm, sn, su, sl, slo, shi⟩⟩ out).length = out.length + 1 := insK_len _ _
    obtain ⟨out2, ho2⟩ : ∃ o, o = insK ⟨key, ⟨sm, sn, su, sl, slo, shi⟩⟩ out := ⟨_, rfl⟩
    rw [← ho2] at hrk hfo2 hord2 hlen2
    simp only [← ho2] at hins
    clear ho2 hls
    conv => cbv
    refine loop_of (fun n d => ∃ (a : Int) (m : Nat), d = ⟨[(0, .sl 4 false xs), (5, .own 83 g), (6, .int .i64 i), (7, .ptr 7 g7 0), (12, .int .i64 a)], [(83, ⟨g, .rw, .arr 7 92, os⟩), (7, ⟨g7, .rw, .var, [.bool sm, .bool sn, .bool su, .sl 1 false ls, .int .i64 slo, .int .i64 shi]⟩)], false⟩ ∧ a = m ∧ m ≤ out.length ∧ n = out.length - m ∧ ∀ (j : Nat) y, j < m → out[j]? = some y → y.k < key) ⟨_, _, ⟨_, 0, rfl, rfl, by omega, rfl, by simp⟩, ⟨⟨rfl, rfl, rfl, rfl, rfl, trivial⟩, ⟨rfl, rfl, trivial⟩, rfl⟩⟩ ?_
    rintro J2 up2 n d ⟨a, m, rfl, ha, hm, rfl, hlow⟩
    have goal : (∀ y, out[m]? = some y → ¬ y.k < key) → (O .subL os 0 a ++ [D.agg [mkS key, .bool sm, .bool sn, .bool su, .sl 1 false ls, .int .i64 slo, .int .i64 shi]]) ++ O .subL os a (O .len os) = out2.map keyedD := fun h => by
      rw [hins hm hlow h, ← hnew, o_subL hO, o_subL hO, hlo, hos, ha]
      simp only [List.map_append, List.map_cons, List.map_take, List.map_drop, Int.toNat_natCast, Int.toNat_zero, List.drop_zero, List.append_assoc, List.cons_append, List.nil_append]
      rw [List.take_of_length_le (l := out.map keyedD) (i := out.length) (by simp)]
    have cN : closedL [D.agg [mkS key, .bool sm, .bool sn, .bool su, .sl 1 false ls, .int .i64 slo, .int .i64 shi]] = true := by simp [closedL, closed, mkS, cl.c]
    have hN1 : ∀ x : D, O .len [x] = 1 := fun x => by rw [o_len hO]; rfl
    have hcs : ∀ p q, CleanL (O .subL os p q) := fun p q => cleanL_map clean_keyed (l := (out.take q.toNat).drop p.toNat) (by rw [o_subL hO, hos, List.map_drop, List.map_take])
    have hl1 : O .len (O .subL os 0 a) = m := by
      rw [o_len hO, o_subL hO, hos, ha]
      simp [hm]
    have hl2 : O .len (O .subL os a (O .len os)) = out.length - m := by
      rw [o_len hO, o_subL hO, hlo, hos, ha]
      simp
      omega
    have hla : ∀ x : D, O .len (O .app (O .subL os 0 a) [x]) = m + 1 := fun x => by
      have h5 := o_len hO (O .subL os 0 a)
      rw [hl1] at h5
      rw [o_len hO, o_app hO, List.length_append]
      simp
      omega
    conv => cbv
    rintro (_ | _) h3
    · replace h3 := f_lss hO h3
      rw [hlo] at h3
      have h4 := goal (fun y hy => by have := (List.getElem?_eq_some_iff.1 hy).1; omega)
      clear up2 k93 k94
      conv => cbv
      refine ⟨⟨co.c⟩, ⟨by omega⟩, ⟨by omega⟩, ⟨by rw [hlo]; omega⟩, ⟨(hcs _ _).c⟩, ⟨by show O .len (O .subL os 0 a) * ((64 : Nat) : Int) ≤ _; rw [hl1]; omega⟩, _, hatx, ?_⟩
      conv => cbv
      refine ⟨⟨cN⟩, ⟨cN⟩, ⟨by show (O .len (O .subL os 0 a) + O .len [_]) * ((64 : Nat) : Int) ≤ _; rw [hl1, hN1]; omega⟩, ⟨by omega⟩, ⟨by rw [hlo]; omega⟩, ⟨Int.le_refl _⟩, ⟨(hcs _ _).c⟩, ⟨by show (O .len (O .app (O .subL os 0 a) [_]) + O .len (O .subL os a (O .len os))) * ((64 : Nat) : Int) ≤ _; rw [hla, hl2]; omega⟩, ?_⟩
      exact ⟨_, _, up _ _ ⟨_, k + 1, out2, _, _, rfl, by rw [o_add64 hO (by omega) (by omega)]; omega, by omega, rfl, by rw [o_app hO, o_app hO]; exact h4, hord2, hfo2, by omega, hrk⟩, ⟨⟨rfl, rfl, rfl, trivial⟩, ⟨rfl, trivial⟩, rfl⟩, by omega⟩
    replace h3 := t_lss hO h3
    rw [hlo] at h3
    obtain ⟨z, hz⟩ : ∃ z, out[m]? = some z := ⟨_, List.getElem?_eq_getElem (by omega)⟩
    have hgz : os[O .nat a]? = some (keyedD z) := by rw [o_nat hO, hos, ha]; simp [hz]
    have hno : ¬ z.k < key → _ := fun h => goal fun y hy => by
      rw [hz] at hy; simp only [Option.some.injEq] at hy; subst hy; exact h
    have hyes : z.k < key → ∀ (j : Nat) y, j < m + 1 → out[j]? = some y → y.k < key := fun h j y hj hy => by
      rcases Nat.lt_succ_iff_lt_or_eq.1 hj with h5 | rfl
      · exact hlow j y h5 hy
      · rw [hz] at hy; simp only [Option.some.injEq] at hy; subst hy; exact h
    obtain ⟨zk, ⟨zm, zn, zu, zl, zlo, zhi⟩⟩ := z
    simp only [keyedD, keyC] at hgz hno hyes
    obtain ⟨zs, hzs⟩ : ∃ xs, xs = zl.map mkS := ⟨_, rfl⟩
    rw [← hzs] at hgz
    clear goal hins hz
    conv => cbv
    refine ⟨⟨by omega⟩, ⟨by show _ < O .len os; rw [hlo]; omega⟩, _, hgz, ?_⟩
    conv => cbv
    refine ⟨_, hatx, ?_⟩
    conv => cbv
    rintro (_ | _) h4 <;> replace h4 := cs hO h4 <;> dsimp only [CmpS] at h4
    · have h5 := hno h4
      clear up2 k93 k94
      conv => cbv
      refine ⟨⟨co.c⟩, ⟨by omega⟩, ⟨by omega⟩, ⟨by rw [hlo]; omega⟩, ⟨(hcs _ _).c⟩, ⟨by show O .len (O .subL os 0 a) * ((64 : Nat) : Int) ≤ _; rw [hl1]; omega⟩, _, hatx, ?_⟩
      conv => cbv
      refine ⟨⟨cN⟩, ⟨cN⟩, ⟨by show (O .len (O .subL os 0 a) + O .len [_]) * ((64 : Nat) : Int) ≤ _; rw [hl1, hN1]; omega⟩, ⟨by omega⟩, ⟨by rw [hlo]; omega⟩, ⟨Int.le_refl _⟩, ⟨(hcs _ _).c⟩, ⟨by show (O .len (O .app (O .subL os 0 a) [_]) + O .len (O .subL os a (O .len os))) * ((64 : Nat) : Int) ≤ _; rw [hla, hl2]; omega⟩, ?_⟩
      exact ⟨_, _, up _ _ ⟨_, k + 1, out2, _, _, rfl, by rw [o_add64 hO (by omega) (by omega)]; omega, by omega, rfl, by rw [o_app hO, o_app hO]; exact h5, hord2, hfo2, by omega, hrk⟩, ⟨⟨rfl, rfl, rfl, trivial⟩, ⟨rfl, trivial⟩, rfl⟩, by omega⟩
    · have h5 := hyes h4
      conv => cbv
      exact ⟨_, _, up2 _ _ ⟨_, m + 1, rfl, by rw [o_add64 hO (by omega) (by omega)]; omega, by omega, rfl, h5⟩, ⟨⟨rfl, rfl, rfl, rfl, rfl, trivial⟩, ⟨rfl, rfl, trivial⟩, rfl⟩, by omega⟩
  · rintro (_ | _) h2 <;> replace h2 := ci hO h2 <;> dsimp only [CmpI] at h2
    · exfalso; omega
    clear h2
    rw [hf1] at hrk
    simp only at hrk
    have kk95 := k95 x.s (hfo x (List.mem_of_getElem? hx)) fS
    have hgt : os[O .nat (Int.ofNat i0)]? = some (keyedD x) := by rw [o_nat hO, hos]; simp [hx]
    have hi0 : i0 < out.length := (List.getElem?_eq_some_iff.1 hx).1
    have hsk := fun T => setK_at (s := T) (ordK_nodup hord) hx hxk
    have hst : ∀ T, O .set os (O .nat (Int.ofNat i0)) (keyedD ⟨key, T⟩) = (setK key T out).map keyedD := fun T => by
      rw [hsk T, o_set hO, o_nat hO, hos, List.map_set]; rfl
    have hfo2 := fun T (hT : FS T) => show ∀ z ∈ setK key T out, FS z.s from fun z hz => by
      obtain ⟨w, hw, rfl⟩ := List.mem_map.1 hz
      split
      · exact hT
      · exact hfo w hw
    have hord2 := fun T => setK_ord (k := key) (s := T) hord
    have hlen2 := fun T => setK_len key T out
    have hmf := meet_fs x.s ⟨sm, sn, su, sl, slo, shi⟩
    obtain ⟨⟨T, e⟩, hT⟩ : ∃ r, r = meetS x.s ⟨sm, sn, su, sl, slo, shi⟩ := ⟨_, rfl⟩
    rw [← hT] at kk95 hrk hmf
    replace hst := hst T
    replace hfo2 := hfo2 T hmf
    replace hord2 := hord2 T
    replace hlen2 := hlen2 T
    obtain ⟨out2, ho2⟩ : ∃ o, o = setK key T out := ⟨_, rfl⟩
    simp only [← ho2] at hst hfo2 hord2 hlen2 hrk
    clear k95 hT hsk hfo ho2 hf1
    obtain ⟨xk, ⟨am, an, au, al, alo, ahi⟩⟩ := x
    obtain ⟨tm, tn, tu, tl, tlo, thi⟩ := T
    obtain rfl : xk = key := hxk
    simp only [setD, keyedD, keyC] at kk95 hgt hst
    obtain ⟨las, hla⟩ : ∃ xs, xs = al.map mkS := ⟨_, rfl⟩
    obtain ⟨lts, hlt2⟩ : ∃ xs, xs = tl.map mkS := ⟨_, rfl⟩
    have cla : CleanL las := cleanL_map clean_S hla
    have clt : CleanL lts := cleanL_map clean_S hlt2
    simp only [← hla, ← hlt2, ← hls] at kk95 hgt hst
    conv => cbv
    refine ⟨⟨by simp⟩, ⟨by show _ < O .len os; rw [hlo]; simpa using hi0⟩, _, hgt, ?_⟩
    conv => cbv
    refine ⟨cla, cl, _, kk95, ?_⟩
    conv => cbv
    rintro (_ | _) h3 <;> replace h3 := ci hO h3 <;> dsimp only [CmpI] at h3
    case true =>
      rw [if_neg h3] at hrk
      rw [hrk] at hrs hre
      simp only [List.map_nil] at hrs hre
      subst hrs hre
      clear up k93 k94 kk95
      conv => cbv
      exact ⟨⟨rfl, rfl⟩, rfl⟩
    rw [if_pos h3] at hrk
    conv => cbv
    refine ⟨⟨by simp⟩, ⟨by show _ < O .len os; rw [hlo]; simpa using hi0⟩, _, hgt, ?_⟩
    conv => cbv
    exact ⟨_, _, up _ _ ⟨_, k + 1, out2, _, _, rfl, by rw [o_add64 hO (by omega) (by omega)]; omega, by omega, rfl, hst, hord2, hfo2, by omega, hrk⟩, ⟨⟨rfl, rfl, rfl, trivial⟩, ⟨rfl, trivial⟩, rfl⟩, by omega⟩
end Go.Proofs.AM
namespace Go.Proofs.AM
open Go Go.Lib
def qE : ReqV := ⟨zoneT, 3, [], 0⟩
theorem wrong_qE : wrongE qE = 0 := wrongE_ok name_zone (by decide) (by decide) (fun v hv => by simp [qE] at hv) (by decide)
theorem reqs_rep {m n : Nat} : reqsE m (List.replicate n qE) = if m < n then 3 else 0 := by
  unfold reqsE tooE
  rw [List.length_replicate]
  split
  · rfl
  · have := (scan_at (f := wrongE) (l := List.replicate n qE)).2 fun x hx => by rw [List.eq_of_mem_replicate hx]; exact wrong_qE
    rwa [List.length_replicate] at this
theorem setsF_rep : ∀ n, setsF [⟨zoneT, ofSet qE⟩] (List.replicate n qE) = ([⟨zoneT, ofSet qE⟩], 0)
  | 0 => rfl
  | n + 1 => by
    have h1 : [(⟨zoneT, ofSet qE⟩ : KeyV)].find? (fun x => decide (x.k = qE.key)) = some ⟨zoneT, ofSet qE⟩ := rfl
    have h2 := meet_self (ofSet_check wrong_qE)
    rw [List.replicate_succ]
    unfold setsF
    rw [h1]
    simp only [h2, if_true]
    exact setsF_rep n
theorem sets_rep16 : (setsE (List.replicate 16 qE)).2 = 0 := by
  unfold setsE
  rw [if_neg (by rw [reqs_rep]; simp)]
  rw [List.replicate_succ]
  unfold setsF
  have h1 : ([] : List KeyV).find? (fun x => decide (x.k = qE.key)) = none := rfl
  rw [h1]
  show (setsF [⟨zoneT, ofSet qE⟩] (List.replicate 15 qE)).2 = 0
  rw [setsF_rep]
theorem sets_rep17 : setsE (List.replicate 17 qE) = ([], 3) := by
  unfold setsE
  rw [reqs_rep, if_pos (by simp)]
  rfl
theorem adm_twice : admE [] [za, za] = (false, 6) := by
  have h : labsE [za, za] = 6 := by
    unfold labsE
    refine scanE_hit (k := 1) (by simp) (fun j hj => ?_) ?_ (by simp)
    · obtain rfl : j = 0 := by omega
      rw [upE_some (l := [za, za]) (i := 0) (x := za) rfl]
      simp [labE, za, name_zone, val_a]
    · rw [upE_some (l := [za, za]) (i := 1) (x := za) rfl]
      simp [labE, za, name_zone, val_a]
  unfold admE
  rw [if_neg (by rw [reqs_nil]; simp), if_pos (by rw [h]; simp), h]
theorem fr_qE : FR qE := ⟨by unfold SL; decide, fl_small (by decide) (by decide), ⟨by decide, by decide⟩, ⟨by decide, by decide⟩⟩
theorem fls_rep (n : Nat) (h : n ≤ 100) : FLs FR (List.replicate n qE) := ⟨by simp; omega, fun x hx => by rw [List.eq_of_mem_replicate hx]; exact fr_qE⟩
end Go.Proofs.AM
namespace Go.Proofs.AM
open Go Go.Lib Cd
set_option maxRecDepth 100000 in
set_option maxHeartbeats 2000000 in
theorem numbers10_ok (R : Ans) (h32 : R.v 32 [mkS zoneT, .int .i64 3, .int .i64 0, .sl 1 false []] (reqD qE)) (h33 : ∀ n, n ≤ 17 → R.v 33 [.sl 4 false ((List.replicate n qE).map reqD)] (.tup [.sl 7 false ((setsE (List.replicate n qE)).1.map keyedD), .int .i64 (setsE (List.replicate n qE)).2]))
    (h34 : R.v 34 [.sl 4 false (([] : List ReqV).map reqD), .sl 2 false ([za, za].map labD)] (.tup [.bool (admE [] [za, za]).1, .int .i64 (admE [] [za, za]).2])) (h35 : R.v 35 [] (.bool true))
    (h36 : ∀ n, n ≤ 17 → R.v 36 [.sl 4 false ((List.replicate n qE).map reqD)] (.int .i64 (reqsE 8 (List.replicate n qE)))) : AnsF R c10 [] (.bool true) := by
  have k17 := h33 17 (by omega)
  have k16 := h33 16 (by omega)
  have k9 := h36 9 (by omega)
  have k8 := h36 8 (by omega)
  rw [sets_rep17] at k17
  rw [sets_rep16] at k16
  rw [reqs_rep, if_pos (by omega)] at k9
  rw [reqs_rep, if_neg (by omega)] at k8
  rw [adm_twice] at h34
  obtain ⟨L16, hL⟩ : ∃ l, l = (setsE (List.replicate 16 qE)).1.map keyedD := ⟨_, rfl⟩
  rw [← hL] at k16
  obtain ⟨Q, hQ⟩ : ∃ Q : Nat → List D, Q = fun n => (List.replicate n qE).map reqD := ⟨_, rfl⟩
  have hQ' : ∀ n, (List.replicate n qE).map reqD = Q n := fun n => by rw [hQ]
  have cQ : ∀ n, CleanL (Q n) := fun n => cleanL_map clean_req (by rw [hQ])
  simp only [hQ'] at k17 k16 k9 k8
  have hQ0 : Q 0 = [] := by rw [hQ]; rfl
  have hQs : ∀ n, Q n ++ [reqD qE] = Q (n + 1) := fun n => by rw [hQ]; simp [List.replicate_succ']
  have hQl : ∀ n, (Q n).length = n := fun n => by rw [hQ]; simp
  have hQt : ∀ n, n ≤ 17 → (Q 17).take n = Q n := fun n hn => by rw [hQ]; simp only [← List.map_take, List.take_replicate]; rw [show min n 17 = n by omega]
  clear hL hQ hQ' h33 h36
  have e1 : reqD qE = .agg [mkS zoneT, .int .i64 3, .sl 1 false [], .int .i64 0] := rfl
  rw [e1] at h32 hQs
  conv at h32 => cbv
  conv at h34 => cbv
  simp only [mkS, zoneT] at hQs
  refine wpF_sound ⟨rfl, by decide⟩ fun O hO V hV => ?_
  subst hV
  have hs : ∀ (n : Nat), n ≤ 17 → O .subL (Q 17) 0 n = Q n := fun n hn => by rw [o_subL hO]; simpa using hQt n hn
  have hl17 : O .len (Q 17) = 17 := by rw [o_len hO, hQl]; rfl
  conv => cbv
  refine loop_of (fun n d => ∃ (i : Int) (k : Nat) (g : Nat) (qs : List D), d = ⟨[(1, .own 16 g), (2, .int .i64 i)], [(16, ⟨g, .rw, .arr 4 75, qs⟩)], false⟩ ∧ i = k ∧ k ≤ 17 ∧ n = 17 - k ∧ qs = Q k) ⟨_, _, ⟨_, 0, 1, [], rfl, rfl, by omega, rfl, hQ0.symm⟩, ⟨⟨rfl, rfl, trivial⟩, ⟨rfl, trivial⟩, rfl⟩⟩ ?_
  rintro J up n d ⟨i, k, g, qs, rfl, hi, hk, rfl, hqs⟩
  conv => cbv
  rintro (_ | _) h1
  · replace h1 := f_lss hO h1
    obtain rfl : k = 17 := by omega
    clear up
    have cq : CleanL qs := by rw [hqs]; exact cQ 17
    have s16 := hs 16 (by omega)
    have s9 := hs 9 (by omega)
    have s8 := hs 8 (by omega)
    rw [← hqs] at s16 s9 s8 hl17 k17
    have c16 := cQ 16
    have c9 := cQ 9
    have c8 := cQ 8
    rw [← s16] at k16 c16
    rw [← s9] at k9 c9
    rw [← s8] at k8 c8
    clear hs hQt hQl hQs hQ0 cQ s16 s9 s8
    conv => cbv
    refine ⟨⟨cq.c⟩, cq, _, k17, ?_⟩
    conv => cbv
    refine ⟨⟨Int.le_refl _⟩, ⟨by omega⟩, ⟨by rw [hl17]; omega⟩, c16, _, k16, ?_⟩
    conv => cbv
    intro g31
    conv => cbv
    repeat refine ⟨⟨rfl, rfl⟩, ?_⟩
    refine ⟨_, h34, ?_⟩
    conv => cbv
    refine ⟨_, h35, ?_⟩
    conv => cbv
    refine ⟨⟨Int.le_refl _⟩, ⟨by omega⟩, ⟨by rw [hl17]; omega⟩, c9, _, k9, ?_⟩
    conv => cbv
    rintro (_ | _) h
    · conv => cbv
      exfalso; exact f_eql hO h rfl
    clear h
    conv => cbv
    refine ⟨⟨Int.le_refl _⟩, ⟨by omega⟩, ⟨by rw [hl17]; omega⟩, c8, _, k8, ?_⟩
    conv => cbv
    rintro (_ | _) h
    · conv => cbv
      exfalso; exact f_eql hO h rfl
    clear h
    conv => cbv
    rintro (_ | _) h
    · conv => cbv
      exfalso; exact f_eql hO h rfl
    clear h
    conv => cbv
    rintro (_ | _) h
    · conv => cbv
      exfalso; exact f_eql hO h rfl
    clear h
    conv => cbv
    rintro (_ | _) h
    · conv => cbv
      exfalso; exact f_eql hO h rfl
    clear h
    conv => cbv
    trivial
  replace h1 := t_lss hO h1
  conv => cbv
  refine ⟨⟨rfl, rfl⟩, _, h32, ?_⟩
  conv => cbv
  intro g15
  conv => cbv
  have hlq : O .len qs = k := by rw [o_len hO, hqs, hQl]
  have h1q : ∀ x : D, O .len [x] = 1 := fun x => by rw [o_len hO]; rfl
  refine ⟨⟨rfl⟩, ⟨by show (O .len qs + O .len [_]) * ((56 : Nat) : Int) ≤ _; rw [hlq, h1q]; omega⟩, ?_⟩
  exact ⟨_, _, up _ _ ⟨_, k + 1, g + 1, _, rfl, by rw [o_add64 hO (by omega) (by omega)]; omega, by omega, rfl, by rw [o_app hO, hqs]; exact hQs k⟩, ⟨⟨rfl, rfl, trivial⟩, ⟨rfl, trivial⟩, rfl⟩, by omega⟩
end Go.Proofs.AM
namespace Go.Proofs.AM
open Go Go.Lib Cd
theorem n84 (l : List ReqV) (hl : FLs FR l) (n : Nat) (hn : n ≤ 16) : PR3.v 84 [.sl 4 false (l.map reqD), .int .i64 n] (.tup [.sl 6 false ((setsL n l).map setD), .int .i64 (reqsE n l)]) := pr3 E84 Tryz.func84 T84 (sets84_ok _ l hl.len hl.all n hn k12)
theorem n36 (l : List ReqV) (hl : FLs FR l) : PR3.v 36 [.sl 4 false (l.map reqD)] (.int .i64 (reqsE 8 l)) := pr3 E36 Tryz.func36 T36 (check36_ok _ l (n84 l hl 8 (by omega)))
theorem n91 (l : List ReqV) (hl : FLs FR l) : PR3.v 91 [.sl 4 false (l.map reqD)] (.int .i64 (scanE (atE wrongE l) l.length)) := pr3 E91 Tryz.func91 T91 (first91_ok _ l hl.len hl.all k20)
theorem n92 (l : List ReqV) (hl : FLs FR l) : PR3.v 92 [.sl 4 false (l.map reqD)] (.int .i64 (reqsE 16 l)) := pr3 E92 Tryz.func92 T92 (more92_ok _ l (n91 l hl))
theorem n96 (l : List LabV) (hl : FLs FLab l) : PR3.v 96 [.sl 2 false (l.map labD)] (.int .i64 (labsE l)) := pr3 E96 Tryz.func96 T96 (labels96_ok _ l hl k16 k17)
theorem n97 (q : ReqV) (l : List LabV) (hq : FR q) (hl : FLs FLab l) : PR3.v 97 [reqD q, .sl 2 false (l.map labD)] (.bool (admB q l)) := pr3 E97 Tryz.func97 T97 (adm97_ok _ q l hq hl (k20 q hq) fun v hv => k28 _ v (ofSet_fs q) hv)
theorem n40 (l : List ReqV) (L : List LabV) (hl : FLs FR l) (hL : FLs FLab L) : PR3.v 40 [.sl 4 false (l.map reqD), .sl 2 false (L.map labD)] (.tup [.bool (admE l L).1, .int .i64 (admE l L).2]) := pr3 E40 Tryz.func40 T40 (radm40_ok _ l L hl hL (n92 l hl) (n96 L hL) fun q hq => n97 q L hq hL)
theorem n34 (l : List ReqV) (L : List LabV) (hl : FLs FR l) (hL : FLs FLab L) : PR3.v 34 [.sl 4 false (l.map reqD), .sl 2 false (L.map labD)] (.tup [.bool (admE l L).1, .int .i64 (admE l L).2]) := pr3 E34 Tryz.func34 T34 (adm34_ok _ l L hl hL (n84 l hl 16 (by omega)) k18 k19 fun q v hq hv => k26 _ v (ofSet_fs q) hv)
theorem n33 (l : List ReqV) (hl : FLs FR l) : PR3.v 33 [.sl 4 false (l.map reqD)] (.tup [.sl 7 false ((setsE l).1.map keyedD), .int .i64 (setsE l).2]) := pr3 E33 Tryz.func33 T33 (sets33_ok _ l hl (n84 l hl 16 (by omega)) (fun q _ => ofSet_fs q) meet_fs k24 h86)
theorem n99 (x : KeyV) (hx : FS x.s) : PR3.v 99 [keyedD x] (.bool (emptyB x.s)) := pr3 E99 Tryz.func99 T99 (empty99_ok _ x (k27 _ hx))
theorem n195 (l : List KeyV) (hl : l.length < 4611686018427387904) (h : ∀ x ∈ l, FS x.s) : PR3.v 195 [.sl 7 false (l.map keyedD), .fn 99 [] []] (.int .i64 (idxI (fun x => emptyB x.s) l)) := pr3 E195 Tryz.func195 T195 (indexf195_ok _ 99 _ l hl fun y hy => n99 y (h y hy))
theorem n98 (l : List KeyV) (hl : l.length < 4611686018427387904) (h : ∀ x ∈ l, FS x.s) : PR3.v 98 [.sl 7 false (l.map keyedD), .fn 99 [] []] (.bool (l.any fun x => emptyB x.s)) := pr3 E98 Tryz.func98 T98 (containsf98_ok _ 99 _ l (n195 l hl h))
theorem sets_lt {l : List ReqV} (hl : FLs FR l) : (setsE l).1.length < 4611686018427387904 := by have := (setsE_fs l).2; have := hl.len; omega
theorem n41 (l : List ReqV) (hl : FLs FR l) : PR3.v 41 [.sl 4 false (l.map reqD)] (.tup [.bool (canE l).1, .int .i64 (canE l).2]) := pr3 E41 Tryz.func41 T41 (can41_ok _ l (n33 l hl) (n98 _ (sets_lt hl) (setsE_fs l).1))
theorem fls_app {α : Type} {F : α → Prop} {a b : List α} (ha : FLs F a) (hb : FLs F b) (h : a.length + b.length ≤ 1000) : FLs F (a ++ b) := ⟨by simp; omega, fun x hx => by
  rcases List.mem_append.1 hx with h | h
  · exact ha.all x h
  · exact hb.all x h⟩
theorem n43 (a b : List ReqV) (ha : FLs FR a) (hb : FLs FR b) : PR3.v 43 [.sl 4 false (a.map reqD), .sl 4 false (b.map reqD)] (.tup [.bool (meetsE a b).1, .int .i64 (meetsE a b).2]) :=
  pr3 E43 Tryz.func43 T43 (meets43_ok _ a b (fun l hl => by rcases hl with rfl | rfl <;> first | exact n36 _ ha | exact n36 _ hb)
    (fun h1 h2 => pr3 E102 Tryz.func102 T102 (concat102_ok _ a b (by have := reqs_len h1; have := reqs_len h2; omega) hg0 hg1))
    (fun h1 h2 => n41 _ (fls_app ha hb (by have := reqs_len h1; have := reqs_len h2; omega))))
theorem n32 (k : Str) (op n : Int) (xs : List D) (cx : CleanL xs) : PR3.v 32 [mkS k, .int .i64 op, .int .i64 n, .sl 1 false xs] (.agg [mkS k, .int .i64 op, .sl 1 false xs, .int .i64 n]) := pr3 E32 Tryz.func32 T32 (req32_ok _ k op n xs cx)
theorem fls_ll : FLs FR ll := ⟨by decide, fun x hx => by
  simp only [ll, List.mem_cons, List.not_mem_nil, or_false] at hx
  rcases hx with rfl | rfl | rfl
  · exact fr_l1
  · exact fr_l2
  · exact fr_above⟩
theorem fls_45 : FLs FR [l4, l5] := ⟨by decide, fun x hx => by
  simp only [List.mem_cons, List.not_mem_nil, or_false] at hx
  rcases hx with rfl | rfl
  · exact fr_l4
  · exact fr_l5⟩
theorem fls_nil {α : Type} {F : α → Prop} : FLs F ([] : List α) := ⟨by simp, by simp⟩
theorem n35 : PR3.v 35 [] (.bool true) := pr3 E35 Tryz.func35 T35 (live35_ok _ n32 (n33 _ fls_ll) (fun L hL => n34 _ L fls_ll hL) (n41 _ fls_45) (n43 _ _ fls_ll fls_nil))
theorem n12 (l : List ReqV) (L : List LabV) (hl : FLs FR l) (hL : FLs FLab L) : PR3.v 12 [.sl 4 false (l.map reqD), .sl 2 false (L.map labD)] (.bool true) := pr3 E12 Tryz.func12 T12 (adm12_ok _ l L (n34 l L hl hL) (n40 l L hl hL) n35)
theorem n14 (l : List ReqV) (L : List LabV) (hl : FLs FR l) (hL : FLs FLab L) : PR3.v 14 [.sl 4 false (l.map reqD), .sl 2 false (L.map labD)] (.bool true) :=
  pr3 E14 Tryz.func14 T14 (met14_ok _ l L hl hL (n34 l L hl hL) (n33 l hl) (n41 l hl) n35 (fun x v hx hv => k26 _ v ((setsE_fs l).1 x hx) hv) (sets_lt hl))
theorem n94 (out : List KeyV) (key : Str) (h : List.length out < 4611686018427387904) : PR3.v 94 [.sl 7 false (out.map keyedD), mkS key] (.int .i64 (idxI (fun y : KeyV => decide (y.k = key)) out)) := pr3 E94 Tryz.func94 T94 (find94_ok _ out h key)
theorem n38 (l : List ReqV) (hl : FLs FR l) : PR3.v 38 [.sl 4 false (l.map reqD)] (.tup [.sl 7 false ((setsE l).1.map keyedD), .int .i64 (setsE l).2]) := pr3 E38 Tryz.func38 T38 (rsets38_ok _ l hl (n92 l hl) k20 n94 k25)
theorem n42 (l : List ReqV) (hl : FLs FR l) : PR3.v 42 [.sl 4 false (l.map reqD)] (.tup [.bool (canE l).1, .int .i64 (canE l).2]) := pr3 E42 Tryz.func42 T42 (rcan42_ok _ l (sets_lt hl) (n38 l hl) fun x hx => k29 _ ((setsE_fs l).1 x hx))
theorem n37 (l : List ReqV) (hl : FLs FR l) : PR3.v 37 [.sl 4 false (l.map reqD)] (.int .i64 (reqsE 8 l)) := pr3 E37 Tryz.func37 T37 (check37_ok _ l (n91 l hl))
theorem n44 (a b : List ReqV) (ha : FLs FR a) (hb : FLs FR b) : PR3.v 44 [.sl 4 false (a.map reqD), .sl 4 false (b.map reqD)] (.tup [.bool (meetsE a b).1, .int .i64 (meetsE a b).2]) :=
  pr3 E44 Tryz.func44 T44 (rmeets44_ok _ a b (fun l hl => by rcases hl with rfl | rfl <;> first | exact n37 _ ha | exact n37 _ hb) (fun h1 h2 => n42 _ (fls_app ha hb (by have := reqs_len h1; have := reqs_len h2; omega))))
theorem n13 (a b : List ReqV) (ha : FLs FR a) (hb : FLs FR b) : PR3.v 13 [.sl 4 false (a.map reqD), .sl 4 false (b.map reqD)] (.bool true) :=
  pr3 E13 Tryz.func13 T13 (can13_ok _ a b (n41 a ha) (n42 a ha) (n43 a b ha hb) (n44 a b ha hb) n35)
theorem n10 : PR3.v 10 [] (.bool true) :=
  pr3 E10 Tryz.func10 T10 (numbers10_ok _ (n32 zoneT 3 0 [] ⟨rfl, rfl⟩) (fun n hn => n33 _ (fls_rep n (by omega))) (n34 [] [za, za] fls_nil ⟨by decide, fun x hx => by
    simp only [List.mem_cons, List.not_mem_nil, or_false] at hx
    rcases hx with rfl | rfl <;> exact flab_za⟩) n35 (fun n hn => n36 _ (fls_rep n (by omega))))
end Go.Proofs.AM
