/- Part 17 of the lemmas: ZXh, ZGNc. -/
import Derived.Test.YtococcgeoknmjaaGreatDoorM16
import Derived.Test.YtococcgeoknmjaaGreatDoorM10
import Derived.Test.YtococcgeoknmjaaGreatDoorM12
import Derived.Test.YtococcgeoknmjaaGreatDoorM14
namespace Go.Proofs.AM
open Go Go.Lib Cd
theorem can_err (l : List ReqV) : (canE l).2 = (setsE l).2 := by
  unfold canE
  split
  · rfl
  · rename_i h; simp only [ne_eq, Decidable.not_not] at h; rw [h]
set_option maxRecDepth 100000 in
set_option maxHeartbeats 2000000 in
theorem met14_ok (R : Ans) (l : List ReqV) (L : List LabV) (hl : FLs FR l) (hL : FLs FLab L) (h34 : R.v 34 [.sl 4 false (l.map reqD), .sl 2 false (L.map labD)] (.tup [.bool (admE l L).1, .int .i64 (admE l L).2]))
    (h33 : R.v 33 [.sl 4 false (l.map reqD)] (.tup [.sl 7 false ((setsE l).1.map keyedD), .int .i64 (setsE l).2])) (h41 : R.v 41 [.sl 4 false (l.map reqD)] (.tup [.bool (canE l).1, .int .i64 (canE l).2]))
    (h35 : R.v 35 [] (.bool true)) (h45 : ∀ x v, x ∈ (setsE l).1 → SL v → R.v 45 [setD x.s, mkS v] (.bool (hasB x.s v))) (hlen : (setsE l).1.length < 4611686018427387904) : AnsF R c14 [.sl 4 false (l.map reqD), .sl 2 false (L.map labD)] (.bool true) := by
  have hLt := hL.lt
  have hbad := adm_bad (l := l) (L := L)
  have hlaw := met_law (l := l) (L := L)
  rw [can_err] at h41
  obtain ⟨xs, hxs⟩ : ∃ xs, xs = l.map reqD := ⟨_, rfl⟩
  obtain ⟨ys, hys⟩ : ∃ xs, xs = L.map labD := ⟨_, rfl⟩
  have cx : CleanL xs := cleanL_map clean_req hxs
  have cy : CleanL ys := cleanL_map (fun x => show Clean (labD x) from ⟨rfl, rfl⟩) hys
  obtain ⟨⟨r1, r2⟩, hr⟩ : ∃ r, r = admE l L := ⟨_, rfl⟩
  rw [← hr] at h34 hbad hlaw
  obtain ⟨⟨K, e⟩, hK⟩ : ∃ r, r = setsE l := ⟨_, rfl⟩
  rw [← hK] at h33 h41 h45 hlaw hlen
  obtain ⟨c1, hc⟩ : ∃ r, r = (canE l).1 := ⟨_, rfl⟩
  rw [← hc] at h41 hlaw
  rw [← hxs] at h34 h33 h41 ⊢
  rw [← hys] at h34 ⊢
  obtain ⟨zs, hzs⟩ : ∃ xs, xs = K.map keyedD := ⟨_, rfl⟩
  simp only at h34 h33 h41 hbad hlaw h45 hlen
  rw [← hzs] at h33
  clear hr hK hc
  refine wpF_sound ⟨rfl, by decide⟩ fun O hO V hV => ?_
  subst hV
  have hlz : O .len zs = K.length := by rw [o_len hO, hzs]; simp
  have hly : O .len ys = L.length := by rw [o_len hO, hys]; simp
  conv => cbv
  repeat' (refine And.intro (by first | assumption | exact ⟨rfl⟩ | exact ⟨rfl, rfl⟩) ?_)
  refine ⟨_, h34, ?_⟩
  conv => cbv
  rintro (_ | _) h <;> replace h := ci hO h <;> dsimp only [CmpI] at h
  case true =>
    obtain rfl := hbad h
    conv => cbv
    refine ⟨_, h35, ?_⟩
    conv => cbv
    trivial
  subst h
  obtain ⟨hL0, h3, hlaw⟩ := hlaw rfl
  clear hbad h34
  conv => cbv
  repeat' (refine And.intro (by first | assumption | exact ⟨rfl⟩ | exact ⟨rfl, rfl⟩) ?_)
  refine ⟨_, h41, ?_⟩
  conv => cbv
  repeat' (refine And.intro (by first | assumption | exact ⟨rfl⟩ | exact ⟨rfl, rfl⟩) ?_)
  refine ⟨_, h33, ?_⟩
  conv => cbv
  rintro (_ | _) h <;> replace h := ci hO h <;> dsimp only [CmpI] at h
  case true => exact absurd rfl h
  clear h
  conv => cbv
  rintro (_ | _) h <;> replace h := ci hO h <;> dsimp only [CmpI] at h
  case true =>
    conv => cbv
    refine ⟨_, h35, ?_⟩
    conv => cbv
    rcases h3 with h4 | h4
    · exact absurd h4 h
    subst h4
    rintro (_ | _) h
    · conv => cbv
      exfalso; exact f_eql hO h rfl
    conv => cbv
    trivial
  subst h
  obtain ⟨ht, hcan⟩ := hlaw rfl
  clear h41 h33
  conv => cbv
  refine loop_of (fun n d => ∃ (i : Int) (k : Nat) (b : Bool), d = ⟨[(1, .sl 2 false ys), (5, .bool r1), (7, .bool c1), (9, .sl 7 false zs), (11, .bool b), (12, .int .i64 i)], [], false⟩ ∧ i = k ∧ k ≤ K.length ∧ n = K.length - k ∧ b = (K.take k).all fun x => thereB x L) ⟨_, _, ⟨_, 0, true, rfl, rfl, by omega, rfl, by simp⟩, ⟨⟨rfl, rfl, rfl, rfl, rfl, rfl, trivial⟩, trivial, rfl⟩⟩ ?_
  rintro J up n d ⟨i, k, b, rfl, hi, hk, rfl, hb⟩
  conv => cbv
  rintro (_ | _) h1
  · replace h1 := f_lss hO h1
    rw [hlz] at h1
    rw [List.take_of_length_le (by omega), ht] at hb
    subst hb
    clear up
    conv => cbv
    refine ⟨_, h35, ?_⟩
    conv => cbv
    intro t htt
    replace htt := b_eq hO htt
    rw [beq_self_eq_true] at htt
    subst htt
    cases b
    · conv => cbv
      trivial
    · obtain rfl := hcan rfl
      conv => cbv
      trivial
  replace h1 := t_lss hO h1
  rw [hlz] at h1
  obtain ⟨x, hx⟩ : ∃ x, K[k]? = some x := ⟨_, List.getElem?_eq_getElem (by omega)⟩
  have hatz : atX zs i (keyedD x) := atX_map hx hzs hi
  have hxk : x ∈ K := List.mem_of_getElem? hx
  have hb2 : (K.take (k + 1)).all (fun x => thereB x L) = (b && thereB x L) := by
    rw [List.take_add_one, hx, Option.toList_some, List.all_append, hb]
    simp
  have h45' := fun v => h45 x v hxk
  have h0 : thereB x (L.take 0) = x.s.m := rfl
  have hstep := fun (j : Nat) (y : LabV) (hy : L[j]? = some y) => there_step (x := x) hy (labs_keys hL0 hy)
  have hend : thereB x L = thereB x (L.take L.length) := by rw [List.take_length]
  obtain ⟨T, hT⟩ : ∃ T : Nat → Bool, T = fun j => thereB x (L.take j) := ⟨_, rfl⟩
  have hT' : ∀ j, thereB x (L.take j) = T j := fun j => by rw [hT]
  rw [hend] at hb2
  simp only [hT'] at h0 hstep hb2
  clear hT hT' hend h45
  obtain ⟨xk, ⟨sm, sn, su, sl, slo, shi⟩⟩ := x
  simp only [keyedD, keyC, setD] at hatz h45' hstep h0
  obtain ⟨ls, hls⟩ : ∃ xs, xs = sl.map mkS := ⟨_, rfl⟩
  have cl : CleanL ls := cleanL_map clean_S hls
  obtain ⟨H, hH⟩ : ∃ H : Str → Bool, H = fun v => hasB ⟨sm, sn, su, sl, slo, shi⟩ v := ⟨_, rfl⟩
  have hH' : ∀ v, hasB ⟨sm, sn, su, sl, slo, shi⟩ v = H v := fun v => by rw [hH]
  simp only [← hls, hH'] at hatz h45' hstep
  clear hls hH hH' hb hx hxk
  conv => cbv
  refine ⟨_, hatz, ?_⟩
  conv => cbv
  refine loop_of (fun n d => ∃ (j : Int) (m : Nat) (t : Bool), d = ⟨[(1, .sl 2 false ys), (5, .bool r1), (7, .bool c1), (9, .sl 7 false zs), (11, .bool b), (12, .int .i64 i), (13, .bool t), (14, .int .i64 j)], [], false⟩ ∧ j = m ∧ m ≤ L.length ∧ n = L.length - m ∧ t = T m) ⟨_, _, ⟨_, 0, sm, rfl, rfl, by omega, rfl, h0.symm⟩, ⟨⟨rfl, rfl, rfl, rfl, rfl, rfl, rfl, rfl, trivial⟩, trivial, rfl⟩⟩ ?_
  rintro J2 up2 n d ⟨j, m, t, rfl, hj, hm, rfl, ht2⟩
  conv => cbv
  rintro (_ | _) h2
  · replace h2 := f_lss hO h2
    rw [hly] at h2
    obtain rfl : m = L.length := by omega
    rw [← ht2] at hb2
    clear up2 h45' hstep
    cases b
    · conv => cbv
      exact ⟨_, _, up _ _ ⟨_, k + 1, _, rfl, by rw [o_add64 hO (by omega) (by omega)]; omega, by omega, rfl, by rw [hb2]; rfl⟩, ⟨⟨rfl, rfl, rfl, rfl, rfl, rfl, trivial⟩, trivial, rfl⟩, by omega⟩
    · conv => cbv
      exact ⟨_, _, up _ _ ⟨_, k + 1, _, rfl, by rw [o_add64 hO (by omega) (by omega)]; omega, by omega, rfl, by rw [hb2]; rfl⟩, ⟨⟨rfl, rfl, rfl, rfl, rfl, rfl, trivial⟩, trivial, rfl⟩, by omega⟩
  replace h2 := t_lss hO h2
  rw [hly] at h2
  obtain ⟨y, hy⟩ : ∃ y, L[m]? = some y := ⟨_, List.getElem?_eq_getElem (by omega)⟩
  have haty : atX ys j (labD y) := atX_map hy hys hj
  have hs := hstep m y hy
  have hv := h45' y.v (hL.all y (List.mem_of_getElem? hy)).v
  obtain ⟨yk, yv⟩ := y
  simp only [labD] at haty hv hs
  obtain ⟨hB, hhB⟩ : ∃ b, b = H yv := ⟨_, rfl⟩
  rw [← hhB] at hv hs
  clear hhB hy hstep h45'
  conv => cbv
  refine ⟨_, haty, ?_⟩
  conv => cbv
  refine ⟨_, hatz, ?_⟩
  conv => cbv
  rintro (_ | _) h3 <;> replace h3 := cs hO h3 <;> dsimp only [CmpS] at h3
  · rw [if_neg h3] at hs
    conv => cbv
    exact ⟨_, _, up2 _ _ ⟨_, m + 1, _, rfl, by rw [o_add64 hO (by omega) (by omega)]; omega, by omega, rfl, by rw [hs]; exact ht2⟩, ⟨⟨rfl, rfl, rfl, rfl, rfl, rfl, rfl, rfl, trivial⟩, trivial, rfl⟩, by omega⟩
  · rw [if_pos h3] at hs
    conv => cbv
    refine ⟨_, hatz, ?_⟩
    conv => cbv
    refine ⟨_, haty, ?_⟩
    conv => cbv
    repeat' (refine And.intro (by first | assumption | exact ⟨rfl⟩ | exact ⟨rfl, rfl⟩) ?_)
    refine ⟨_, hv, ?_⟩
    conv => cbv
    exact ⟨_, _, up2 _ _ ⟨_, m + 1, _, rfl, by rw [o_add64 hO (by omega) (by omega)]; omega, by omega, rfl, by rw [hs]⟩, ⟨⟨rfl, rfl, rfl, rfl, rfl, rfl, rfl, rfl, trivial⟩, trivial, rfl⟩, by omega⟩
end Go.Proofs.AM
namespace Go.Proofs.AM
open Go Go.Lib Cd
theorem n84 (l : List ReqV) (hl : FLs FR l) (n : Nat) (hn : n ≤ 16) : PR3.v 84 [.sl 4 false (l.map reqD), .int .i64 n] (.tup [.sl 6 false ((setsL n l).map setD), .int .i64 (reqsE n l)]) := pr3 E84 Tryz.func84 T84 (sets84_ok _ l hl.len hl.all n hn k12)
theorem n36 (l : List ReqV) (hl : FLs FR l) : PR3.v 36 [.sl 4 false (l.map reqD)] (.int .i64 (reqsE 8 l)) := pr3 E36 Tryz.func36 T36 (check36_ok _ l (n84 l hl 8 (by omega)))
theorem n91 (l : List ReqV) (hl : FLs FR l) : PR3.v 91 [.sl 4 false (l.map reqD)] (.int .i64 (scanE (atE wrongE l) l.length)) := pr3 E91 Tryz.func91 T91 (first91_ok _ l hl.len hl.all k20)
theorem n92 (l : List ReqV) (hl : FLs FR l) : PR3.v 92 [.sl 4 false (l.map reqD)] (.int .i64 (reqsE 16 l)) := pr3 E92 Tryz.func92 T92 (more92_ok _ l (n91 l hl))
theorem n96 (l : List LabV) (hl : FLs FLab l) : PR3.v 96 [.sl 2 false (l.map labD)] (.int .i64 (labsE l)) := pr3 E96 Tryz.func96 T96 (labels96_ok _ l hl k16 k17)
theorem n97 (q : ReqV) (l : List LabV) (hq : FR q) (hl : FLs FLab l) : PR3.v 97 [reqD q, .sl 2 false (l.map labD)] (.bool (admB q l)) := pr3 E97 Tryz.func97 T97 (adm97_ok _ q l hq hl (k20 q hq) fun v hv => k28 _ v (ofSet_fs q) hv)
theorem n40 (l : List ReqV) (L : List LabV) (hl : FLs FR l) (hL : FLs FLab L) : PR3.v 40 [.sl 4 false (l.map reqD), .sl 2 false (L.map labD)] (.tup [.bool (admE l L).1, .int .i64 (admE l L).2]) := pr3 E40 Tryz.func40 T40 (radm40_ok _ l L hl hL (n92 l hl) (n96 L hL) fun q hq => n97 q L hq hL)
theorem n34 (l : List ReqV) (L : List LabV) (hl : FLs FR l) (hL : FLs FLab L) : PR3.v 34 [.sl 4 false (l.map reqD), .sl 2 false (L.map labD)] (.tup [.bool (admE l L).1, .int .i64 (admE l L).2]) := pr3 E34 Tryz.func34 T34 (adm34_ok _ l L hl hL (n84 l hl 16 (by omega)) k18 k19 fun q v hq hv => k26 _ v (ofSet_fs q) hv)
theorem n33 (l : List ReqV) (hl : FLs FR l) : PR3.v 33 [.sl 4 false (l.map reqD)] (.tup [.sl 7 false ((setsE l).1.map keyedD), .int .i64 (setsE l).2]) := pr3 E33 Tryz.func33 T33 (sets33_ok _ l hl (n84 l hl 16 (by omega)) (fun q _ => ofSet_fs q) meet_fs k24 h86)
theorem n99 (x : KeyV) (hx : FS x.s) : PR3.v 99 [keyedD x] (.bool (emptyB x.s)) := pr3 E99 Tryz.func99 T99 (empty99_ok _ x (k27 _ hx))
theorem n195 (l : List KeyV) (hl : l.length < 4611686018427387904) (h : ∀ x ∈ l, FS x.s) : PR3.v 195 [.sl 7 false (l.map keyedD), .fn 99 [] []] (.int .i64 (idxI (fun x => emptyB x.s) l)) := pr3 E195 Tryz.func195 T195 (indexf195_ok _ 99 _ l hl fun y hy => n99 y (h y hy))
theorem n98 (l : List KeyV) (hl : l.length < 4611686018427387904) (h : ∀ x ∈ l, FS x.s) : PR3.v 98 [.sl 7 false (l.map keyedD), .fn 99 [] []] (.bool (l.any fun x => emptyB x.s)) := pr3 E98 Tryz.func98 T98 (containsf98_ok _ 99 _ l (n195 l hl h))
theorem sets_lt {l : List ReqV} (hl : FLs FR l) : (setsE l).1.length < 4611686018427387904 := by have := (setsE_fs l).2; have := hl.len; omega
theorem n41 (l : List ReqV) (hl : FLs FR l) : PR3.v 41 [.sl 4 false (l.map reqD)] (.tup [.bool (canE l).1, .int .i64 (canE l).2]) := pr3 E41 Tryz.func41 T41 (can41_ok _ l (n33 l hl) (n98 _ (sets_lt hl) (setsE_fs l).1))
theorem fls_app {α : Type} {F : α → Prop} {a b : List α} (ha : FLs F a) (hb : FLs F b) (h : a.length + b.length ≤ 1000) : FLs F (a ++ b) := ⟨by simp; omega, fun x hx => by
  rcases List.mem_append.1 hx with h | h
  · exact ha.all x h
  · exact hb.all x h⟩
theorem n43 (a b : List ReqV) (ha : FLs FR a) (hb : FLs FR b) : PR3.v 43 [.sl 4 false (a.map reqD), .sl 4 false (b.map reqD)] (.tup [.bool (meetsE a b).1, .int .i64 (meetsE a b).2]) :=
  pr3 E43 Tryz.func43 T43 (meets43_ok _ a b (fun l hl => by rcases hl with rfl | rfl <;> first | exact n36 _ ha | exact n36 _ hb)
    (fun h1 h2 => pr3 E102 Tryz.func102 T102 (concat102_ok _ a b (by have := reqs_len h1; have := reqs_len h2; omega) hg0 hg1))
    (fun h1 h2 => n41 _ (fls_app ha hb (by have := reqs_len h1; have := reqs_len h2; omega))))
theorem n32 (k : Str) (op n : Int) (xs : List D) (cx : CleanL xs) : PR3.v 32 [mkS k, .int .i64 op, .int .i64 n, .sl 1 false xs] (.agg [mkS k, .int .i64 op, .sl 1 false xs, .int .i64 n]) := pr3 E32 Tryz.func32 T32 (req32_ok _ k op n xs cx)
theorem fls_ll : FLs FR ll := ⟨by decide, fun x hx => by
  simp only [ll, List.mem_cons, List.not_mem_nil, or_false] at hx
  rcases hx with rfl | rfl | rfl
  · exact fr_l1
  · exact fr_l2
  · exact fr_above⟩
theorem fls_45 : FLs FR [l4, l5] := ⟨by decide, fun x hx => by
  simp only [List.mem_cons, List.not_mem_nil, or_false] at hx
  rcases hx with rfl | rfl
  · exact fr_l4
  · exact fr_l5⟩
theorem fls_nil {α : Type} {F : α → Prop} : FLs F ([] : List α) := ⟨by simp, by simp⟩
theorem n35 : PR3.v 35 [] (.bool true) := pr3 E35 Tryz.func35 T35 (live35_ok _ n32 (n33 _ fls_ll) (fun L hL => n34 _ L fls_ll hL) (n41 _ fls_45) (n43 _ _ fls_ll fls_nil))
theorem n12 (l : List ReqV) (L : List LabV) (hl : FLs FR l) (hL : FLs FLab L) : PR3.v 12 [.sl 4 false (l.map reqD), .sl 2 false (L.map labD)] (.bool true) := pr3 E12 Tryz.func12 T12 (adm12_ok _ l L (n34 l L hl hL) (n40 l L hl hL) n35)
theorem n14 (l : List ReqV) (L : List LabV) (hl : FLs FR l) (hL : FLs FLab L) : PR3.v 14 [.sl 4 false (l.map reqD), .sl 2 false (L.map labD)] (.bool true) :=
  pr3 E14 Tryz.func14 T14 (met14_ok _ l L hl hL (n34 l L hl hL) (n33 l hl) (n41 l hl) n35 (fun x v hx hv => k26 _ v ((setsE_fs l).1 x hx) hv) (sets_lt hl))
end Go.Proofs.AM
