/- Part 13 of the lemmas: BXd, BLc, BPVg, BPVh, BPVi, BpPXc, BpPXe, BXb, BXc, BXe, BXf, BpPXd, BXg, BGNc, BpPXh. -/
import Derived.Test.YtococcgeoknmjabGreatDoorM12
import Derived.Test.YtococcgeoknmjabGreatDoorM11
import Derived.Test.YtococcgeoknmjabGreatDoorM10
import Derived.Test.YtococcgeoknmjabGreatDoorM09
namespace Go.Proofs.AM
open Go Go.Lib Cd
theorem lookDyn_entS (x : KeyV) : ∀ (m : List KeyV), (m.map (·.k)).Nodup → x ∈ m → lookDyn (mkS x.k) (m.map entS) = some (some (setD x.s))
  | [], _, h => by simp at h
  | y :: r, hn, h => by
    have hb : (({ data := { toList := x.k } } : ByteArray) == { data := { toList := y.k } }) = decide (x.k = y.k) := by
      show (({ toList := x.k } : Array UInt8) == { toList := y.k }) = _
      rw [Bool.eq_iff_iff]
      simp
    have hd : dynEq (mkS x.k) (mkS y.k) = some (decide (x.k = y.k)) := by
      show some (_ == _) = _
      rw [hb]
    have hn' := hn
    simp only [List.map_cons, List.nodup_cons] at hn'
    simp only [List.map_cons, entS, entK, lookDyn, hd, Option.bind_some]
    rcases List.mem_cons.1 h with rfl | hm
    · simp
    · have e : x.k ≠ y.k := fun e => hn'.1 (by rw [← e]; exact List.mem_map.2 ⟨x, hm, rfl⟩)
      simp only [e, decide_false, Bool.false_eq_true, if_false]
      exact lookDyn_entS x r hn'.2 hm
theorem perm_of_sub {a m : List KeyV} (ha : (a.map (·.k)).Nodup) (hm : (m.map (·.k)).Nodup) (h1 : ∀ x ∈ a, x ∈ m) (h2 : ∀ x ∈ m, x ∈ a) : a.Perm m := by
  have na : a.Nodup := (List.pairwise_map.1 ha).imp fun h e => h (by rw [e])
  have nm : m.Nodup := (List.pairwise_map.1 hm).imp fun h e => h (by rw [e])
  rw [List.perm_iff_count]
  intro x
  rw [na.count, nm.count]
  have : x ∈ a ↔ x ∈ m := ⟨h1 x, h2 x⟩
  simp [this]
theorem clean_keyed (x : KeyV) : Clean (keyedD x) := by
  have := cleanL_map clean_S (l := x.s.l) rfl
  exact ⟨by simp [keyedD, keyC, mkS, closed, closedL, this.c], by simp [keyedD, keyC, mkS, strip, stripL, this.s]⟩
set_option maxRecDepth 100000 in
set_option maxHeartbeats 2000000 in
theorem sets33_ok (R : Ans) (l : List ReqV) (hl : FLs FR l) (h84 : R.v 10 [.sl 4 false (l.map reqD), .int .i64 16] (.tup [.sl 6 false ((setsL 16 l).map setD), .int .i64 (reqsE 16 l)])) (hfs : ∀ q, FR q → FS (ofSet q)) (hfm : ∀ a b, FS (meetS a b).1)
    (h85 : ∀ a b, FS a → FS b → R.v 17 [setD a, setD b] (.tup [setD (meetS a b).1, .int .i64 (meetS a b).2]))
    (h86 : ∀ (g : Nat) (a out : List KeyV), a.Perm out → OrdK out → a.length ≤ 8796093022208 → SCall R 500 18 [.own 99 g, .fn 19 [] []] [(99, ⟨g, .rw, .arr 7 37, a.map keyedD⟩)] (fun r kn => r = .tup [] ∧ kn = [(99, ⟨g, .rw, .arr 7 37, out.map keyedD⟩)])) :
    AnsF R c8 [.sl 4 false (l.map reqD)] (.tup [.sl 7 false ((setsE l).1.map keyedD), .int .i64 (setsE l).2]) := by
  have hlt := hl.lt
  obtain ⟨xs, hxs⟩ : ∃ xs, xs = l.map reqD := ⟨_, rfl⟩
  obtain ⟨zs, hzs⟩ : ∃ xs, xs = (setsL 16 l).map setD := ⟨_, rfl⟩
  have cx : CleanL xs := cleanL_map clean_req hxs
  obtain ⟨r, hr⟩ : ∃ r, r = setsE l := ⟨_, rfl⟩
  rw [← hr]
  obtain ⟨rs, hrs⟩ : ∃ x, x = r.1.map keyedD := ⟨_, rfl⟩
  obtain ⟨re, hre⟩ : ∃ x, x = r.2 := ⟨_, rfl⟩
  rw [← hrs, ← hre]
  unfold setsE at hr
  unfold setsL at hzs
  obtain ⟨e1, he1⟩ : ∃ e, e = reqsE 16 l := ⟨_, rfl⟩
  rw [← he1] at hr hzs
  have hzz : (setsL 16 l).map setD = zs := by rw [hzs]; unfold setsL; rw [he1]
  rw [hzz, ← he1, ← hxs] at h84
  rw [← hxs]
  have hl16 : e1 = 0 → l.length ≤ 16 := by
    rw [he1]
    unfold reqsE tooE
    split
    · simp
    · intro _; omega
  clear hzz he1
  refine wpF_sound ⟨rfl, by decide⟩ fun O hO V hV => ?_
  subst hV
  have hlx : O .len xs = l.length := by rw [o_len hO, hxs]; simp
  conv => cbv
  refine ⟨cx, _, h84, ?_⟩
  conv => cbv
  rintro (_ | _) h1 <;> replace h1 := ci hO h1 <;> dsimp only [CmpI] at h1
  case true =>
    rw [if_pos h1] at hr
    rw [hr] at hrs hre
    simp only [List.map_nil] at hrs hre
    subst hrs hre
    conv => cbv
    exact ⟨⟨rfl, rfl⟩, rfl⟩
  rw [if_neg (by simpa using h1)] at hr
  rw [if_pos h1] at hzs
  have hlz : O .len zs = l.length := by rw [o_len hO, hzs]; simp
  conv => cbv
  refine loop_of (fun n d => ∃ (i : Int) (k : Nat) (m out : List KeyV) (es : List D) (tk : Int), d = ⟨[(0, .sl 4 false xs), (6, .mapr 22 1), (23, .sl 6 false zs), (24, .int .i64 (O .len zs)), (25, .int .i64 i)], [(22, ⟨1, .rw, .map, .int .i64 tk :: es⟩)], false⟩ ∧ i = k ∧ k ≤ l.length ∧ n = l.length - k ∧ es = m.map entS ∧ m.Perm out ∧ OrdK out ∧ (∀ x ∈ m, FS x.s) ∧ m.length ≤ k ∧ r = setsF out (l.drop k)) ⟨_, _, ⟨_, 0, [], [], _, _, rfl, rfl, by omega, rfl, rfl, .nil, by simp [OrdK], by simp, by simp, by simpa using hr⟩, ⟨⟨rfl, rfl, rfl, rfl, rfl, trivial⟩, ⟨rfl, trivial⟩, rfl⟩⟩ ?_
  rintro J up n d ⟨i, k, m, out, es, tk, rfl, hi, hk, rfl, hes, hperm, hord, hfm2, hml, hrk⟩
  have hnd : (m.map (·.k)).Nodup := (hperm.map _).nodup_iff.2 (ordK_nodup hord)
  conv => cbv
  rintro (_ | _) h2
  · replace h2 := f_lss hO h2
    rw [hlz] at h2
    rw [List.drop_eq_nil_of_le (by omega)] at hrk
    unfold setsF at hrk
    clear up h84 h85
    conv => cbv
    intro g99
    conv => cbv
    intro g59
    conv => cbv
    replace hl16 := hl16 h1
    refine loop_of (fun n d => ∃ (a : List KeyV) (ys ks : List D) (ga : Nat), d = ⟨[(6, .mapr 22 1), (11, .own 99 ga), (59, .ptr 59 g59 0)], [(22, ⟨1, .rw, .map, .int .i64 tk :: es⟩), (59, ⟨g59, .rw, .iter, .mapr 22 1 :: .int .i64 tk :: ks⟩), (99, ⟨ga, .rw, .arr 7 37, ys⟩)], false⟩ ∧ ys = a.map keyedD ∧ ks = (a.map (·.k)).map mkS ∧ (a.map (·.k)).Nodup ∧ (∀ x ∈ a, x ∈ m) ∧ n = m.length - a.length) ⟨_, _, ⟨[], [], [], g99, rfl, rfl, rfl, by simp, by simp, rfl⟩, ⟨⟨rfl, rfl, rfl, trivial⟩, ⟨rfl, rfl, rfl, trivial⟩, rfl⟩⟩ ?_
    rintro J up n d ⟨a, ys, ks, ga, rfl, hys, hks, ha1, ha2, rfl⟩
    have hal : a.length ≤ m.length := by
      have := nodup_len ha1 (b := m.map (·.k)) fun w hw => by
        obtain ⟨z, hz, rfl⟩ := List.mem_map.1 hw
        exact List.mem_map.2 ⟨z, ha2 z hz, rfl⟩
      simpa using this
    conv => cbv
    refine ⟨fun w hw => ?_, fun hall => ?_, fun kd w hw hs => ?_⟩
    · rw [hes] at hw
      obtain ⟨z, _, rfl⟩ := List.mem_map.1 hw
      exact ⟨mkS z.k, setD z.s, decide (z.k ∈ a.map (·.k)), rfl, by rw [hks]; exact seen_S z.k _⟩
    · have hsub : ∀ z ∈ m, z ∈ a := fun z hz => by
        have h1 := hall (mkS z.k) (setD z.s) (by rw [hes]; exact List.mem_map.2 ⟨z, hz, rfl⟩)
        rw [hks, seen_S] at h1
        obtain ⟨z', h3, h4⟩ := List.mem_map.1 (show z.k ∈ a.map (·.k) by simpa using h1)
        rw [← key_one hnd (ha2 z' h3) hz h4]
        exact h3
      have hperm2 : a.Perm out := (perm_of_sub ha1 hnd ha2 hsub).trans hperm
      have hsh := h86 ga a out hperm2 hord (by omega)
      rw [hrk] at hrs hre
      simp only at hrs hre
      subst hre
      rw [← hys, ← hrs] at hsh
      have crs : CleanL rs := cleanL_map clean_keyed hrs
      conv => cbv
      refine shared_of hsh (by decide) ⟨rfl, trivial⟩ ?_
      rintro r86 kn86 ⟨rfl, rfl⟩
      conv => cbv
      exact ⟨crs, rfl⟩
    · have hw2 := hw
      rw [hes] at hw2
      obtain ⟨z, hzm, he⟩ := List.mem_map.1 hw2
      simp only [entS, entK, D.tup.injEq, List.cons.injEq, and_true] at he
      obtain ⟨rfl, rfl⟩ := he
      rw [hks, seen_S] at hs
      have hzS : z.k ∉ a.map (·.k) := by simpa using hs
      obtain ⟨ks2, hks2'⟩ : ∃ ks2, ks2 = O .app ks [mkS z.k] := ⟨_, rfl⟩
      have hks2 : ks2 = ((a ++ [z]).map (·.k)).map mkS := by rw [hks2', o_app hO, hks]; simp
      have hld : lookDyn (mkS z.k) es = some (some (setD z.s)) := by rw [hes]; exact lookDyn_entS z m hnd hzm
      have hnd2 : ((a ++ [z]).map (·.k)).Nodup := by
        rw [List.map_append, List.nodup_append]
        refine ⟨ha1, by simp, fun p hp q hq => ?_⟩
        simp only [List.map_cons, List.map_nil, List.mem_singleton] at hq
        subst hq
        exact fun e => hzS (by rw [← e]; exact hp)
      have hsub2 : ∀ x ∈ a ++ [z], x ∈ m := fun x hx => by
        rcases List.mem_append.1 hx with hx | hx
        · exact ha2 x hx
        · simp only [List.mem_singleton] at hx; subst hx; exact hzm
      have hal2 : a.length + 1 ≤ m.length := by
        have := nodup_len hnd2 (b := m.map (·.k)) fun w hw => by
          obtain ⟨z, hz, rfl⟩ := List.mem_map.1 hw
          exact List.mem_map.2 ⟨z, hsub2 z hz, rfl⟩
        simpa using this
      have hly : O .len ys = a.length := by rw [o_len hO, hys]; simp
      have hys2 : O .app ys [keyedD z] = (a ++ [z]).map keyedD := by rw [o_app hO, hys]; simp
      have hlast : ks2.getLast? = some (mkS z.k) := by rw [hks2]; simp
      obtain ⟨zk, ⟨zm, zn, zu, zl, zlo, zhi⟩⟩ := z
      unfold keyedD keyC at hys2
      simp only [setD] at hld hys2
      obtain ⟨ws, hws⟩ : ∃ xs, xs = zl.map mkS := ⟨_, rfl⟩
      have cw : CleanL ws := cleanL_map clean_S hws
      simp only [← hws] at hld hys2
      unfold setD
      rw [← hws]
      conv => cbv
      rw [← hks2']
      refine ⟨_, _, hlast, hld, ?_⟩
      conv => cbv
      intro g13
      conv => cbv
      intro g69
      conv => cbv
      have hl1 : O .len [D.agg [.str ⟨⟨zk⟩⟩, .bool zm, .bool zn, .bool zu, .sl 1 false ws, .int .i64 zlo, .int .i64 zhi]] = 1 := by rw [o_len hO]; rfl
      refine ⟨⟨by simp [closedL, closed, cw.c]⟩, ⟨by show (O .len ys + O .len [D.agg [.str ⟨⟨zk⟩⟩, .bool zm, .bool zn, .bool zu, .sl 1 false ws, .int .i64 zlo, .int .i64 zhi]]) * ((64 : Nat) : Int) ≤ _; rw [hl1, hly]; omega⟩, ?_⟩
      exact ⟨_, _, up _ _ ⟨a ++ [⟨zk, ⟨zm, zn, zu, zl, zlo, zhi⟩⟩], _, ks2, ga + 1, rfl, hys2, hks2, hnd2, hsub2, rfl⟩, ⟨⟨rfl, rfl, rfl, trivial⟩, ⟨rfl, rfl, rfl, trivial⟩, rfl⟩, by simp; omega⟩
  · replace h2 := t_lss hO h2
    rw [hlz] at h2
    obtain ⟨y, hy⟩ : ∃ y, l[k]? = some y := ⟨_, List.getElem?_eq_getElem (by omega)⟩
    have hatx : atX xs i (reqD y) := atX_map hy hxs hi
    have hatz : atX zs i (setD (ofSet y)) := atX_map (f := setD) (l := l.map ofSet) (by rw [List.getElem?_map, hy]; rfl) hzs hi
    have hlook : lookD kS (mkS y.key) es = some ((m.find? fun x => decide (x.k = y.key)).map fun x => setD x.s) := by rw [hes]; exact look_map _ _ y.key m
    have hfy := hfs y (hl.all y (List.mem_of_getElem? hy))
    have hdrop : l.drop k = y :: l.drop (k + 1) := by
      obtain ⟨h3, h4⟩ := List.getElem?_eq_some_iff.1 hy
      rw [List.drop_eq_getElem_cons h3, h4]
    rw [hdrop] at hrk
    unfold setsF at hrk
    have hfind : ∀ x, m.find? (fun x => decide (x.k = y.key)) = some x → x ∈ m ∧ x.k = y.key := fun x h => ⟨List.mem_of_find?_eq_some h, by simpa using List.find?_some h⟩
    rw [← find_perm hperm hnd y.key] at hrk
    obtain ⟨fd, hfd⟩ : ∃ f, f = m.find? (fun x => decide (x.k = y.key)) := ⟨_, rfl⟩
    rw [← hfd] at hlook hrk hfind
    have hnone : fd = none → ∀ x ∈ m, x.k ≠ y.key := fun h x hx e => by
      rw [h] at hfd
      have := List.find?_eq_none.1 hfd.symm x hx
      simp [e] at this
    clear hfd hr
    obtain ⟨S, hS⟩ : ∃ S, S = ofSet y := ⟨_, rfl⟩
    rw [← hS] at hatz hrk hfy
    clear hS
    have hkm := fun X => h85 X S
    obtain ⟨key, op, vals, nn⟩ := y
    obtain ⟨sm, sn, su, sl, slo, shi⟩ := S
    simp only at hnone hlook hrk hfind
    obtain ⟨vs, hvs⟩ : ∃ xs, xs = vals.map mkS := ⟨_, rfl⟩
    obtain ⟨ls, hls⟩ : ∃ xs, xs = sl.map mkS := ⟨_, rfl⟩
    have cv : CleanL vs := cleanL_map clean_S hvs
    have cl : CleanL ls := cleanL_map clean_S hls
    cases fd with
    | none =>
      simp only at hrk
      have hput : mputD kS (mkS key) (setD ⟨sm, sn, su, sl, slo, shi⟩) es = some ((m ++ [(⟨key, ⟨sm, sn, su, sl, slo, shi⟩⟩ : KeyV)]).map entS) := by
        rw [hes, List.map_append]
        exact mput_new _ _ key _ m (hnone rfl)
      obtain ⟨es2, hes2⟩ : ∃ e, e = (m ++ [(⟨key, ⟨sm, sn, su, sl, slo, shi⟩⟩ : KeyV)]).map entS := ⟨_, rfl⟩
      rw [← hes2] at hput
      simp only [reqD, setD, ← hvs, ← hls] at hatx hatz hput hlook
      conv => cbv
      refine ⟨_, hatz, ?_⟩
      conv => cbv
      intro g8
      conv => cbv
      refine ⟨_, hatx, ?_⟩
      conv => cbv
      refine ⟨none, hlook, ?_⟩
      conv => cbv
      intro g9
      conv => cbv
      refine ⟨_, hatx, ?_⟩
      conv => cbv
      refine ⟨es2, hput, fun c => ?_⟩
      conv => cbv
      exact ⟨_, _, up _ _ ⟨_, k + 1, m ++ [⟨key, ⟨sm, sn, su, sl, slo, shi⟩⟩], insK ⟨key, ⟨sm, sn, su, sl, slo, shi⟩⟩ out, es2, c, rfl, by rw [o_add64 hO (by omega) (by omega)]; omega, by omega, rfl, hes2, (List.perm_append_comm.trans ((hperm.cons _).trans (insK_perm _ _).symm)), insK_ord hord (fun z hz => hnone rfl z (hperm.mem_iff.2 hz)), (fun x hx => by
        rcases List.mem_append.1 hx with hx | hx
        · exact hfm2 x hx
        · simp only [List.mem_singleton] at hx; subst hx; exact hfy), by simp; omega, hrk⟩, ⟨⟨rfl, rfl, rfl, rfl, rfl, trivial⟩, ⟨rfl, trivial⟩, rfl⟩, by omega⟩
    | some x =>
      obtain ⟨hxm, hxk⟩ := hfind x rfl
      have hfx := hfm2 x hxm
      simp only at hrk
      have hk85 := hkm x.s hfx hfy
      have hfM := hfm x.s ⟨sm, sn, su, sl, slo, shi⟩
      obtain ⟨p, hp⟩ : ∃ p, p = meetS x.s ⟨sm, sn, su, sl, slo, shi⟩ := ⟨_, rfl⟩
      rw [← hp] at hk85 hrk hfM
      clear hp
      obtain ⟨⟨mm, mn, mu, ml, mlo, mhi⟩, e⟩ := p
      have hput : mputD kS (mkS key) (setD ⟨mm, mn, mu, ml, mlo, mhi⟩) es = some ((setK key ⟨mm, mn, mu, ml, mlo, mhi⟩ m).map entS) := by
        rw [hes]
        exact mput_set key _ hnd ⟨x, hxm, hxk⟩
      obtain ⟨es2, hes2⟩ : ∃ e, e = (setK key ⟨mm, mn, mu, ml, mlo, mhi⟩ m).map entS := ⟨_, rfl⟩
      rw [← hes2] at hput
      obtain ⟨xk, ⟨xm, xn, xu, xl, xlo, xhi⟩⟩ := x
      obtain ⟨ws, hws⟩ : ∃ xs, xs = xl.map mkS := ⟨_, rfl⟩
      obtain ⟨ms, hms⟩ : ∃ xs, xs = ml.map mkS := ⟨_, rfl⟩
      have cw : CleanL ws := cleanL_map clean_S hws
      have cm : CleanL ms := cleanL_map clean_S hms
      simp only [reqD, setD, ← hvs, ← hls, ← hws, ← hms, Option.map_some] at hatx hatz hput hlook hk85
      simp only at hrk
      have hnx : ∀ z ∈ setK key ⟨mm, mn, mu, ml, mlo, mhi⟩ m, FS z.s := fun z hz => by
        unfold setK at hz
        obtain ⟨z0, h3, rfl⟩ := List.mem_map.1 hz
        split
        · exact hfM
        · exact hfm2 z0 h3
      conv => cbv
      refine ⟨_, hatz, ?_⟩
      conv => cbv
      intro g8
      conv => cbv
      refine ⟨_, hatx, ?_⟩
      conv => cbv
      refine ⟨_, hlook, ?_⟩
      conv => cbv
      intro g9
      conv => cbv
      repeat' (refine And.intro (by first | assumption | exact ⟨rfl⟩ | exact ⟨rfl, rfl⟩) ?_)
      refine ⟨_, hk85, ?_⟩
      conv => cbv
      rintro (_ | _) h3 <;> replace h3 := ci hO h3 <;> dsimp only [CmpI] at h3
      case true =>
        rw [if_neg h3] at hrk
        rw [hrk] at hrs hre
        simp only [List.map_nil] at hrs hre
        subst hrs hre
        conv => cbv
        exact ⟨⟨rfl, rfl⟩, rfl⟩
      rw [if_pos h3] at hrk
      conv => cbv
      refine ⟨_, hatx, ?_⟩
      conv => cbv
      refine ⟨es2, hput, fun c => ?_⟩
      conv => cbv
      exact ⟨_, _, up _ _ ⟨_, k + 1, _, _, es2, c, rfl, by rw [o_add64 hO (by omega) (by omega)]; omega, by omega, rfl, hes2, hperm.map _, setK_ord hord, hnx, by unfold setK; simp; omega, hrk⟩, ⟨⟨rfl, rfl, rfl, rfl, rfl, trivial⟩, ⟨rfl, trivial⟩, rfl⟩, by omega⟩
end Go.Proofs.AM
namespace Go.Proofs.AM
open Go Go.Lib Go.RowKit Go.Maps Go.Sort Go.Shelf
theorem SCall.mono0 {V : Ans} {b g : Nat} {l : List D} {gv : List (Nat × Box)} {Q Q' : D → List (Nat × Box) → Prop} (h : SCall V b g l gv Q) (hq : ∀ r kn, Q r kn → Q' r kn) : SCall V b g l gv Q' := by
  intro bx hbx
  obtain ⟨post, h1, h2, h3⟩ := h bx hbx
  refine ⟨post, h1, h2, fun r bx' hp => ?_⟩
  obtain ⟨kn, k1, k2⟩ := h3 r bx' hp
  exact ⟨kn, hq _ _ k1, k2⟩
def firstS : List Value → Str
  | .string s :: _ => s.data.toList
  | _ => []
def keyW (l : List Value) : Prop := ∃ s r, l = .string s :: r
abbrev RowK := Row 7 keyW
instance : Inhabited RowK := ⟨⟨.string ⟨#[]⟩ :: List.replicate 6 (.bool false), rfl, by simp [Value.oneCell'], ⟨_, _, rfl⟩⟩⟩
def cfK (x y : RowK) : Int := Lib.compareBytes (firstS x.cs) (firstS y.cs)
theorem ltK (x y : RowK) : ltOf cfK x y = decide (firstS x.cs < firstS y.cs) := by
  unfold ltOf cfK
  rw [cmp_bytes]
  unfold cmpS
  by_cases h : firstS x.cs < firstS y.cs
  · simp [h]
  · by_cases h2 : firstS x.cs = firstS y.cs
    · rw [if_neg h, if_pos h2, decide_eq_false h]; rfl
    · rw [if_neg h, if_neg h2, decide_eq_false h]; rfl
theorem swoK : SWO (ltOf cfK) where
  irrefl x := by rw [ltK]; simp
  trans x y z h1 h2 := by rw [ltK] at *; simp only [decide_eq_true_eq] at *; exact List.lt_trans h1 h2
  ntrans x y z h1 h2 := by
    rw [ltK] at *
    simp only [decide_eq_false_iff_not] at *
    intro h3
    rcases lt_total (firstS y.cs) (firstS z.cs) with h | h | h
    · rcases lt_total (firstS x.cs) (firstS y.cs) with h' | h' | h'
      · exact h1 h'
      · rw [← h'] at h; exact h2 (h' ▸ h)
      · exact h2 h
    · rw [← h] at h3; exact h1 h3
    · exact h1 (List.lt_trans h3 h)
set_option maxHeartbeats 1000000 in
theorem closure87 (x y : RowK) (W : World) : Calls Tryz.prog 19 #[.agg x.cs.toArray, .agg y.cs.toArray] W fun e w' => e = .returned (.int .i64 (cfK x y)) ∧ ∃ q os', w' = grow (W.drewN q) os' := by
  obtain ⟨cs, hl, h1, s, r, rfl⟩ := x
  obtain ⟨ds, hl', h1', s', r', rfl⟩ := y
  have hcon := fun W' => Any.strings_Compare Tryz.laysCmp s s' W'
  change ∀ W', Calls Tryz.prog 20 _ _ _ at hcon
  unfold cfK
  simp only [firstS]
  obtain ⟨q, hq⟩ : ∃ q, q = Lib.compareBytes s.data.toList s'.data.toList := ⟨_, rfl⟩
  rw [← hq] at hcon ⊢
  clear hq
  match r, hl with
  | [a1, a2, a3, a4, a5, a6], _ =>
  match r', hl' with
  | [b1, b2, b3, b4, b5, b6], _ =>
  clear h1 h1'
  simp only [List.toArray]
  go_enter Tryz.func19, Tryz.ntmps19
  go_wp2_with (go_at_call 20; refine (hcon _).mono ?_; rintro e w' ⟨rfl, rfl⟩)
  go_ret
  exact ⟨rfl, 0, _, by rw [alloc_eq_grow, alloc_eq_grow, grow_grow]; rfl⟩
def ltD : D → D → Bool
  | .agg (.str a :: _), .agg (.str b :: _) => decide (a.data.toList < b.data.toList)
  | _, _ => false
theorem ltD_keyed (x y : KeyV) : ltD (keyedD x) (keyedD y) = decide (x.k < y.k) := rfl
theorem hlt86 (c : Cx) (x y : KeyV) (a b : RowK) (ha : RV c (keyedD x) (.agg a.cs.toArray)) (hb : RV c (keyedD y) (.agg b.cs.toArray)) : ltD (keyedD x) (keyedD y) = ltOf cfK a b := by
  have get : ∀ (x : KeyV) (a : RowK), RV c (keyedD x) (.agg a.cs.toArray) → firstS a.cs = x.k := by
    intro x a ha
    simp only [keyedD, keyC, RV, RVs, mkS] at ha
    obtain ⟨vs, e1, ⟨v, r, e2, rfl, _⟩, _⟩ := ha
    simp only [Value.agg.injEq] at e1
    subst e1
    simp only at e2
    rw [e2]
    rfl
  rw [ltD_keyed, ltK, get x a ha, get y b hb]
theorem h86 (g : Nat) (a out : List KeyV) (hp : a.Perm out) (ho : OrdK out) (hl : a.length ≤ 8796093022208) :
    SCall (PR Tryz.prog (Gd Tryz.prog)) 500 18 [.own 99 g, .fn 19 [] []] [(99, ⟨g, .rw, .arr 7 37, a.map keyedD⟩)] (fun r kn => r = .tup [] ∧ kn = [(99, ⟨g, .rw, .arr 7 37, out.map keyedD⟩)]) := by
  have hS := sort_s (G := Gd Tryz.prog) (k := 7) (W := keyW) Tryz.sortF (enters_of Tryz.func18 (by kernel_rfl) rfl) (by decide) Tryz.isAgg37 Tryz.sizeOf37 37 cfK swoK 19 (enters_of Tryz.func19 (by kernel_rfl) rfl) closure87 ltD 99 g 500 (a.map keyedD) (by simp; omega)
    (fun c x hx ev hv _ => by
      obtain ⟨y, _, rfl⟩ := List.mem_map.1 hx
      simp only [keyedD, keyC, RV, RVs, mkS] at hv
      obtain ⟨vs, rfl, ⟨v, r, e2, rfl, _⟩, _⟩ := hv
      exact ⟨⟨_, r, e2⟩, rfl⟩)
    (fun c x y p q hx hy hp hq => by
      obtain ⟨x, _, rfl⟩ := List.mem_map.1 hx
      obtain ⟨y, _, rfl⟩ := List.mem_map.1 hy
      exact hlt86 c x y p q hp hq)
    ⟨out.map keyedD, hp.map _, fun i j x y hij hx hy => by
      rw [List.getElem?_map] at hx hy
      obtain ⟨u, hu, rfl⟩ := Option.map_eq_some_iff.1 hx
      obtain ⟨v, hv, rfl⟩ := Option.map_eq_some_iff.1 hy
      rw [ltD_keyed, decide_eq_false_iff_not]
      obtain ⟨hi, rfl⟩ := List.getElem?_eq_some_iff.1 hu
      obtain ⟨hj, rfl⟩ := List.getElem?_eq_some_iff.1 hv
      exact fun h => str_asymm h (List.pairwise_iff_getElem.1 ho i j hi hj hij)⟩
  refine SCall.mono0 hS ?_
  rintro r kn ⟨rfl, ys, h1, h2, rfl⟩
  refine ⟨rfl, ?_⟩
  obtain ⟨b, hb1, hb2⟩ := perm_lift keyedD h1 a rfl
  subst hb2
  have hbo : OrdK b := by
    refine List.pairwise_iff_getElem.2 fun i j hi hj hij => ?_
    have h3 := h2 i j (keyedD b[i]) (keyedD b[j]) hij (by simp [hi]) (by simp [hj])
    rw [ltD_keyed, decide_eq_false_iff_not] at h3
    have hnd : (b.map (·.k)).Nodup := ((hb1.symm.trans hp).map _).nodup_iff.2 (ordK_nodup ho)
    rcases lt_total b[i].k b[j].k with h | h | h
    · exact h
    · have := (List.pairwise_iff_getElem.1 hnd) i j (by simpa using hi) (by simpa using hj) hij
      simp only [List.getElem_map] at this
      exact absurd h this
    · exact absurd h h3
  rw [ordK_eq (hb1.symm.trans hp) hbo ho]
theorem info75 : ∃ i z, Tryz.prog.info? 44 = some i ∧ i.zero = some z ∧ i.size = 4 ∧ z.cells.size = 4 ∧ i.bytes = 56 := by
  have h : (match Tryz.prog.info? 44 with | some i => (match i.zero with | some z => i.size == 4 && z.cells.size == 4 && i.bytes == 56 | none => false) | none => false) = true := by kernel_rfl
  cases hi : Tryz.prog.info? 44 with
  | none => rw [hi] at h; simp at h
  | some i =>
    rw [hi] at h
    cases hz : i.zero with
    | none => simp [hz] at h
    | some z =>
      simp only [hz, Bool.and_eq_true, beq_iff_eq] at h
      exact ⟨i, z, rfl, hz, h.1.1, h.1.2, h.2⟩
theorem hg0 : SCall (PR Tryz.prog (Gd Tryz.prog)) 500 38 [.sl 4 true [], .int .i64 0] [] (fun r kn => r = .sl 4 true [] ∧ kn = []) :=
  grow_none Tryz.growL (enters_of Tryz.func38 (by kernel_rfl) rfl) 4 500
theorem hg1 (n : Int) (h0 : 0 < n) (hn : n ≤ 1000) : SCall (PR Tryz.prog (Gd Tryz.prog)) 500 38 [.sl 4 true [], .int .i64 n] [] (fun r kn => ∃ g, r = .own 596 g ∧ kn = [(596, ⟨g, .rw, .arr 4 44, []⟩)]) := by
  obtain ⟨i, z, h1, h2, h3, h4, h5⟩ := info75
  have := grow_new (G := Gd Tryz.prog) Tryz.growL (enters_of Tryz.func38 (by kernel_rfl) rfl) i z h1 h2 (by omega) (by omega) (by omega) 596 500 (by omega) n h0 hn
  rw [h3] at this
  exact this
end Go.Proofs.AM
namespace Go.Proofs.AM
open Go Go.Lib
theorem nameP_cons {c : UInt8} {r : Str} : NameP (c :: r) ↔ r.length ≤ 15 ∧ small c ∧ ∀ x ∈ r, okc x := by
  unfold NameP
  constructor
  · rintro ⟨h1, h2, h3⟩
    refine ⟨by simpa using h2, (h3 0 c rfl).2 rfl, fun x hx => ?_⟩
    obtain ⟨j, hj⟩ := List.getElem?_of_mem hx
    exact (h3 (j + 1) x (by simpa using hj)).1
  · rintro ⟨h1, h2, h3⟩
    refine ⟨by simp, by simpa using h1, fun i x hx => ?_⟩
    cases i with
    | zero => simp at hx; subst hx; exact ⟨.inl h2, fun _ => h2⟩
    | succ i => exact ⟨h3 x (List.mem_of_getElem? (by simpa using hx)), by simp⟩
theorem nameB_cons (c : UInt8) (r : Str) : nameB (c :: r) = (decide (r.length ≤ 15) && decide (small c) && r.all fun x => decide (okc x)) := by
  rw [Bool.eq_iff_iff]
  unfold nameB
  simp only [decide_eq_true_eq, Bool.and_eq_true, List.all_eq_true]
  rw [nameP_cons, and_assoc]
theorem itoa_d {n : Nat} (h : n < 10) : itoa (n : Int) = [UInt8.ofNat (48 + n)] := by
  rw [itoa_pos' (by omega), Int.natAbs_natCast, decDigits_small h]
theorem numS_d {n : Nat} (h : n < 10) : numS [UInt8.ofNat (48 + n)] = some (n : Int) := by
  rw [← itoa_d h]
  exact numS_itoa (by unfold least; omega) (by unfold most; omega)
theorem wrongE_ok {r : ReqV} (h1 : nameB r.key = true) (h2 : ¬ BadOp r) (h3 : r.l.length ≤ 8) (h4 : ∀ v ∈ r.l, valueB v = true) (h5 : r.l.Nodup) : wrongE r = 0 := by
  unfold wrongE
  rw [if_neg (by simp [h1]), if_neg h2, if_neg (by omega), if_neg (fun ⟨v, hv, e⟩ => by rw [h4 v hv] at e; simp at e), if_neg (by simpa using h5)]
theorem wrongE_op {r : ReqV} (h1 : nameB r.key = true) (h2 : BadOp r) : wrongE r = 30 := by
  unfold wrongE
  rw [if_neg (by simp [h1]), if_pos h2]
theorem numbersS_empty {lo hi : Int} : numbersS lo hi [] = if hi - lo + 1 ≤ 64 then some ⟨false, false, false, risingS (upTo lo (hi + 1 - lo).toNat), 0, 0⟩ else some ⟨false, true, true, [], lo, hi⟩ := by
  unfold numbersS
  rw [upS_stop (by simp), dnS_stop (by simp)]
  unfold numbersN
  have hv : valsN lo hi [] = [] := by simp [valsN, risingS]
  rw [hv]
  simp only [List.length_nil, Int.natCast_zero, Int.sub_zero]
  have hl : listN lo hi [] = upTo lo (hi + 1 - lo).toNat := by
    unfold listN
    rw [List.filter_eq_self.2 (by simp)]
  rw [hl]
  by_cases h : hi - lo + 1 ≤ 64
  · rw [if_pos (by omega), if_pos h]
  · rw [if_neg (by omega), if_neg (by omega), if_neg h]
theorem upTo_mem {lo : Int} {z : Str} : ∀ {n : Nat}, z ∈ upTo lo n ↔ ∃ i : Nat, i < n ∧ z = itoa (lo + i)
  | 0 => by simp [upTo]
  | n + 1 => by
    rw [upTo_get, List.mem_append, upTo_mem]
    constructor
    · rintro (⟨i, h, e⟩ | h)
      · exact ⟨i, by omega, e⟩
      · exact ⟨n, by omega, by simpa using h⟩
    · rintro ⟨i, h, e⟩
      by_cases hi : i < n
      · exact .inl ⟨i, hi, e⟩
      · have : i = n := by omega
        subst this
        exact .inr (by simpa using e)
theorem upTo_nodup (lo : Int) : ∀ n, (upTo lo n).Nodup
  | 0 => List.nodup_nil
  | n + 1 => by
    rw [upTo_get, List.nodup_append]
    refine ⟨upTo_nodup lo n, by simp, fun a ha b hb => ?_⟩
    simp only [List.mem_singleton] at hb
    obtain ⟨i, h, rfl⟩ := upTo_mem.1 ha
    subst hb
    intro e
    have := itoa_inj e
    omega
def zoneT : Str := [122, 111, 110, 101]
def genS : Str := [103, 101, 110]
def qZone : ReqV := ⟨zoneT, 1, [[98], [97]], 0⟩
def qAbove : ReqV := ⟨genS, 5, [], 3⟩
def qBelow : ReqV := ⟨genS, 6, [], 6⟩
def qNone : ReqV := ⟨zoneT, 1, [], 0⟩
def sAB : SetV := ⟨false, false, false, [[97], [98]], 0, 0⟩
def sAbove : SetV := ⟨false, true, true, [], 4, 2147483648⟩
def sBelow : SetV := ⟨false, true, true, [], -2147483648, 5⟩
def s45 : SetV := ⟨false, false, false, [[52], [53]], 0, 0⟩
theorem name_zone : nameB zoneT = true := by unfold zoneT; rw [nameB_cons]; decide
theorem name_gen : nameB genS = true := by unfold genS; rw [nameB_cons]; decide
theorem value_name {s : Str} (h : nameB s = true) : valueB s = true := by rw [valueB_or, h]; rfl
theorem wrong_zone : wrongE qZone = 0 := wrongE_ok name_zone (by decide) (by decide) (fun v hv => by
  simp only [qZone, List.mem_cons, List.not_mem_nil, or_false] at hv
  rcases hv with rfl | rfl <;> exact value_name (by rw [nameB_cons]; decide)) (by decide)
theorem wrong_above : wrongE qAbove = 0 := wrongE_ok name_gen (by decide) (by decide) (fun v hv => by simp [qAbove] at hv) (by decide)
theorem wrong_below : wrongE qBelow = 0 := wrongE_ok name_gen (by decide) (by decide) (fun v hv => by simp [qBelow] at hv) (by decide)
theorem wrong_none : wrongE qNone = 30 := wrongE_op name_zone (by decide)
theorem set_zone : ofSet qZone = sAB := by
  unfold ofSet
  rw [if_pos wrong_zone]
  unfold ofS
  rw [if_pos (by decide)]
  have : risingS qZone.l = [[97], [98]] := by decide
  rw [this]
  rfl
theorem set_above : ofSet qAbove = sAbove := by
  unfold ofSet
  rw [if_pos wrong_above]
  unfold ofS
  rw [if_neg (by decide), if_neg (by decide), if_neg (by decide), if_neg (by decide), if_pos (by decide), numbersS_empty, if_neg (by decide)]
  rfl
theorem set_below : ofSet qBelow = sBelow := by
  unfold ofSet
  rw [if_pos wrong_below]
  unfold ofS
  rw [if_neg (by decide), if_neg (by decide), if_neg (by decide), if_neg (by decide), if_neg (by decide), numbersS_empty, if_neg (by decide)]
  rfl
theorem set_none : ofSet qNone = zeroS := by
  unfold ofSet
  rw [if_neg (by rw [wrong_none]; decide)]
theorem ord_nil : OrdP [] := by unfold OrdP AdjP; simp
theorem check_above : CheckP sAbove := ⟨ord_nil, fun _ => rfl, fun h => by simp [sAbove] at h, fun _ => ⟨by decide, by decide, by decide, by decide, by simp [sAbove]⟩⟩
theorem check_below : CheckP sBelow := ⟨ord_nil, fun _ => rfl, fun h => by simp [sBelow] at h, fun _ => ⟨by decide, by decide, by decide, by decide, by simp [sBelow]⟩⟩
theorem upTo45 : risingS (upTo 4 2) = [[52], [53]] := by
  have h1 : itoa 4 = [52] := itoa_d (n := 4) (by decide)
  have h2 : itoa (4 + 1) = [53] := itoa_d (n := 5) (by decide)
  simp only [upTo, h1, h2]
  decide
theorem meet_live : meetS sAbove sBelow = (s45, 0) := by
  unfold meetS
  rw [if_neg (by rw [checkE_0 check_above]; simp), if_neg (by rw [checkE_0 check_below]; simp)]
  have : meetN sAbove sBelow = some s45 := by
    unfold meetN
    rw [if_neg (by decide), if_neg (by decide), if_neg (by decide), if_neg (by decide), if_neg (by decide)]
    have : risingS (sAbove.l ++ sBelow.l) = [] := rfl
    rw [this, numbersS_empty, if_pos (by decide)]
    have : (min sAbove.hi sBelow.hi + 1 - max sAbove.lo sBelow.lo).toNat = 2 := by decide
    rw [this]
    have : max sAbove.lo sBelow.lo = 4 := by decide
    rw [this, upTo45]
    rfl
  rw [this]
  rfl
theorem num_4 : numS [52] = some 4 := numS_d (n := 4) (by decide)
theorem has_4 : hasB sAbove [52] = true := by
  unfold hasB
  rw [checkE_0 check_above, valueB_or, num_4]
  unfold hasRaw
  rw [rangeB_some num_4]
  simp [sAbove]
theorem num_04 : numS [48, 52] = none := by
  cases h : numS [48, 52] with
  | none => rfl
  | some n =>
    obtain ⟨h1, _, _⟩ := numS_iff.1 h
    have h2 : valS [48, 52] = n := by rw [h1, valS_itoa]
    have h3 : valS [48, 52] = 4 := by decide
    have h4 : n = ((4 : Nat) : Int) := by omega
    rw [h4, itoa_d (by decide)] at h1
    exact absurd h1 (by decide)
theorem has_04 : hasB sAbove [48, 52] = false := by
  unfold hasB
  rw [valueB_or, num_04, nameB_cons]
  have : decide (small 48) = false := by decide
  rw [this]
  simp
theorem value_x1 : valueB [120, 45, 49] = true := value_name (by rw [nameB_cons]; decide)
theorem name_5 : nameB [53] = false := by rw [nameB_cons]; decide
theorem fl_small {l : List Str} (h1 : l.length ≤ 8) (h2 : ∀ s ∈ l, s.length ≤ 16) : FL l := ⟨by omega, fun s hs => by have := h2 s hs; unfold SL; omega⟩
theorem fr_zone : FR qZone := ⟨by unfold SL; decide, fl_small (by decide) (by decide), ⟨by decide, by decide⟩, ⟨by decide, by decide⟩⟩
theorem fr_above : FR qAbove := ⟨by unfold SL; decide, fl_small (by decide) (by decide), ⟨by decide, by decide⟩, ⟨by decide, by decide⟩⟩
theorem fr_below : FR qBelow := ⟨by unfold SL; decide, fl_small (by decide) (by decide), ⟨by decide, by decide⟩, ⟨by decide, by decide⟩⟩
theorem fr_none : FR qNone := ⟨by unfold SL; decide, fl_small (by decide) (by decide), ⟨by decide, by decide⟩, ⟨by decide, by decide⟩⟩
theorem fs_above : FS sAbove := ⟨fl_small (by decide) (by decide), ⟨by decide, by decide⟩, ⟨by decide, by decide⟩⟩
theorem fs_below : FS sBelow := ⟨fl_small (by decide) (by decide), ⟨by decide, by decide⟩, ⟨by decide, by decide⟩⟩
theorem fs_AB : FS sAB := ⟨fl_small (by decide) (by decide), ⟨by decide, by decide⟩, ⟨by decide, by decide⟩⟩
theorem fs_45 : FS s45 := ⟨fl_small (by decide) (by decide), ⟨by decide, by decide⟩, ⟨by decide, by decide⟩⟩
end Go.Proofs.AM
namespace Go.Proofs.AM
open Go Go.Lib
theorem value_num {v : Str} {n : Int} (h : numS v = some n) : valueB v = true := by rw [valueB_or, h]; simp
theorem hasRaw_iff {s : SetV} {v : Str} : hasRaw s v = true ↔ (s.n = true ↔ v ∉ s.l) ∧ (s.u = true → ∃ n, numS v = some n ∧ s.lo ≤ n ∧ n ≤ s.hi) := by
  unfold hasRaw rangeB
  cases s.n <;> cases s.u <;> simp
theorem bool_eq {a b : Bool} (h : a = true ↔ b = true) : a = b := by cases a <;> cases b <;> simp_all
theorem itoa_num {n : Int} (h1 : least ≤ n) (h2 : n ≤ most) {v : Str} (h : v = itoa n) : numS v = some n := by rw [h]; exact numS_itoa h1 h2
theorem num_itoa {v : Str} {n : Int} (h : numS v = some n) : v = itoa n := (numS_iff.1 h).1
theorem filter_len {U V : List Str} (hU : U.Nodup) (hV : V.Nodup) (h : ∀ z ∈ V, z ∈ U) : (U.filter fun s => decide (s ∉ V)).length + V.length = U.length := by
  have h1 : (U.filter fun s => decide (s ∈ V)).length = V.length := nodup_len_eq (hU.filter _) hV fun z => by
    simp only [List.mem_filter, decide_eq_true_eq]
    exact ⟨fun h => h.2, fun hz => ⟨h z hz, hz⟩⟩
  rw [← h1]
  clear h1 hU hV h
  induction U with
  | nil => rfl
  | cons x U ih =>
    by_cases hx : x ∈ V <;> simp [hx] <;> simp at ih <;> omega
theorem up_spec {hi : Int} {K : List Str} : ∀ (n : Nat) (lo : Int), (hi + 1 - lo).toNat ≤ n → (∀ i, lo ≤ i → i < upS hi K lo → itoa i ∈ K) ∧ ¬ (upS hi K lo ≤ hi ∧ itoa (upS hi K lo) ∈ K) := by
  intro n
  induction n with
  | zero =>
    intro lo h
    have hc : ¬ (lo ≤ hi ∧ itoa lo ∈ K) := fun h' => by omega
    rw [upS_stop hc]
    exact ⟨fun i h1 h2 => by omega, hc⟩
  | succ n ih =>
    intro lo h
    by_cases hc : lo ≤ hi ∧ itoa lo ∈ K
    · rw [upS_step hc]
      obtain ⟨h1, h2⟩ := ih (lo + 1) (by omega)
      refine ⟨fun i hi1 hi2 => ?_, h2⟩
      by_cases e : i = lo
      · subst e; exact hc.2
      · exact h1 i (by omega) hi2
    · rw [upS_stop hc]
      exact ⟨fun i h1 h2 => by omega, hc⟩
theorem dn_spec {lo : Int} {K : List Str} : ∀ (n : Nat) (hi : Int), (hi + 1 - lo).toNat ≤ n → (∀ i, dnS lo K hi < i → i ≤ hi → itoa i ∈ K) ∧ ¬ (lo ≤ dnS lo K hi ∧ itoa (dnS lo K hi) ∈ K) := by
  intro n
  induction n with
  | zero =>
    intro hi h
    have hc : ¬ (lo ≤ hi ∧ itoa hi ∈ K) := fun h' => by omega
    rw [dnS_stop hc]
    exact ⟨fun i h1 h2 => by omega, hc⟩
  | succ n ih =>
    intro hi h
    by_cases hc : lo ≤ hi ∧ itoa hi ∈ K
    · rw [dnS_step hc]
      obtain ⟨h1, h2⟩ := ih (hi - 1) (by omega)
      refine ⟨fun i hi1 hi2 => ?_, h2⟩
      by_cases e : i = hi
      · subst e; exact hc.2
      · exact h1 i hi1 (by omega)
    · rw [dnS_stop hc]
      exact ⟨fun i h1 h2 => by omega, hc⟩
theorem valsN_mem {x y : Int} {K : List Str} {z : Str} : z ∈ valsN x y K ↔ z ∈ K ∧ ∃ n, numS z = some n ∧ x < n ∧ n < y := by
  unfold valsN
  rw [risingS_mem, List.mem_filter, inR_iff]
theorem num_upTo {x y : Int} (h1 : least ≤ x) (h2 : y ≤ most) {z : Str} : z ∈ upTo x (y + 1 - x).toNat ↔ ∃ n, numS z = some n ∧ x ≤ n ∧ n ≤ y := by
  rw [upTo_mem]
  constructor
  · rintro ⟨i, hi, e⟩
    exact ⟨x + i, itoa_num (by omega) (by omega) e, by omega, by omega⟩
  · rintro ⟨n, hn, h3, h4⟩
    refine ⟨(n - x).toNat, by omega, ?_⟩
    rw [num_itoa hn]
    congr 1
    omega
theorem numbersN_spec {x y : Int} {K : List Str} {S : SetV} (h1 : least ≤ x) (h2 : y ≤ most) (hx : x ≤ y → itoa x ∉ K) (hy : x ≤ y → itoa y ∉ K) (h : numbersN x y K = some S) :
    CheckP S ∧ S.m = false ∧ ∀ v, hasRaw S v = true ↔ v ∉ K ∧ ∃ n, numS v = some n ∧ x ≤ n ∧ n ≤ y := by
  have hin : ∀ v n, numS v = some n → x ≤ n → n ≤ y → (v ∈ valsN x y K ↔ v ∈ K) := fun v n hv h3 h4 => by
    rw [valsN_mem]
    refine ⟨fun h => h.1, fun hk => ⟨hk, n, hv, ?_, ?_⟩⟩
    · have : n ≠ x := fun e => hx (by omega) (by rw [← e, ← num_itoa hv]; exact hk)
      omega
    · have : n ≠ y := fun e => hy (by omega) (by rw [← e, ← num_itoa hv]; exact hk)
      omega
  have hVn : (valsN x y K).Nodup := (risingS_rises _).nodup
  have hVr : Rises (valsN x y K) := risingS_rises _
  have hVm : ∀ z ∈ valsN x y K, ∃ n, numS z = some n ∧ x < n ∧ n < y := fun z hz => (valsN_mem.1 hz).2
  unfold numbersN at h
  split at h
  · rename_i hc
    simp only [Option.some.injEq] at h
    subst h
    have hmem : ∀ z, z ∈ risingS (listN x y (valsN x y K)) ↔ z ∉ valsN x y K ∧ ∃ n, numS z = some n ∧ x ≤ n ∧ n ≤ y := fun z => by
      unfold listN
      rw [risingS_mem, List.mem_filter, num_upTo h1 h2]
      simp only [decide_eq_true_eq]
      exact and_comm
    have hln : (listN x y (valsN x y K)).Nodup := (upTo_nodup _ _).filter _
    have hlen : (risingS (listN x y (valsN x y K))).length ≤ 64 := by
      rw [risingS_len_eq hln]
      have := filter_len (upTo_nodup x (y + 1 - x).toNat) hVn fun z hz => by
        obtain ⟨n, h3, h4, h5⟩ := hVm z hz
        exact (num_upTo h1 h2).2 ⟨n, h3, by omega, by omega⟩
      rw [upTo_len] at this
      unfold listN
      omega
    refine ⟨⟨⟨hlen, fun j z hz => ?_, (risingS_rises _).adj⟩, by simp, by simp, by simp⟩, rfl, fun v => ?_⟩
    · obtain ⟨_, n, hn, _⟩ := (hmem z).1 (List.mem_of_getElem? hz)
      exact value_num hn
    · rw [hasRaw_iff]
      simp only [Bool.false_eq_true, false_iff, Decidable.not_not, false_imp_iff, and_true]
      rw [hmem]
      constructor
      · rintro ⟨h3, n, h4, h5, h6⟩
        exact ⟨fun hk => h3 ((hin v n h4 h5 h6).2 hk), n, h4, h5, h6⟩
      · rintro ⟨h3, n, h4, h5, h6⟩
        exact ⟨fun hk => h3 ((hin v n h4 h5 h6).1 hk), n, h4, h5, h6⟩
  · rename_i hc
    split at h
    · simp at h
    · rename_i hv
      simp only [Option.some.injEq] at h
      subst h
      refine ⟨⟨⟨by show (valsN x y K).length ≤ 64; omega, fun j z hz => ?_, hVr.adj⟩, by simp, by simp, fun _ => ⟨h1, h2, by show x ≤ y; omega, by show 64 < y - x + 1 - ((valsN x y K).length : Int); omega, fun j z hz => hVm z (List.mem_of_getElem? hz)⟩⟩, rfl, fun v => ?_⟩
      · obtain ⟨n, hn, _⟩ := hVm z (List.mem_of_getElem? hz)
        exact value_num hn
      · rw [hasRaw_iff]
        simp only [true_iff, true_imp_iff]
        constructor
        · rintro ⟨h3, n, h4, h5, h6⟩
          exact ⟨fun hk => h3 ((hin v n h4 h5 h6).2 hk), n, h4, h5, h6⟩
        · rintro ⟨h3, n, h4, h5, h6⟩
          exact ⟨fun hk => h3 ((hin v n h4 h5 h6).1 hk), n, h4, h5, h6⟩
theorem numbersS_spec {lo hi : Int} {K : List Str} {S : SetV} (h1 : least ≤ lo) (h2 : hi ≤ most) (h : numbersS lo hi K = some S) :
    CheckP S ∧ S.m = false ∧ ∀ v, hasRaw S v = true ↔ v ∉ K ∧ ∃ n, numS v = some n ∧ lo ≤ n ∧ n ≤ hi := by
  unfold numbersS at h
  obtain ⟨u1, u2⟩ := up_spec (hi := hi) (K := K) _ lo (Nat.le_refl _)
  obtain ⟨u3, _, _⟩ := upS_ge (hi := hi) (K := K) _ lo (Nat.le_refl _)
  obtain ⟨x, hx⟩ : ∃ x, x = upS hi K lo := ⟨_, rfl⟩
  rw [← hx] at h u1 u2 u3
  obtain ⟨d1, d2⟩ := dn_spec (lo := x) (K := K) _ hi (Nat.le_refl _)
  obtain ⟨d3, _, _⟩ := dnS_le (lo := x) (K := K) _ hi (Nat.le_refl _)
  obtain ⟨y, hy⟩ : ∃ y, y = dnS x K hi := ⟨_, rfl⟩
  rw [← hy] at h d1 d2 d3
  obtain ⟨c, m, r⟩ := numbersN_spec (by omega) (by omega) (fun hxy hk => u2 ⟨by omega, hk⟩) (fun hxy hk => d2 ⟨hxy, hk⟩) h
  refine ⟨c, m, fun v => ?_⟩
  rw [r]
  refine and_congr_right fun hv => ?_
  constructor
  · rintro ⟨n, h3, h4, h5⟩; exact ⟨n, h3, by omega, by omega⟩
  · rintro ⟨n, h3, h4, h5⟩
    refine ⟨n, h3, ?_, ?_⟩
    · refine Classical.byContradiction fun hlt => hv ?_
      rw [num_itoa h3]
      exact u1 n h4 (by omega)
    · refine Classical.byContradiction fun hlt => hv ?_
      rw [num_itoa h3]
      exact d1 n (by omega) h5
theorem numbersS_ne {lo hi : Int} {K : List Str} (h : K.length ≤ 64) : ∃ S, numbersS lo hi K = some S := by
  unfold numbersS numbersN
  split
  · exact ⟨_, rfl⟩
  · rw [if_neg]
    · exact ⟨_, rfl⟩
    · have h1 : (valsN (upS hi K lo) (dnS (upS hi K lo) K hi) K).length ≤ _ := risingS_len _
      have h2 := List.length_filter_le (inR (upS hi K lo) (dnS (upS hi K lo) K hi)) K
      omega
theorem CheckP.rises {s : SetV} (h : CheckP s) : Rises s.l := rises_of_adj h.ord.2.2
theorem CheckP.val {s : SetV} (h : CheckP s) {z : Str} (hz : z ∈ s.l) : valueB z = true := by
  obtain ⟨j, hj⟩ := List.getElem?_of_mem hz
  exact h.ord.2.1 j z hj
theorem CheckP.inr {s : SetV} (h : CheckP s) (hu : s.u = true) {z : Str} (hz : z ∈ s.l) : ∃ n, numS z = some n ∧ s.lo < n ∧ n < s.hi := by
  obtain ⟨j, hj⟩ := List.getElem?_of_mem hz
  exact (h.u hu).2.2.2.2 j z hj
theorem hasB_raw {s : SetV} (h : CheckP s) (v : Str) : hasB s v = (valueB v && hasRaw s v) := by
  unfold hasB
  rw [checkE_0 h]
  simp
theorem Rises.filter {l : List Str} (h : Rises l) (p : Str → Bool) : Rises (l.filter p) := List.Pairwise.filter _ h
theorem check_filter {a : SetV} (ca : CheckP a) (p : Str → Bool) : CheckP ⟨false, false, false, a.l.filter p, 0, 0⟩ :=
  ⟨⟨Nat.le_trans (List.length_filter_le _ _) ca.ord.1, fun _ _ hz => ca.val (List.mem_filter.1 (List.mem_of_getElem? hz)).1, (ca.rises.filter p).adj⟩, by simp, by simp, by simp⟩
theorem filter_spec {a b : SetV} (ca : CheckP a) (cb : CheckP b) (ha : a.n = false) {v : Str} (hv : valueB v = true) : hasRaw ⟨false, false, false, a.l.filter (hasB b), 0, 0⟩ v = true ↔ hasRaw a v = true ∧ hasRaw b v = true := by
  have hu : a.u = false := by cases h : a.u with
    | false => rfl
    | true => rw [ca.un h] at ha; simp at ha
  rw [hasRaw_iff, hasRaw_iff (s := a), ha, hu]
  simp [hasB_raw cb, hv]
theorem meetN_spec {a b S : SetV} (ca : CheckP a) (cb : CheckP b) (h : meetN a b = some S) : CheckP S ∧ S.m = false ∧ ∀ v, valueB v = true → (hasRaw S v = true ↔ hasRaw a v = true ∧ hasRaw b v = true) := by
  unfold meetN at h
  have hval : ∀ z, z ∈ risingS (a.l ++ b.l) → valueB z = true := fun z hz => by
    rw [risingS_mem, List.mem_append] at hz
    rcases hz with hz | hz
    · exact ca.val hz
    · exact cb.val hz
  have hmem : ∀ z, z ∉ risingS (a.l ++ b.l) ↔ z ∉ a.l ∧ z ∉ b.l := fun z => by rw [risingS_mem]; simp
  split at h
  · rename_i ha
    simp only [Option.some.injEq] at h
    subst h
    exact ⟨check_filter ca _, rfl, fun v hv => filter_spec ca cb ha hv⟩
  rename_i ha
  have ha : a.n = true := by simpa using ha
  split at h
  · rename_i hb
    simp only [Option.some.injEq] at h
    subst h
    exact ⟨check_filter cb _, rfl, fun v hv => by rw [filter_spec cb ca hb hv]; exact and_comm⟩
  rename_i hb
  have hb : b.n = true := by simpa using hb
  have ea : ∀ v, hasRaw a v = true ↔ v ∉ a.l ∧ (a.u = true → ∃ n, numS v = some n ∧ a.lo ≤ n ∧ n ≤ a.hi) := fun v => by rw [hasRaw_iff, ha]; simp
  have eb : ∀ v, hasRaw b v = true ↔ v ∉ b.l ∧ (b.u = true → ∃ n, numS v = some n ∧ b.lo ≤ n ∧ n ≤ b.hi) := fun v => by rw [hasRaw_iff, hb]; simp
  split at h
  · rename_i hu
    split at h
    · rename_i hl
      simp only [Option.some.injEq] at h
      subst h
      refine ⟨⟨⟨hl, fun _ z hz => hval z (List.mem_of_getElem? hz), (risingS_rises _).adj⟩, by simp, by simp, by simp⟩, rfl, fun v _ => ?_⟩
      rw [hasRaw_iff, ea, eb, hu.1, hu.2]
      have := hmem v
      simp [this]
    · simp at h
  rename_i hu
  split at h
  · rename_i hau
    have hbu : b.u = true := by
      cases e : b.u with
      | true => rfl
      | false => exact absurd ⟨hau, e⟩ hu
    have cu := cb.u hbu
    obtain ⟨c, m, r⟩ := numbersS_spec cu.1 cu.2.1 h
    refine ⟨c, m, fun v _ => ?_⟩
    rw [r, hmem, ea, eb, hau, hbu]
    simp [and_assoc]
  rename_i hau
  have hau : a.u = true := by simpa using hau
  have cu := ca.u hau
  split at h
  · rename_i hbu
    obtain ⟨c, m, r⟩ := numbersS_spec cu.1 cu.2.1 h
    refine ⟨c, m, fun v _ => ?_⟩
    rw [r, hmem, ea, eb, hau, hbu]
    simp only [true_imp_iff, Bool.false_eq_true, false_imp_iff, and_true]
    exact ⟨fun ⟨⟨h1, h2⟩, h3⟩ => ⟨⟨h1, h3⟩, h2⟩, fun ⟨⟨h1, h3⟩, h2⟩ => ⟨⟨h1, h2⟩, h3⟩⟩
  · rename_i hbu
    have hbu : b.u = true := by simpa using hbu
    have cv := cb.u hbu
    obtain ⟨c, m, r⟩ := numbersS_spec (by omega) (by omega) h
    refine ⟨c, m, fun v _ => ?_⟩
    rw [r, hmem, ea, eb, hau, hbu]
    simp only [true_imp_iff]
    constructor
    · rintro ⟨⟨h1, h2⟩, n, h3, h4, h5⟩
      exact ⟨⟨h1, n, h3, by omega, by omega⟩, h2, n, h3, by omega, by omega⟩
    · rintro ⟨⟨h1, n, h3, h4, h5⟩, h2, n', h3', h4', h5'⟩
      have e : n' = n := by rw [h3] at h3'; simpa using h3'.symm
      subst e
      exact ⟨⟨h1, h2⟩, n', h3, by omega, by omega⟩
theorem meet_spec {a b : SetV} (ca : CheckP a) (cb : CheckP b) : (meetN a b = none ∧ meetS a b = (zeroS, 3)) ∨ ∃ S, (∃ N, meetN a b = some N) ∧ meetS a b = (S, 0) ∧ CheckP S ∧ S.m = (a.m && b.m) ∧ ∀ v, valueB v = true → hasRaw S v = (hasRaw a v && hasRaw b v) := by
  unfold meetS
  rw [if_neg (by rw [checkE_0 ca]; simp), if_neg (by rw [checkE_0 cb]; simp)]
  cases h : meetN a b with
  | none => exact .inl ⟨rfl, rfl⟩
  | some N =>
    obtain ⟨c, _, r⟩ := meetN_spec ca cb h
    refine .inr ⟨_, ⟨N, rfl⟩, rfl, ⟨c.ord, c.un, c.nu, c.u⟩, rfl, fun v hv => bool_eq ?_⟩
    have := r v hv
    rw [Bool.and_eq_true]
    exact this
theorem meet_bad {a b : SetV} (h : (meetS a b).2 = 0) : CheckP a ∧ CheckP b := by
  unfold meetS at h
  split at h
  · rename_i h1; exact absurd h h1
  · rename_i h1
    split at h
    · rename_i h2; exact absurd h h2
    · rename_i h2
      exact ⟨checkE_iff.1 (by simpa using h1), checkE_iff.1 (by simpa using h2)⟩
theorem fin_cof {a b : SetV} (ca : CheckP a) (cb : CheckP b) (ha : a.n = false) (hb : b.n = true) (h : ∀ v, valueB v = true → hasRaw a v = hasRaw b v) : False := by
  have hau : a.u = false := by cases e : a.u with
    | false => rfl
    | true => rw [ca.un e] at ha; simp at ha
  have key : ∀ v, valueB v = true → hasRaw b v = true → v ∈ a.l := fun v hv hb => by
    rw [← h v hv, hasRaw_iff, ha, hau] at hb
    simpa using hb
  have la := ca.ord.1
  have lb := cb.ord.1
  cases hbu : b.u with
  | false =>
    have := nodup_len (b := a.l ++ b.l) (upTo_nodup 0 129) fun z hz => by
      obtain ⟨i, hi, e⟩ := upTo_mem.1 hz
      have hn := itoa_num (n := 0 + (i : Int)) (by unfold least; omega) (by unfold most; omega) e
      rw [List.mem_append]
      by_cases hzb : z ∈ b.l
      · exact .inr hzb
      · exact .inl (key z (value_num hn) (hasRaw_iff.2 ⟨by simp [hb, hzb], by simp [hbu]⟩))
    rw [upTo_len] at this
    simp at this
    omega
  | true =>
    have cu := cb.u hbu
    have := nodup_len (b := a.l ++ b.l) (upTo_nodup b.lo (b.hi + 1 - b.lo).toNat) fun z hz => by
      obtain ⟨n, hn, h1, h2⟩ := (num_upTo cu.1 cu.2.1).1 hz
      rw [List.mem_append]
      by_cases hzb : z ∈ b.l
      · exact .inr hzb
      · exact .inl (key z (value_num hn) (hasRaw_iff.2 ⟨by simp [hb, hzb], fun _ => ⟨n, hn, h1, h2⟩⟩))
    rw [upTo_len] at this
    simp at this
    omega
theorem name_a {i : Nat} (h : i < 65) : NameP (97 :: itoa (i : Int)) := by
  rw [itoa_pos' (by omega), Int.natAbs_natCast, nameP_cons]
  refine ⟨?_, by decide, fun x hx => .inr (.inl ?_)⟩
  · have := decDigits_le 1 i (by have : (10 : Nat) ^ (1 + 1) = 100 := by decide
                                 omega)
    omega
  · exact decDigits_mem i x hx
theorem cof_range {a b : SetV} (ca : CheckP a) (ha : a.n = true) (hau : a.u = false) (hbu : b.u = true) (h : ∀ v, valueB v = true → hasRaw a v = hasRaw b v) : False := by
  have la := ca.ord.1
  have hnd : ((upTo 0 65).map fun s => (97 : UInt8) :: s).Nodup := by
    unfold List.Nodup
    rw [List.pairwise_map]
    exact (upTo_nodup 0 65).imp fun h e => h (by simpa using e)
  have := nodup_len (b := a.l) hnd fun z hz => by
    obtain ⟨s, hs, rfl⟩ := List.mem_map.1 hz
    obtain ⟨i, hi, e⟩ := upTo_mem.1 hs
    rw [Int.zero_add] at e
    subst e
    have hname : NameP (97 :: itoa (i : Int)) := name_a hi
    have hv : valueB (97 :: itoa (i : Int)) = true := value_name (by unfold nameB; simpa using hname)
    have hb : hasRaw b (97 :: itoa (i : Int)) = false := by
      cases e : hasRaw b (97 :: itoa (i : Int)) with
      | false => rfl
      | true =>
        obtain ⟨n, hn, _⟩ := (hasRaw_iff.1 e).2 hbu
        exact absurd hname (num_not_name hn)
    rw [← h _ hv] at hb
    refine Classical.byContradiction fun hz => ?_
    rw [hasRaw_iff.2 ⟨by simp [ha, hz], by simp [hau]⟩] at hb
    simp at hb
  simp [upTo_len] at this
  omega
theorem canon {a b : SetV} (ca : CheckP a) (cb : CheckP b) (hm : a.m = b.m) (h : ∀ v, valueB v = true → hasRaw a v = hasRaw b v) : a = b := by
  have h' : ∀ v, valueB v = true → hasRaw b v = hasRaw a v := fun v hv => (h v hv).symm
  have hn : a.n = b.n := by
    cases e : a.n <;> cases f : b.n
    · rfl
    · exact (fin_cof ca cb e f h).elim
    · exact (fin_cof cb ca f e h').elim
    · rfl
  have hu : a.u = b.u := by
    cases e : a.u <;> cases f : b.u
    · rfl
    · have := cb.un f
      exact (cof_range ca (by rw [hn, this]) e f h).elim
    · have := ca.un e
      exact (cof_range cb (by rw [← hn, this]) f e h').elim
    · rfl
  have lo_in : ∀ {a b : SetV}, CheckP a → a.u = true → b.u = true → (∀ v, valueB v = true → hasRaw a v = hasRaw b v) → b.lo ≤ a.lo ∧ a.hi ≤ b.hi := by
    intro a b ca hau hbu h
    have cu := ca.u hau
    have hin : ∀ n, (n = a.lo ∨ n = a.hi) → b.lo ≤ n ∧ n ≤ b.hi := fun n hn => by
      have hnum := numS_itoa (n := n) (by omega) (by omega)
      have hni : itoa n ∉ a.l := fun hz => by
        obtain ⟨k, hk, h1, h2⟩ := ca.inr hau hz
        rw [hnum] at hk
        simp only [Option.some.injEq] at hk
        omega
      have ht := (hasRaw_iff (s := a) (v := itoa n)).2 ⟨by simp [ca.un hau, hni], fun _ => ⟨n, hnum, by omega, by omega⟩⟩
      rw [h _ (value_num hnum)] at ht
      obtain ⟨k, hk, h1, h2⟩ := (hasRaw_iff.1 ht).2 hbu
      rw [hnum] at hk
      simp only [Option.some.injEq] at hk
      omega
    exact ⟨(hin _ (.inl rfl)).1, (hin _ (.inr rfl)).2⟩
  have hb : a.lo = b.lo ∧ a.hi = b.hi := by
    cases e : a.u with
    | false =>
      have h1 := ca.nu e
      have h2 := cb.nu (by rw [← hu, e])
      omega
    | true =>
      have f : b.u = true := by rw [← hu, e]
      have h1 := lo_in ca e f h
      have h2 := lo_in cb f e h'
      omega
  have sub : ∀ {a b : SetV}, CheckP a → a.n = b.n → a.u = b.u → a.lo = b.lo → a.hi = b.hi → (∀ v, valueB v = true → hasRaw a v = hasRaw b v) → ∀ z, z ∈ a.l → z ∈ b.l := by
    intro a b ca hn hu hlo hhi h z hz
    have hv := ca.val hz
    have he := h z hv
    have hr : a.u = true → ∃ n, numS z = some n ∧ a.lo ≤ n ∧ n ≤ a.hi := fun e => by
      obtain ⟨n, h1, h2, h3⟩ := ca.inr e hz
      exact ⟨n, h1, by omega, by omega⟩
    refine Classical.byContradiction fun hnz => ?_
    cases e : a.n with
    | false =>
      have h1 : hasRaw a z = true := hasRaw_iff.2 ⟨by simp [e, hz], hr⟩
      rw [he] at h1
      have := (hasRaw_iff.1 h1).1
      simp [← hn, e, hnz] at this
    | true =>
      have h1 : hasRaw b z = true := hasRaw_iff.2 ⟨by simp [← hn, e, hnz], fun f => by rw [← hlo, ← hhi]; exact hr (by rw [hu, f])⟩
      rw [← he] at h1
      have := (hasRaw_iff.1 h1).1
      simp [e, hz] at this
  have hl : a.l = b.l := rises_ext ca.rises cb.rises fun z => ⟨sub ca hn hu hb.1 hb.2 h z, sub cb hn.symm hu.symm hb.1.symm hb.2.symm h' z⟩
  exact SetV.eq_iff.2 ⟨hm, hn, hu, hb.1, hb.2, hl⟩
theorem meetN_none {a b : SetV} (h : meetN a b = none) : meetN b a = none := by
  have hk : risingS (a.l ++ b.l) = risingS (b.l ++ a.l) := risingS_congr fun z => by simp [or_comm]
  unfold meetN at h ⊢
  rw [hk] at h
  cases e1 : a.n <;> cases e2 : b.n <;> simp only [e1, e2, Bool.true_eq_false, if_true, if_false, reduceCtorEq] at h ⊢
  cases e3 : a.u <;> cases e4 : b.u <;> simp only [e3, e4, Bool.true_eq_false, and_self, and_true, and_false, if_true, if_false] at h ⊢
  · exact h
  · exact h
  · exact h
  · rw [Int.max_comm, Int.min_comm]; exact h
theorem meet_comm {a b : SetV} (ca : CheckP a) (cb : CheckP b) : meetS a b = meetS b a := by
  rcases meet_spec ca cb with ⟨h1, h2⟩ | ⟨S, ⟨N, h1⟩, h2, c1, m1, r1⟩
  · rcases meet_spec cb ca with ⟨k1, k2⟩ | ⟨T, ⟨N', k1⟩, k2, c2, m2, r2⟩
    · rw [h2, k2]
    · rw [meetN_none h1] at k1; simp at k1
  · rcases meet_spec cb ca with ⟨k1, k2⟩ | ⟨T, ⟨N', k1⟩, k2, c2, m2, r2⟩
    · rw [meetN_none k1] at h1; simp at h1
    · rw [h2, k2, canon c1 c2 (by rw [m1, m2, Bool.and_comm]) fun v hv => by rw [r1 v hv, r2 v hv, Bool.and_comm]]
theorem meet_self {a : SetV} (ca : CheckP a) : meetS a a = (a, 0) := by
  have hk : risingS (a.l ++ a.l) = a.l := rises_ext (risingS_rises _) ca.rises fun z => by rw [risingS_mem]; simp
  rcases meet_spec ca ca with ⟨h1, h2⟩ | ⟨S, _, h2, c1, m1, r1⟩
  · exfalso
    unfold meetN at h1
    have hl := ca.ord.1
    obtain ⟨S, hS⟩ := numbersS_ne (lo := a.lo) (hi := a.hi) hl
    rw [hk, Int.max_self, Int.min_self, hS, if_pos hl] at h1
    cases e1 : a.n <;> cases e2 : a.u <;> simp [e1, e2] at h1
  · rw [h2, canon c1 ca (by rw [m1, Bool.and_self]) fun v hv => by rw [r1 v hv, Bool.and_self]]
theorem meet_assoc {a b c ab bc x y : SetV} (ca : CheckP a) (cb : CheckP b) (cc : CheckP c) (h1 : meetS a b = (ab, 0)) (h2 : meetS b c = (bc, 0)) (h3 : meetS ab c = (x, 0)) (h4 : meetS a bc = (y, 0)) : x = y := by
  have get : ∀ {a b S : SetV}, CheckP a → CheckP b → meetS a b = (S, 0) → CheckP S ∧ S.m = (a.m && b.m) ∧ ∀ v, valueB v = true → hasRaw S v = (hasRaw a v && hasRaw b v) := by
    intro a b S ca cb h
    rcases meet_spec ca cb with ⟨_, k⟩ | ⟨T, _, k, c, m, r⟩
    · rw [k] at h; simp at h
    · rw [k] at h
      simp only [Prod.mk.injEq, and_true] at h
      subst h
      exact ⟨c, m, r⟩
  obtain ⟨c1, m1, r1⟩ := get ca cb h1
  obtain ⟨c2, m2, r2⟩ := get cb cc h2
  obtain ⟨c3, m3, r3⟩ := get c1 cc h3
  obtain ⟨c4, m4, r4⟩ := get ca c2 h4
  exact canon c3 c4 (by rw [m3, m4, m1, m2, Bool.and_assoc]) fun v hv => by rw [r3 v hv, r4 v hv, r1 v hv, r2 v hv, Bool.and_assoc]
end Go.Proofs.AM
namespace Go.Proofs.AM
open Go Go.Lib
open Classical in
noncomputable def wantB (q : ReqV) (v : Str) : Bool :=
  if q.op = 1 then decide (v ∈ q.l) else if q.op = 2 then valueB v && !decide (v ∈ q.l) else if q.op = 3 then valueB v
  else if q.op = 5 then decide (∃ n, numS v = some n ∧ q.n < n) else if q.op = 6 then decide (∃ n, numS v = some n ∧ n < q.n) else false
theorem num_range {v : Str} {n : Int} (h : numS v = some n) : least ≤ n ∧ n ≤ most := (numS_iff.1 h).2
theorem of_nums {q : ReqV} {lo hi : Int} (h1 : least ≤ lo) (h2 : hi ≤ most) {S : SetV} (hS : (numbersS lo hi []).getD zeroS = S) :
    CheckP S ∧ S.m = false ∧ ∀ v, hasB S v = true ↔ ∃ n, numS v = some n ∧ lo ≤ n ∧ n ≤ hi := by
  obtain ⟨T, hT⟩ := numbersS_nil lo hi
  rw [hT] at hS
  obtain rfl : T = S := hS
  obtain ⟨c, m, r⟩ := numbersS_spec h1 h2 hT
  refine ⟨c, m, fun v => ?_⟩
  rw [hasB_raw c, Bool.and_eq_true, r]
  constructor
  · rintro ⟨_, _, h⟩; exact h
  · rintro ⟨n, h⟩; exact ⟨value_num h.1, by simp, n, h⟩
theorem of_spec {q : ReqV} (hw : wrongE q = 0) : CheckP (ofS q) ∧ ((ofS q).m = true ↔ q.op = 2 ∨ q.op = 4) ∧ ∀ v, hasB (ofS q) v = wantB q v := by
  obtain ⟨_, hb, hl, hv, hn⟩ := wrongE_0 hw
  unfold BadOp at hb
  have hord : OrdP (risingS q.l) := ⟨by rw [risingS_len_eq hn]; omega, fun j x hx => hv x (risingS_mem.1 (List.mem_of_getElem? hx)), (risingS_rises _).adj⟩
  have hval : ∀ v, v ∈ q.l → valueB v = true := hv
  by_cases h1 : q.op = 1
  · have e : ofS q = ⟨false, false, false, risingS q.l, 0, 0⟩ := by unfold ofS; rw [if_pos h1]
    have c : CheckP (⟨false, false, false, risingS q.l, 0, 0⟩ : SetV) := ⟨hord, by simp, by simp, by simp⟩
    rw [e]
    refine ⟨c, by simp; omega, fun v => ?_⟩
    rw [hasB_raw c]
    unfold wantB
    rw [if_pos h1]
    apply bool_eq
    rw [Bool.and_eq_true, hasRaw_iff]
    simp only [Bool.false_eq_true, false_iff, Decidable.not_not, false_imp_iff, and_true, risingS_mem, decide_eq_true_eq]
    exact ⟨fun h => h.2, fun h => ⟨hval v h, h⟩⟩
  by_cases h2 : q.op = 2
  · have e : ofS q = ⟨true, true, false, risingS q.l, 0, 0⟩ := by unfold ofS; rw [if_neg h1, if_pos h2]
    have c : CheckP (⟨true, true, false, risingS q.l, 0, 0⟩ : SetV) := ⟨hord, by simp, by simp, by simp⟩
    rw [e]
    refine ⟨c, by simp [h2], fun v => ?_⟩
    rw [hasB_raw c]
    unfold wantB
    rw [if_neg h1, if_pos h2]
    congr 1
    apply bool_eq
    rw [hasRaw_iff]
    simp [risingS_mem]
  by_cases h3 : q.op = 3
  · have e : ofS q = ⟨false, true, false, [], 0, 0⟩ := by unfold ofS; rw [if_neg h1, if_neg h2, if_pos h3]
    have c : CheckP (⟨false, true, false, [], 0, 0⟩ : SetV) := ⟨ord_nil, by simp, by simp, by simp⟩
    rw [e]
    refine ⟨c, by simp; omega, fun v => ?_⟩
    rw [hasB_raw c]
    unfold wantB
    rw [if_neg h1, if_neg h2, if_pos h3]
    simp [hasRaw]
  by_cases h4 : q.op = 4
  · have e : ofS q = ⟨true, false, false, [], 0, 0⟩ := by unfold ofS; rw [if_neg h1, if_neg h2, if_neg h3, if_pos h4]
    have c : CheckP (⟨true, false, false, [], 0, 0⟩ : SetV) := ⟨ord_nil, by simp, by simp, by simp⟩
    rw [e]
    refine ⟨c, by simp [h4], fun v => ?_⟩
    rw [hasB_raw c]
    unfold wantB
    rw [if_neg h1, if_neg h2, if_neg h3, if_neg (by omega), if_neg (by omega)]
    simp [hasRaw]
  by_cases h5 : q.op = 5
  · have e : ofS q = (numbersS (q.n + 1) most []).getD zeroS := by unfold ofS; rw [if_neg h1, if_neg h2, if_neg h3, if_neg h4, if_pos h5]
    obtain ⟨c, m, r⟩ := of_nums (q := q) (lo := q.n + 1) (hi := most) (by unfold least; omega) (by omega) e.symm
    refine ⟨c, by rw [m]; simp; omega, fun v => ?_⟩
    unfold wantB
    rw [if_neg h1, if_neg h2, if_neg h3, if_pos h5]
    apply bool_eq
    rw [r, decide_eq_true_eq]
    constructor
    · rintro ⟨n, h6, h7, h8⟩; exact ⟨n, h6, by omega⟩
    · rintro ⟨n, h6, h7⟩; exact ⟨n, h6, by omega, (num_range h6).2⟩
  · have e : ofS q = (numbersS least (q.n - 1) []).getD zeroS := by unfold ofS; rw [if_neg h1, if_neg h2, if_neg h3, if_neg h4, if_neg h5]
    obtain ⟨c, m, r⟩ := of_nums (q := q) (lo := least) (hi := q.n - 1) (by omega) (by unfold most; omega) e.symm
    refine ⟨c, by rw [m]; simp; omega, fun v => ?_⟩
    unfold wantB
    rw [if_neg h1, if_neg h2, if_neg h3, if_neg h5, if_pos (by omega)]
    apply bool_eq
    rw [r, decide_eq_true_eq]
    constructor
    · rintro ⟨n, h6, h7, h8⟩; exact ⟨n, h6, by omega⟩
    · rintro ⟨n, h6, h7⟩; exact ⟨n, h6, (num_range h6).1, by omega⟩
end Go.Proofs.AM
namespace Go.Proofs.AM
open Go Go.Lib
noncomputable def thereB (x : KeyV) (L : List LabV) : Bool := match L.find? (fun y => decide (y.k = x.k)) with | some y => hasB x.s y.v | none => x.s.m
theorem adm_there (r : ReqV) (L : List LabV) : admB r L = thereB ⟨r.key, ofSet r⟩ L := rfl
structure GoodK (l : List KeyV) : Prop where
  nd : (l.map (·.k)).Nodup
  ck : ∀ x ∈ l, CheckP x.s
theorem there_meet {a b : SetV} (ca : CheckP a) (cb : CheckP b) (h : (meetS a b).2 = 0) (k : Str) (L : List LabV) : CheckP (meetS a b).1 ∧ thereB ⟨k, (meetS a b).1⟩ L = (thereB ⟨k, a⟩ L && thereB ⟨k, b⟩ L) := by
  rcases meet_spec ca cb with ⟨_, h2⟩ | ⟨S, _, h2, c, m, r⟩
  · rw [h2] at h; simp at h
  · rw [h2]
    refine ⟨c, ?_⟩
    unfold thereB
    simp only
    cases L.find? (fun y => decide (y.k = k)) with
    | none => exact m
    | some y =>
      simp only
      rw [hasB_raw c, hasB_raw ca, hasB_raw cb]
      cases hv : valueB y.v with
      | false => simp
      | true => simp [r y.v hv]
theorem meet_err {a b : SetV} (ca : CheckP a) (cb : CheckP b) : (meetS a b).2 = 0 ∨ (meetS a b).2 = 3 := by
  rcases meet_spec ca cb with ⟨_, h2⟩ | ⟨S, _, h2, _⟩ <;> rw [h2] <;> simp
theorem setK_away {k : Str} {s : SetV} {l : List KeyV} (h : ∀ x ∈ l, x.k ≠ k) : setK k s l = l := by
  unfold setK
  conv => rhs; rw [← List.map_id l]
  exact List.map_congr_left fun x hx => by rw [if_neg (h x hx)]; rfl
theorem all_setK {k : Str} {s : SetV} {p : KeyV → Bool} {b : Bool} : ∀ {l : List KeyV}, (l.map (·.k)).Nodup → ∀ x ∈ l, x.k = k → p ⟨k, s⟩ = (p x && b) → (setK k s l).all p = (l.all p && b)
  | [], _, x, hx, _, _ => by simp at hx
  | y :: l, hn, x, hx, hk, hp => by
    simp only [List.map_cons, List.nodup_cons] at hn
    by_cases hy : y.k = k
    · have hr : ∀ z ∈ l, z.k ≠ k := fun z hz e => hn.1 (List.mem_map.2 ⟨z, hz, by rw [e, hy]⟩)
      have hxy : x = y := by
        rcases List.mem_cons.1 hx with e | e
        · exact e
        · exact absurd hk (hr x e)
      subst hxy
      have e : setK k s (x :: l) = ⟨k, s⟩ :: setK k s l := by simp only [setK, List.map_cons, if_pos hy]
      rw [e, setK_away hr, List.all_cons, List.all_cons, hp]
      cases p x <;> cases b <;> simp
    · have e : setK k s (y :: l) = y :: setK k s l := by simp only [setK, List.map_cons, if_neg hy]
      have hm : x ∈ l := by
        rcases List.mem_cons.1 hx with e | e
        · subst e; exact absurd hk hy
        · exact e
      rw [e, List.all_cons, List.all_cons, all_setK hn.2 x hm hk hp, Bool.and_assoc]
theorem setK_check {k : Str} {s : SetV} {l : List KeyV} (h : ∀ x ∈ l, CheckP x.s) (hs : CheckP s) : ∀ x ∈ setK k s l, CheckP x.s := by
  intro x hx
  obtain ⟨y, hy, rfl⟩ := List.mem_map.1 hx
  split
  · exact hs
  · exact h y hy
theorem ofSet_check {r : ReqV} (h : wrongE r = 0) : CheckP (ofSet r) := by
  unfold ofSet
  rw [if_pos h]
  exact (of_spec h).1
theorem setsF_err : ∀ (l : List ReqV) (out : List KeyV), GoodK out → (∀ r ∈ l, wrongE r = 0) → (setsF out l).2 = 0 ∨ (setsF out l).2 = 3
  | [], out, _, _ => .inl rfl
  | r :: l, out, hg, hw => by
    have hc := ofSet_check (hw r (by simp))
    unfold setsF
    split
    · rename_i x hx
      have hm := List.mem_of_find?_eq_some hx
      split
      · rename_i h0
        obtain ⟨c, _⟩ := there_meet (hg.ck x hm) hc h0 r.key []
        exact setsF_err l _ ⟨by rw [setK_keys]; exact hg.nd, setK_check hg.ck c⟩ fun q hq => hw q (by simp [hq])
      · exact meet_err (hg.ck x hm) hc
    · rename_i hx
      have hn : ∀ x ∈ out, x.k ≠ r.key := fun x hx' => by simpa using List.find?_eq_none.1 hx x hx'
      refine setsF_err l _ ⟨((insK_perm _ _).map _).nodup_iff.2 ?_, fun x hx' => ?_⟩ fun q hq => hw q (by simp [hq])
      · simp only [List.map_cons, List.nodup_cons]
        exact ⟨fun h => by obtain ⟨x, hx, e⟩ := List.mem_map.1 h; exact hn x hx e, hg.nd⟩
      · rcases List.mem_cons.1 ((insK_perm _ _).mem_iff.1 hx') with rfl | h
        · exact hc
        · exact hg.ck x h
theorem setsF_there (L : List LabV) : ∀ (l : List ReqV) (out : List KeyV), GoodK out → (∀ r ∈ l, wrongE r = 0) → (setsF out l).2 = 0 →
    GoodK (setsF out l).1 ∧ (setsF out l).1.all (fun x => thereB x L) = (out.all (fun x => thereB x L) && l.all fun r => admB r L)
  | [], out, hg, _, _ => ⟨hg, by simp [setsF]⟩
  | r :: l, out, hg, hw, h => by
    have hc := ofSet_check (hw r (by simp))
    have hw' : ∀ q ∈ l, wrongE q = 0 := fun q hq => hw q (by simp [hq])
    unfold setsF at h ⊢
    split at h
    · rename_i x hx
      have hm := List.mem_of_find?_eq_some hx
      have hk : x.k = r.key := by simpa using List.find?_some hx
      split at h
      · rename_i h0
        simp only [h0, if_true]
        obtain ⟨c, ht⟩ := there_meet (hg.ck x hm) hc h0 r.key L
        obtain ⟨g, e⟩ := setsF_there L l _ ⟨by rw [setK_keys]; exact hg.nd, setK_check hg.ck c⟩ hw' h
        refine ⟨g, ?_⟩
        rw [e, all_setK (b := thereB ⟨r.key, ofSet r⟩ L) hg.nd x hm hk (by rw [ht]; congr 1; rw [← hk]), List.all_cons, Bool.and_assoc, adm_there]
      · rename_i h0; exact absurd h h0
    · rename_i hx
      have hn : ∀ x ∈ out, x.k ≠ r.key := fun x hx' => by simpa using List.find?_eq_none.1 hx x hx'
      have hg' : GoodK (insK ⟨r.key, ofSet r⟩ out) := by
        refine ⟨((insK_perm _ _).map _).nodup_iff.2 ?_, fun x hx' => ?_⟩
        · simp only [List.map_cons, List.nodup_cons]
          exact ⟨fun h => by obtain ⟨x, hx, e⟩ := List.mem_map.1 h; exact hn x hx e, hg.nd⟩
        · rcases List.mem_cons.1 ((insK_perm _ _).mem_iff.1 hx') with rfl | h
          · exact hc
          · exact hg.ck x h
      obtain ⟨g, e⟩ := setsF_there L l _ hg' hw' h
      refine ⟨g, ?_⟩
      rw [e, List.all_cons, adm_there]
      have : (insK ⟨r.key, ofSet r⟩ out).all (fun x => thereB x L) = (thereB ⟨r.key, ofSet r⟩ L && out.all fun x => thereB x L) := by
        rw [Bool.eq_iff_iff, List.all_eq_true, Bool.and_eq_true, List.all_eq_true]
        constructor
        · intro h; exact ⟨h _ ((insK_perm _ _).mem_iff.2 (by simp)), fun x hx => h x ((insK_perm _ _).mem_iff.2 (by simp [hx]))⟩
        · rintro ⟨h1, h2⟩ x hx
          rcases List.mem_cons.1 ((insK_perm _ _).mem_iff.1 hx) with rfl | h
          · exact h1
          · exact h2 x h
      rw [this]
      cases thereB ⟨r.key, ofSet r⟩ L <;> cases out.all (fun x => thereB x L) <;> simp
theorem empty_there {x : KeyV} {L : List LabV} (h : emptyB x.s = true) : thereB x L = false := by
  unfold emptyB at h
  simp only [Bool.and_eq_true, decide_eq_true_eq, Bool.not_eq_true'] at h
  obtain ⟨⟨⟨hc, hn⟩, hm⟩, hl⟩ := h
  unfold thereB
  split
  · unfold hasB hasRaw
    rw [hn, hl]
    simp
  · exact hm
theorem reqs_wrong {n : Nat} {l : List ReqV} (h : reqsE n l = 0) : ∀ r ∈ l, wrongE r = 0 := by
  unfold reqsE tooE at h
  split at h
  · simp at h
  · intro r hr
    obtain ⟨j, hj⟩ := List.mem_iff_getElem?.1 hr
    have := scan_zero.1 h j (List.getElem?_eq_some_iff.1 hj).1
    rwa [atE_some hj] at this
theorem labs_keys {l : List LabV} (h : labsE l = 0) {k : Nat} {y : LabV} (hy : l[k]? = some y) : ∀ z ∈ l.take k, z.k ≠ y.k := by
  intro z hz e
  have := scan_zero.1 h k (List.getElem?_eq_some_iff.1 hy).1
  rw [upE_some hy] at this
  unfold labE at this
  split at this
  · split at this
    · simp at this
    · rename_i h2
      exact h2 (List.any_eq_true.2 ⟨z, hz, by simpa using e⟩)
  · simp at this
theorem there_step {x : KeyV} {l : List LabV} {k : Nat} {y : LabV} (hy : l[k]? = some y) (h : ∀ z ∈ l.take k, z.k ≠ y.k) : thereB x (l.take (k + 1)) = if y.k = x.k then hasB x.s y.v else thereB x (l.take k) := by
  unfold thereB
  rw [List.take_add_one, hy, Option.toList_some, List.find?_append]
  by_cases e : y.k = x.k
  · have : (l.take k).find? (fun z => decide (z.k = x.k)) = none := List.find?_eq_none.2 fun z hz => by simpa [← e] using h z hz
    rw [this]
    simp [e]
  · have : [y].find? (fun z => decide (z.k = x.k)) = none := List.find?_eq_none.2 fun z hz => by simp only [List.mem_singleton] at hz; subst hz; simpa using e
    rw [this, Option.or_none, if_neg e]
theorem met_law {l : List ReqV} {L : List LabV} (h1 : (admE l L).2 = 0) : labsE L = 0 ∧ ((setsE l).2 = 0 ∨ (setsE l).2 = 3) ∧ ((setsE l).2 = 0 → (setsE l).1.all (fun x => thereB x L) = (admE l L).1 ∧ ((admE l L).1 = true → (canE l).1 = true)) := by
  unfold admE at h1 ⊢
  by_cases hr : reqsE 16 l = 0
  · rw [if_neg (by simpa using hr)] at h1 ⊢
    by_cases hl : labsE L = 0
    · rw [if_neg (by simpa using hl)]
      have hw := reqs_wrong hr
      have g0 : GoodK [] := ⟨by simp, by simp⟩
      have e : setsE l = setsF [] l := by unfold setsE; rw [if_neg (by simpa using hr)]
      refine ⟨hl, by rw [e]; exact setsF_err l [] g0 hw, fun h0 => ?_⟩
      rw [e] at h0
      have := (setsF_there L l [] g0 hw h0).2
      simp only [List.all_nil, Bool.true_and] at this
      refine ⟨by rw [e]; exact this, fun ha => ?_⟩
      unfold canE
      rw [e, if_neg (by simpa using h0)]
      simp only at ha ⊢
      rw [ha] at this
      cases hany : (setsF [] l).1.any (fun x => emptyB x.s) with
      | false => rfl
      | true =>
        obtain ⟨x, hx, hx2⟩ := List.any_eq_true.1 hany
        have := List.all_eq_true.1 this x hx
        rw [empty_there hx2] at this
        simp at this
    · rw [if_pos hl] at h1; exact absurd h1 hl
  · rw [if_pos hr] at h1; exact absurd h1 hr
theorem adm_bad {l : List ReqV} {L : List LabV} (h1 : (admE l L).2 ≠ 0) : (admE l L).1 = false := by
  unfold admE at h1 ⊢
  split
  · rfl
  · split
    · rfl
    · rename_i h2 h3
      rw [if_neg h2, if_neg h3] at h1
      simp at h1
end Go.Proofs.AM
namespace Go.Proofs.AM
open Go Go.Lib
theorem CheckP.fs {s : SetV} (h : CheckP s) : FS s := by
  refine ⟨⟨by have := h.ord.1; omega, fun z hz => by have := value_len (h.val hz); unfold SL; omega⟩, ?_, ?_⟩ <;>
  · unfold FI
    cases hu : s.u with
    | false => have := h.nu hu; omega
    | true => have := h.u hu; unfold least most at this; omega
theorem fs_zero : FS zeroS := ⟨⟨by simp [zeroS], by simp [zeroS]⟩, ⟨by decide, by decide⟩, ⟨by decide, by decide⟩⟩
theorem meet_fs (a b : SetV) : FS (meetS a b).1 := by
  by_cases ca : CheckP a
  · by_cases cb : CheckP b
    · rcases meet_spec ca cb with ⟨_, h⟩ | ⟨S, _, h, c, _⟩
      · rw [h]; exact fs_zero
      · rw [h]; exact c.fs
    · unfold meetS
      rw [if_neg (by rw [checkE_0 ca]; simp), if_pos (by rw [checkE_1 cb]; simp)]
      exact fs_zero
  · unfold meetS
    rw [if_pos (by rw [checkE_1 ca]; simp)]
    exact fs_zero
theorem ofSet_fs (q : ReqV) : FS (ofSet q) := by
  unfold ofSet
  split
  · next h => exact (of_spec h).1.fs
  · exact fs_zero
theorem setsF_fs : ∀ (l : List ReqV) (out : List KeyV), (∀ x ∈ out, FS x.s) → (∀ x ∈ (setsF out l).1, FS x.s) ∧ (setsF out l).1.length ≤ out.length + l.length
  | [], out, h => ⟨h, by simp [setsF]⟩
  | r :: l, out, h => by
    unfold setsF
    split
    · rename_i x hx
      split
      · obtain ⟨a, b⟩ := setsF_fs l (setK r.key (meetS x.s (ofSet r)).1 out) fun y hy => by
          obtain ⟨z, hz, rfl⟩ := List.mem_map.1 hy
          split
          · exact meet_fs _ _
          · exact h z hz
        refine ⟨a, ?_⟩
        have : (setK r.key (meetS x.s (ofSet r)).1 out).length = out.length := by unfold setK; simp
        simp only [List.length_cons]; omega
      · exact ⟨by simp, by simp⟩
    · obtain ⟨a, b⟩ := setsF_fs l (insK ⟨r.key, ofSet r⟩ out) fun y hy => by
        rcases List.mem_cons.1 ((insK_perm _ _).mem_iff.1 hy) with rfl | hy
        · exact ofSet_fs r
        · exact h y hy
      refine ⟨a, ?_⟩
      have := (insK_perm ⟨r.key, ofSet r⟩ out).length_eq
      simp only [List.length_cons] at this ⊢; omega
theorem setsE_fs (l : List ReqV) : (∀ x ∈ (setsE l).1, FS x.s) ∧ (setsE l).1.length ≤ l.length := by
  unfold setsE
  split
  · exact ⟨by simp, by simp⟩
  · have := setsF_fs l [] (by simp)
    exact ⟨this.1, by simpa using this.2⟩
theorem reqs_len {n : Nat} {l : List ReqV} (h : reqsE n l = 0) : l.length ≤ n := by
  unfold reqsE tooE at h
  split at h
  · simp at h
  · omega
end Go.Proofs.AM
namespace Go.Proofs.AM
open Go Go.Lib Cd
end Go.Proofs.AM
namespace Go.Proofs.AM
open Go Go.Lib Cd
abbrev entL : LabV → D := entK (fun x : LabV => x.k) (fun x => mkS x.v)
theorem labs_take {l : List LabV} {k : Nat} {y : LabV} (h : l[k]? = some y) : (l.take (k + 1)).map entL = (l.take k).map entL ++ [.tup [mkS y.k, mkS y.v]] := by
  rw [List.take_add_one, h, List.map_append]; rfl
set_option maxRecDepth 100000 in
set_option maxHeartbeats 2000000 in
theorem adm34_ok (R : Ans) (l : List ReqV) (labels : List LabV) (hl : FLs FR l) (hf : FLs FLab labels) (h84 : R.v 10 [.sl 4 false (l.map reqD), .int .i64 16] (.tup [.sl 6 false ((setsL 16 l).map setD), .int .i64 (reqsE 16 l)]))
    (h89 : ∀ s, SL s → R.v 14 [mkS s] (.bool (nameB s))) (h90 : ∀ s, SL s → R.v 15 [mkS s] (.bool (valueB s))) (h45 : ∀ q v, FR q → SL v → R.v 16 [setD (ofSet q), mkS v] (.bool (hasB (ofSet q) v))) :
    AnsF R c6 [.sl 4 false (l.map reqD), .sl 2 false (labels.map labD)] (.tup [.bool (admE l labels).1, .int .i64 (admE l labels).2]) := by
  have hlt := hl.lt
  have hft := hf.lt
  obtain ⟨xs, hxs⟩ : ∃ xs, xs = l.map reqD := ⟨_, rfl⟩
  obtain ⟨ys, hys⟩ : ∃ xs, xs = labels.map labD := ⟨_, rfl⟩
  obtain ⟨zs, hzs⟩ : ∃ xs, xs = (setsL 16 l).map setD := ⟨_, rfl⟩
  have cx : CleanL xs := cleanL_map clean_req hxs
  obtain ⟨r, hr⟩ : ∃ r, r = admE l labels := ⟨_, rfl⟩
  rw [← hr]
  unfold admE at hr
  unfold setsL at hzs
  obtain ⟨e1, he1⟩ : ∃ e, e = reqsE 16 l := ⟨_, rfl⟩
  rw [← he1] at hr hzs
  have hzz : (setsL 16 l).map setD = zs := by rw [hzs]; unfold setsL; rw [he1]
  rw [hzz, ← he1, ← hxs] at h84
  rw [← hxs, ← hys]
  clear hzz he1
  refine wpF_sound ⟨rfl, by decide⟩ fun O hO V hV => ?_
  subst hV
  have hlx : O .len xs = l.length := by rw [o_len hO, hxs]; simp
  have hly : O .len ys = labels.length := by rw [o_len hO, hys]; simp
  conv => cbv
  refine ⟨cx, _, h84, ?_⟩
  conv => cbv
  rintro (_ | _) h1 <;> replace h1 := ci hO h1 <;> dsimp only [CmpI] at h1
  case true =>
    rw [if_pos h1] at hr
    subst hr
    conv => cbv
  rw [if_neg (by simpa using h1)] at hr
  rw [if_pos h1] at hzs
  have hlz : O .len zs = l.length := by rw [o_len hO, hzs]; simp
  conv => cbv
  refine loop_of (fun n d => ∃ (i : Int) (k : Nat) (es : List D) (tk : Int), d = ⟨[(0, .sl 4 false xs), (6, .sl 6 false zs), (8, .mapr 25 1), (26, .sl 2 false ys), (27, .int .i64 (O .len ys)), (28, .int .i64 i)], [(25, ⟨1, .rw, .map, .int .i64 tk :: es⟩)], false⟩ ∧ i = k ∧ k ≤ labels.length ∧ n = labels.length - k ∧ es = (labels.take k).map entL ∧ ∀ j, j < k → upE labE labels j = 0) ⟨_, _, ⟨_, 0, _, _, rfl, rfl, by omega, rfl, by simp, by simp⟩, ⟨⟨rfl, rfl, rfl, rfl, rfl, rfl, trivial⟩, ⟨rfl, trivial⟩, rfl⟩⟩ ?_
  rintro J up n d ⟨i, k, es, tk, rfl, hi, hk, rfl, hes, hno⟩
  conv => cbv
  rintro (_ | _) h2
  · replace h2 := f_lss hO h2
    rw [hly] at h2
    rw [show labsE labels = 0 from scanE_end (fun j hj => hno j (by omega)), if_neg (by simp)] at hr
    rw [List.take_of_length_le (by omega)] at hes
    clear up hno h84 h89 h90
    conv => cbv
    refine loop_of (fun n d => ∃ (i : Int) (k : Nat), d = ⟨[(0, .sl 4 false xs), (8, .mapr 25 1), (56, .sl 6 false zs), (57, .int .i64 (O .len zs)), (58, .int .i64 i)], [(25, ⟨1, .rw, .map, .int .i64 tk :: es⟩)], false⟩ ∧ i = k ∧ k ≤ l.length ∧ n = l.length - k ∧ ∀ (j : Nat) z, j < k → l[j]? = some z → (fun r => admB r labels) z = true) ⟨_, _, ⟨_, 0, rfl, rfl, by omega, rfl, by simp⟩, ⟨⟨rfl, rfl, rfl, rfl, rfl, trivial⟩, ⟨rfl, trivial⟩, rfl⟩⟩ ?_
    rintro J up n d ⟨i, k, rfl, hi, hk, rfl, hno⟩
    conv => cbv
    rintro (_ | _) h3
    · replace h3 := f_lss hO h3
      rw [hlz] at h3
      rw [all_end (p := fun r => admB r labels) (fun j z hj hz => hno j z (by omega) hz)] at hr
      subst hr
      conv => cbv
    · replace h3 := t_lss hO h3
      rw [hlz] at h3
      obtain ⟨y, hy⟩ : ∃ y, l[k]? = some y := ⟨_, List.getElem?_eq_getElem (by omega)⟩
      have hatx : atX xs i (reqD y) := atX_map hy hxs hi
      have hatz : atX zs i (setD (ofSet y)) := atX_map (f := setD) (l := l.map ofSet) (by rw [List.getElem?_map, hy]; rfl) hzs hi
      have hlook : lookD kS (mkS y.key) es = some ((labels.find? fun x => decide (x.k = y.key)).map fun x => mkS x.v) := by rw [hes]; exact look_map _ _ y.key labels
      have hk1 := fun x (hx : x ∈ labels) => h45 y x.v (hl.all y (List.mem_of_getElem? hy)) (hf.all x hx).v
      have c1 : ∀ b, admB y labels = b → (b = true → ∀ (j : Nat) z, j < k + 1 → l[j]? = some z → (fun r => admB r labels) z = true) ∧ (b = false → r = (false, 0)) := fun b hb => ⟨fun h => hyes_step hno hy (by show admB y labels = true; rw [hb, h]), fun h => by rw [hr, all_hit (p := fun r => admB r labels) hy (by show admB y labels = false; rw [hb, h])]⟩
      have hfind : ∀ x, labels.find? (fun x => decide (x.k = y.key)) = some x → x ∈ labels := fun x h => List.mem_of_find?_eq_some h
      unfold admB at c1
      obtain ⟨fd, hfd⟩ : ∃ f, f = labels.find? (fun x => decide (x.k = y.key)) := ⟨_, rfl⟩
      rw [← hfd] at hlook c1 hfind
      obtain ⟨S, hS⟩ : ∃ S, S = ofSet y := ⟨_, rfl⟩
      simp only [← hS] at hatz hk1 c1
      clear hS hfd hr
      obtain ⟨key, op, vals, nn⟩ := y
      obtain ⟨sm, sn, su, sl, slo, shi⟩ := S
      simp only [reqD, setD] at hatx hatz hlook hk1 c1
      obtain ⟨vs, hvs⟩ : ∃ xs, xs = vals.map mkS := ⟨_, rfl⟩
      obtain ⟨ls, hls⟩ : ∃ xs, xs = sl.map mkS := ⟨_, rfl⟩
      have cv : CleanL vs := cleanL_map clean_S hvs
      have cl : CleanL ls := cleanL_map clean_S hls
      simp only [← hvs, ← hls] at hatx hatz hk1
      clear hvs hls
      conv => cbv
      refine ⟨_, hatz, ?_⟩
      conv => cbv
      intro g14
      conv => cbv
      refine ⟨_, hatx, ?_⟩
      conv => cbv
      cases fd with
      | none =>
        refine ⟨none, hlook, ?_⟩
        simp only [Option.map_none] at c1
        cases sm
        · obtain rfl := (c1 false rfl).2 rfl
          conv => cbv
        · have c2 := (c1 true rfl).1 rfl
          conv => cbv
          exact ⟨_, _, up _ _ ⟨_, k + 1, rfl, by rw [o_add64 hO (by omega) (by omega)]; omega, by omega, rfl, c2⟩, ⟨⟨rfl, rfl, rfl, rfl, rfl, trivial⟩, ⟨rfl, trivial⟩, rfl⟩, by omega⟩
      | some x =>
        have hk2 := hk1 x (hfind x rfl)
        simp only at c1
        obtain ⟨b, hb⟩ : ∃ b, b = hasB ⟨sm, sn, su, sl, slo, shi⟩ x.v := ⟨_, rfl⟩
        rw [← hb] at hk2 c1
        clear hb
        refine ⟨some (mkS x.v), hlook, ?_⟩
        conv => cbv
        repeat' (refine And.intro (by first | assumption | exact ⟨rfl⟩ | exact ⟨rfl, rfl⟩) ?_)
        refine ⟨_, hk2, ?_⟩
        cases b
        · obtain rfl := (c1 false rfl).2 rfl
          conv => cbv
        · have c2 := (c1 true rfl).1 rfl
          conv => cbv
          exact ⟨_, _, up _ _ ⟨_, k + 1, rfl, by rw [o_add64 hO (by omega) (by omega)]; omega, by omega, rfl, c2⟩, ⟨⟨rfl, rfl, rfl, rfl, rfl, trivial⟩, ⟨rfl, trivial⟩, rfl⟩, by omega⟩
  · replace h2 := t_lss hO h2
    rw [hly] at h2
    obtain ⟨y, hy⟩ : ∃ y, labels[k]? = some y := ⟨_, List.getElem?_eq_getElem (by omega)⟩
    have hat : atX ys i (labD y) := atX_map hy hys hi
    obtain ⟨gg, hgg⟩ : ∃ g, g = upE labE labels k := ⟨_, rfl⟩
    have hg : gg = labE y (labels.take k) := hgg.trans (upE_some hy)
    unfold labE at hg
    have hfy := hf.all y (List.mem_of_getElem? hy)
    have hk1 := h89 y.k hfy.k
    have hk2 := h90 y.v hfy.v
    have hlook : lookD kS (mkS y.k) es = some (((labels.take k).find? fun x => decide (x.k = y.k)).map fun x => mkS x.v) := by rw [hes]; exact look_map _ _ y.k (labels.take k)
    have hfa := find_any (p := fun x : LabV => decide (x.k = y.k)) (l := labels.take k)
    have htk := labs_take hy
    obtain ⟨q1, hq1⟩ : ∃ q, q = nameB y.k := ⟨_, rfl⟩
    obtain ⟨q2, hq2⟩ : ∃ q, q = valueB y.v := ⟨_, rfl⟩
    rw [← hq1, ← hq2, ← hfa] at hg
    rw [← hq1] at hk1
    rw [← hq2] at hk2
    have hput : (labels.take k).find? (fun x => decide (x.k = y.k)) = none → mputD kS (mkS y.k) (mkS y.v) es = some ((labels.take (k + 1)).map entL) := fun h => by
      rw [htk, hes]
      exact mput_new _ _ y.k (mkS y.v) _ fun x hx hxk => by
        have := List.find?_eq_none.1 h x hx
        simp [hxk] at this
    obtain ⟨fd, hfd⟩ : ∃ f, f = (labels.take k).find? (fun x => decide (x.k = y.k)) := ⟨_, rfl⟩
    rw [← hfd] at hlook hg hput
    clear hq1 hq2 hfa hfd
    obtain ⟨yk, yv⟩ := y
    simp only at hg hk1 hk2 hlook hput htk
    have hr1 : ∀ x : Int, x = gg → x ≠ 0 → r = (false, x) := fun x h1 h2 => by
      have e : labsE labels = x := by unfold labsE; exact scanE_hit (by omega) hno (h1.trans hgg) h2
      rw [hr, e, if_pos h2]
    clear hr
    obtain ⟨es2, hes2⟩ : ∃ e, e = (labels.take (k + 1)).map entL := ⟨_, rfl⟩
    rw [← hes2] at hput
    conv => cbv
    refine ⟨_, hat, ?_⟩
    conv => cbv
    intro g10
    conv => cbv
    refine ⟨_, hk1, ?_⟩
    cases q1
    · obtain rfl := hr1 20 (by rw [hg]; rfl) (by decide)
      conv => cbv
    conv => cbv
    refine ⟨_, hk2, ?_⟩
    cases q2
    · obtain rfl := hr1 20 (by rw [hg]; rfl) (by decide)
      conv => cbv
    conv => cbv
    cases fd with
    | some x =>
      obtain rfl := hr1 6 (by rw [hg]; rfl) (by decide)
      refine ⟨some (mkS x.v), hlook, ?_⟩
      conv => cbv
    | none =>
      refine ⟨none, hlook, ?_⟩
      conv => cbv
      refine ⟨es2, hput rfl, fun c => ?_⟩
      conv => cbv
      exact ⟨_, _, up _ _ ⟨_, k + 1, es2, c, rfl, by rw [o_add64 hO (by omega) (by omega)]; omega, by omega, rfl, hes2, scan_step hno (by rw [← hgg, hg]; rfl)⟩, ⟨⟨rfl, rfl, rfl, rfl, rfl, rfl, trivial⟩, ⟨rfl, trivial⟩, rfl⟩, by omega⟩
end Go.Proofs.AM
namespace Go.Proofs.AM
open Go Go.Lib Cd
set_option maxRecDepth 100000 in
set_option maxHeartbeats 2000000 in
theorem empty99_ok (R : Ans) (x : KeyV) (h100 : R.v 25 [setD x.s] (.bool (emptyB x.s))) : AnsF R c24 [keyedD x] (.bool (emptyB x.s)) := by
  obtain ⟨r, hr⟩ : ∃ r, r = emptyB x.s := ⟨_, rfl⟩
  rw [← hr] at h100 ⊢
  clear hr
  obtain ⟨k, ⟨m, n, u, l, lo, hi⟩⟩ := x
  unfold keyedD keyC
  simp only [setD] at h100 ⊢
  obtain ⟨ls, hls⟩ : ∃ xs, xs = l.map mkS := ⟨_, rfl⟩
  have cl : CleanL ls := cleanL_map clean_S hls
  rw [← hls] at h100 ⊢
  clear hls
  refine wpF_sound ⟨rfl, by decide⟩ fun O hO V hV => ?_
  subst hV
  conv => cbv
  repeat' (refine And.intro (by first | assumption | exact ⟨rfl⟩ | exact ⟨rfl, rfl⟩) ?_)
  refine ⟨_, h100, ?_⟩
  conv => cbv
  trivial
set_option maxRecDepth 100000 in
set_option maxHeartbeats 2000000 in
theorem indexf195_ok (R : Ans) (f : Nat) (p : KeyV → Bool) (l : List KeyV) (hl : l.length < 4611686018427387904) (hp : ∀ y ∈ l, R.v f [keyedD y] (.bool (p y))) : AnsF R c37 [.sl 7 false (l.map keyedD), .fn f [] []] (.int .i64 (idxI p l)) := by
  obtain ⟨xs, hxs⟩ : ∃ xs, xs = l.map keyedD := ⟨_, rfl⟩
  have cx : CleanL xs := cleanL_map clean_keyed hxs
  obtain ⟨r, hr⟩ : ∃ r, r = idxI p l := ⟨_, rfl⟩
  rw [← hxs, ← hr]
  refine wpF_sound ⟨rfl, by decide⟩ fun O hO V hV => ?_
  subst hV
  have hlen : O .len xs = l.length := by rw [o_len hO, hxs]; simp
  conv => cbv
  refine loop_of (fun n d => ∃ (i : Int) (k : Nat), d = ⟨[(0, .sl 7 false xs), (1, .fn f [] []), (7, .int .i64 (O .len xs)), (8, .int .i64 i)], [], false⟩ ∧ i = k ∧ k ≤ l.length ∧ n = l.length - k ∧ ∀ (j : Nat) z, j < k → l[j]? = some z → p z = false) ⟨_, _, ⟨_, 0, rfl, rfl, by omega, rfl, by simp⟩, ⟨⟨rfl, rfl, rfl, rfl, trivial⟩, trivial, rfl⟩⟩ ?_
  rintro J up n d ⟨i, k, rfl, hi, hk, rfl, hno⟩
  conv => cbv
  rintro (_ | _) h1
  · replace h1 := f_lss hO h1
    rw [hlen] at h1
    have : r = -1 := by
      rw [hr]
      exact idxI_none fun y hy => by
        obtain ⟨j, hj⟩ := List.mem_iff_getElem?.1 hy
        exact hno j y (by have := (List.getElem?_eq_some_iff.1 hj).1; omega) hj
    conv => cbv
    rw [this]
  · replace h1 := t_lss hO h1
    rw [hlen] at h1
    obtain ⟨y, hy⟩ : ∃ y, l[k]? = some y := ⟨_, List.getElem?_eq_getElem (by omega)⟩
    have hat : atX xs i (keyedD y) := atX_map hy hxs hi
    have hk1 := hp y (List.mem_of_getElem? hy)
    have hhit : p y = true → r = i := fun h => by rw [hr, idxI_hit hy h hno, hi]
    have hgo : p y = false → ∀ (j : Nat) z, j < k + 1 → l[j]? = some z → p z = false := fun h => hno_step hno hy h
    obtain ⟨b, hb⟩ : ∃ b, b = p y := ⟨_, rfl⟩
    rw [← hb] at hk1 hhit hgo
    clear hb
    obtain ⟨kk, ⟨m, nn, u, ll, lo, hh⟩⟩ := y
    unfold keyedD keyC at hat hk1
    simp only at hat hk1
    obtain ⟨ls, hls⟩ : ∃ xs, xs = ll.map mkS := ⟨_, rfl⟩
    have cl : CleanL ls := cleanL_map clean_S hls
    rw [← hls] at hat hk1
    conv => cbv
    refine ⟨_, hat, ?_⟩
    conv => cbv
    repeat' (refine And.intro (by first | assumption | exact ⟨rfl⟩ | exact ⟨rfl, rfl⟩) ?_)
    refine ⟨_, hk1, ?_⟩
    cases b
    · have h2 := hgo rfl
      conv => cbv
      exact ⟨_, _, up _ _ ⟨_, k + 1, rfl, by rw [o_add64 hO (by omega) (by omega)]; omega, by omega, rfl, h2⟩, ⟨⟨rfl, rfl, rfl, rfl, trivial⟩, trivial, rfl⟩, by omega⟩
    · have h2 := hhit rfl
      conv => cbv
      rw [h2]
set_option maxRecDepth 100000 in
set_option maxHeartbeats 2000000 in
theorem containsf98_ok (R : Ans) (f : Nat) (p : KeyV → Bool) (l : List KeyV) (hI : R.v 37 [.sl 7 false (l.map keyedD), .fn f [] []] (.int .i64 (idxI p l))) : AnsF R c23 [.sl 7 false (l.map keyedD), .fn f [] []] (.bool (l.any p)) := by
  obtain ⟨xs, hxs⟩ : ∃ xs, xs = l.map keyedD := ⟨_, rfl⟩
  have cx : CleanL xs := cleanL_map clean_keyed hxs
  obtain ⟨r, hr⟩ : ∃ r, r = l.any p := ⟨_, rfl⟩
  have hi := idxI_any p l
  obtain ⟨i, hi0⟩ : ∃ i, i = idxI p l := ⟨_, rfl⟩
  rw [← hi0] at hI hi
  rw [← hxs] at hI ⊢
  rw [← hr] at hi ⊢
  clear hr hi0
  refine wpF_sound ⟨rfl, by decide⟩ fun O hO V hV => ?_
  subst hV
  conv => cbv
  repeat' (refine And.intro (by first | assumption | exact ⟨rfl⟩ | exact ⟨rfl, rfl⟩) ?_)
  refine ⟨_, hI, ?_⟩
  conv => cbv
  rintro (_ | _) h1 <;> replace h1 := ci hO h1 <;> dsimp only [CmpI] at h1
  · have : r = false := by
      cases r
      · rfl
      · have := hi.2 rfl; omega
    conv => cbv
    rw [this]
  · have : r = true := hi.1 h1
    conv => cbv
    rw [this]
set_option maxRecDepth 100000 in
set_option maxHeartbeats 2000000 in
theorem can41_ok (R : Ans) (l : List ReqV) (h33 : R.v 8 [.sl 4 false (l.map reqD)] (.tup [.sl 7 false ((setsE l).1.map keyedD), .int .i64 (setsE l).2])) (h98 : R.v 23 [.sl 7 false ((setsE l).1.map keyedD), .fn 24 [] []] (.bool ((setsE l).1.any fun x => emptyB x.s))) :
    AnsF R c12 [.sl 4 false (l.map reqD)] (.tup [.bool (canE l).1, .int .i64 (canE l).2]) := by
  obtain ⟨xs, hxs⟩ : ∃ xs, xs = l.map reqD := ⟨_, rfl⟩
  have cx : CleanL xs := cleanL_map clean_req hxs
  obtain ⟨r, hr⟩ : ∃ r, r = canE l := ⟨_, rfl⟩
  rw [← hr]
  unfold canE at hr
  obtain ⟨zs, hzs⟩ : ∃ xs, xs = (setsE l).1.map keyedD := ⟨_, rfl⟩
  have cz : CleanL zs := cleanL_map clean_keyed hzs
  obtain ⟨e, he⟩ : ∃ e, e = (setsE l).2 := ⟨_, rfl⟩
  obtain ⟨b, hb⟩ : ∃ b, b = (setsE l).1.any fun x => emptyB x.s := ⟨_, rfl⟩
  rw [← he, ← hb] at hr
  rw [← hxs, ← hzs, ← he] at h33
  rw [← hzs, ← hb] at h98
  rw [← hxs]
  clear hxs hzs he hb
  obtain ⟨r1, r2⟩ := r
  simp only
  refine wpF_sound ⟨rfl, by decide⟩ fun O hO V hV => ?_
  subst hV
  conv => cbv
  refine ⟨cx, _, h33, ?_⟩
  conv => cbv
  rintro (_ | _) h1 <;> replace h1 := ci hO h1 <;> dsimp only [CmpI] at h1
  · rw [if_neg (by simpa using h1)] at hr
    simp only [Prod.mk.injEq] at hr
    obtain ⟨rfl, rfl⟩ := hr
    conv => cbv
    repeat' (refine And.intro (by first | assumption | exact ⟨rfl⟩ | exact ⟨rfl, rfl⟩) ?_)
    refine ⟨_, h98, ?_⟩
    cases b
    · conv => cbv
    · conv => cbv
  · rw [if_pos h1] at hr
    simp only [Prod.mk.injEq] at hr
    obtain ⟨rfl, rfl⟩ := hr
    conv => cbv
end Go.Proofs.AM
namespace Go.Proofs.AM
open Go Go.Lib Cd
set_option maxRecDepth 100000 in
set_option maxHeartbeats 2000000 in
theorem concat102_ok (R : Ans) (a b : List ReqV) (hab : a.length + b.length ≤ 1000) (hg0 : SCall R 500 38 [.sl 4 true [], .int .i64 0] [] (fun r kn => r = .sl 4 true [] ∧ kn = []))
    (hg1 : ∀ n : Int, 0 < n → n ≤ 1000 → SCall R 500 38 [.sl 4 true [], .int .i64 n] [] (fun r kn => ∃ g, r = .own 596 g ∧ kn = [(596, ⟨g, .rw, .arr 4 44, []⟩)])) :
    AnsF R c26 [.sl 1 false [.sl 4 false (a.map reqD), .sl 4 false (b.map reqD)]] (.sl 4 false ((a ++ b).map reqD)) := by
  obtain ⟨xs, hxs⟩ : ∃ xs, xs = a.map reqD := ⟨_, rfl⟩
  obtain ⟨ys, hys⟩ : ∃ xs, xs = b.map reqD := ⟨_, rfl⟩
  obtain ⟨rs, hrs⟩ : ∃ xs, xs = (a ++ b).map reqD := ⟨_, rfl⟩
  have cx : CleanL xs := cleanL_map clean_req hxs
  have cy : CleanL ys := cleanL_map clean_req hys
  have cr : CleanL rs := cleanL_map clean_req hrs
  obtain ⟨L, hL⟩ : ∃ L, L = [xs, ys].map (D.sl 4 false) := ⟨_, rfl⟩
  rw [← hxs, ← hys, ← hrs, show [D.sl 4 false xs, D.sl 4 false ys] = L from hL.symm]
  refine wpF_sound ⟨rfl, by decide⟩ fun O hO V hV => ?_
  subst hV
  have hlx : O .len xs = a.length := by rw [o_len hO, hxs]; simp
  have hly : O .len ys = b.length := by rw [o_len hO, hys]; simp
  have hl2 : O .len L = 2 := by rw [o_len hO, hL]; rfl
  have hr : O .app xs ys = rs := by rw [o_app hO, hxs, hys, hrs, List.map_append]
  have hr0 : a = [] → b = [] → rs = [] ∧ xs = [] ∧ ys = [] := by rintro rfl rfl; exact ⟨hrs, hxs, hys⟩
  have at0 : atX L 0 (.sl 4 false xs) := atX_map (k := 0) (f := D.sl 4 false) (l := [xs, ys]) rfl hL rfl
  have at1 : atX L 1 (.sl 4 false ys) := atX_map (k := 1) (f := D.sl 4 false) (l := [xs, ys]) rfl hL rfl
  clear hxs hys hrs hL
  conv => cbv
  refine loop_of (fun n d => ∃ (i : Int) (k : Nat) (s : Int), d = ⟨[(0, .sl 1 false L), (3, .int .i64 s), (9, .sl 1 false L), (10, .int .i64 (O .len L)), (11, .int .i64 i)], [], false⟩ ∧ i = k ∧ k ≤ 2 ∧ n = 2 - k ∧ s = (if k = 0 then 0 else if k = 1 then (a.length : Int) else a.length + b.length)) ⟨_, _, ⟨_, 0, _, rfl, rfl, by omega, rfl, rfl⟩, ⟨⟨rfl, rfl, rfl, rfl, rfl, trivial⟩, trivial, rfl⟩⟩ ?_
  rintro J up n d ⟨i, k, s, rfl, hi, hk, rfl, hs⟩
  conv => cbv
  rintro (_ | _) h1
  · replace h1 := f_lss hO h1
    rw [hl2] at h1
    obtain rfl : k = 2 := by omega
    simp only [show ¬ (2 : Nat) = 0 by omega, show ¬ (2 : Nat) = 1 by omega, if_false] at hs
    clear up
    rcases Classical.em (s = 0) with h0 | h0
    · obtain ⟨e1, e2, e3⟩ := hr0 (List.length_eq_zero_iff.1 (by omega)) (List.length_eq_zero_iff.1 (by omega))
      rw [h0]
      conv => cbv
      refine shared_of hg0 (by decide) trivial ?_
      rintro r kn ⟨rfl, rfl⟩
      conv => cbv
      refine loop_of (fun n d => ∃ (i : Int) (k : Nat) (x6 : D) (bb : List (Nat × Box)), d = ⟨[(6, x6), (25, .sl 1 false L), (26, .int .i64 (O .len L)), (27, .int .i64 i)], bb, false⟩ ∧ i = k ∧ k ≤ 2 ∧ n = 2 - k ∧ ((k = 0 ∧ x6 = .sl 4 true [] ∧ bb = []) ∨ (0 < k ∧ ∃ g ac, x6 = .own 33 g ∧ bb = [(33, ⟨g, .rw, .arr 4 44, ac⟩)] ∧ ac = []))) ⟨_, _, ⟨_, 0, _, _, rfl, rfl, by omega, rfl, .inl ⟨rfl, rfl, rfl⟩⟩, ⟨⟨rfl, rfl, rfl, rfl, trivial⟩, trivial, rfl⟩⟩ ?_
      subst e1 e2 e3
      rintro J up n d ⟨i, k, x6, bb, rfl, hi, hk, rfl, h6⟩
      rcases h6 with ⟨rfl, rfl, rfl⟩ | ⟨hk0, g, ac, rfl, rfl, rfl⟩
      · obtain rfl : i = 0 := hi
        conv => cbv
        rintro (_ | _) h2 <;> replace h2 := ci hO h2 <;> dsimp only [CmpI] at h2 <;> rw [hl2] at h2
        · exfalso; omega
        conv => cbv
        refine ⟨_, at0, ?_⟩
        conv => cbv
        refine ⟨⟨rfl⟩, ⟨by rw [o_len hO]; decide⟩, fun g => ?_⟩
        conv => cbv
        exact ⟨_, _, up _ _ ⟨_, 1, _, _, rfl, by rw [o_add64 hO (by omega) (by omega)]; omega, by omega, rfl, .inr ⟨by omega, g, _, rfl, rfl, rfl⟩⟩, ⟨⟨rfl, rfl, rfl, rfl, trivial⟩, ⟨rfl, trivial⟩, rfl⟩, by omega⟩
      · rcases (by omega : k = 1 ∨ k = 2) with rfl | rfl
        · obtain rfl : i = 1 := hi
          conv => cbv
          rintro (_ | _) h2 <;> replace h2 := ci hO h2 <;> dsimp only [CmpI] at h2 <;> rw [hl2] at h2
          · exfalso; omega
          conv => cbv
          refine ⟨_, at1, ?_⟩
          conv => cbv
          refine ⟨⟨rfl⟩, ⟨by simp [o_len hO]⟩, ?_⟩
          conv => cbv
          exact ⟨_, _, up _ _ ⟨_, 2, _, _, rfl, by rw [o_add64 hO (by omega) (by omega)]; omega, by omega, rfl, .inr ⟨by omega, g + 1, O .app [] [], rfl, rfl, by rw [o_app hO]; rfl⟩⟩, ⟨⟨rfl, rfl, rfl, rfl, trivial⟩, ⟨rfl, trivial⟩, rfl⟩, by omega⟩
        · obtain rfl : i = 2 := hi
          conv => cbv
          rintro (_ | _) h2 <;> replace h2 := ci hO h2 <;> dsimp only [CmpI] at h2 <;> rw [hl2] at h2
          · conv => cbv
            trivial
          · exfalso; omega
    · have hsh := hg1 s (by omega) (by omega)
      conv => cbv
      refine shared_of hsh (by decide) trivial ?_
      rintro r kn ⟨g, rfl, rfl⟩
      conv => cbv
      refine loop_of (fun n d => ∃ (i : Int) (k ga : Nat) (ac : List D), d = ⟨[(6, .own 596 ga), (25, .sl 1 false L), (26, .int .i64 (O .len L)), (27, .int .i64 i)], [(596, ⟨ga, .rw, .arr 4 44, ac⟩)], false⟩ ∧ i = k ∧ k ≤ 2 ∧ n = 2 - k ∧ ((k = 0 ∧ ac = []) ∨ (k = 1 ∧ ac = xs) ∨ (k = 2 ∧ ac = rs))) ⟨_, _, ⟨_, 0, g, [], rfl, rfl, by omega, rfl, .inl ⟨rfl, rfl⟩⟩, ⟨⟨rfl, rfl, rfl, rfl, trivial⟩, ⟨rfl, trivial⟩, rfl⟩⟩ ?_
      rintro J up n d ⟨i, k, ga, ac, rfl, hi, hk, rfl, hac⟩
      rcases hac with ⟨rfl, rfl⟩ | ⟨rfl, rfl⟩ | ⟨rfl, rfl⟩
      · obtain rfl : i = 0 := hi
        conv => cbv
        rintro (_ | _) h2 <;> replace h2 := ci hO h2 <;> dsimp only [CmpI] at h2 <;> rw [hl2] at h2
        · exfalso; omega
        conv => cbv
        refine ⟨_, at0, ?_⟩
        conv => cbv
        refine ⟨⟨cx.c⟩, ⟨by show (O .len [] + O .len xs) * ((56 : Nat) : Int) ≤ _; rw [hlx, show O .len [] = 0 by rw [o_len hO]; rfl]; omega⟩, ?_⟩
        exact ⟨_, _, up _ _ ⟨_, 1, ga + 1, O .app [] xs, rfl, by rw [o_add64 hO (by omega) (by omega)]; omega, by omega, rfl, .inr (.inl ⟨rfl, by rw [o_app hO]; rfl⟩)⟩, ⟨⟨rfl, rfl, rfl, rfl, trivial⟩, ⟨rfl, trivial⟩, rfl⟩, by omega⟩
      · obtain rfl : i = 1 := hi
        conv => cbv
        rintro (_ | _) h2 <;> replace h2 := ci hO h2 <;> dsimp only [CmpI] at h2 <;> rw [hl2] at h2
        · exfalso; omega
        conv => cbv
        refine ⟨_, at1, ?_⟩
        conv => cbv
        refine ⟨⟨cy.c⟩, ⟨by show (O .len ac + O .len ys) * ((56 : Nat) : Int) ≤ _; rw [hlx, hly]; omega⟩, ?_⟩
        exact ⟨_, _, up _ _ ⟨_, 2, ga + 1, O .app ac ys, rfl, by rw [o_add64 hO (by omega) (by omega)]; omega, by omega, rfl, .inr (.inr ⟨rfl, hr⟩)⟩, ⟨⟨rfl, rfl, rfl, rfl, trivial⟩, ⟨rfl, trivial⟩, rfl⟩, by omega⟩
      · obtain rfl : i = 2 := hi
        conv => cbv
        rintro (_ | _) h2 <;> replace h2 := ci hO h2 <;> dsimp only [CmpI] at h2 <;> rw [hl2] at h2
        · conv => cbv
          exact ⟨cr, trivial⟩
        · exfalso; omega
  · replace h1 := t_lss hO h1
    rw [hl2] at h1
    rcases (by omega : k = 0 ∨ k = 1) with rfl | rfl
    · obtain rfl : i = 0 := hi
      simp only [if_true] at hs
      subst hs
      have hadd : O .iop .add .i64 0 (O .len xs) = a.length := by rw [hlx, o_add64 hO (by omega) (by omega)]; omega
      conv => cbv
      refine ⟨_, at0, ?_⟩
      conv => cbv
      rintro (_ | _) h2 <;> replace h2 := ci hO h2 <;> dsimp only [CmpI] at h2 <;> rw [hadd] at h2
      case true => exfalso; omega
      conv => cbv
      exact ⟨_, _, up _ _ ⟨_, 1, _, rfl, by rw [o_add64 hO (by omega) (by omega)]; omega, by omega, rfl, by rw [hadd]; simp⟩, ⟨⟨rfl, rfl, rfl, rfl, rfl, trivial⟩, trivial, rfl⟩, by omega⟩
    · obtain rfl : i = 1 := hi
      simp only [show ¬ (1 : Nat) = 0 by omega, if_false, if_true] at hs
      have hadd : O .iop .add .i64 s (O .len ys) = a.length + b.length := by rw [hly, hs, o_add64 hO (by omega) (by omega)]
      conv => cbv
      refine ⟨_, at1, ?_⟩
      conv => cbv
      rintro (_ | _) h2 <;> replace h2 := ci hO h2 <;> dsimp only [CmpI] at h2 <;> rw [hadd] at h2
      case true => exfalso; omega
      conv => cbv
      exact ⟨_, _, up _ _ ⟨_, 2, _, rfl, by rw [o_add64 hO (by omega) (by omega)]; omega, by omega, rfl, by rw [hadd]; simp⟩, ⟨⟨rfl, rfl, rfl, rfl, rfl, trivial⟩, trivial, rfl⟩, by omega⟩
set_option maxRecDepth 100000 in
set_option maxHeartbeats 2000000 in
theorem meets43_ok (R : Ans) (a b : List ReqV) (h36 : ∀ l, l = a ∨ l = b → R.v 4 [.sl 4 false (l.map reqD)] (.int .i64 (reqsE 8 l))) (h102 : reqsE 8 a = 0 → reqsE 8 b = 0 → R.v 26 [.sl 1 false [.sl 4 false (a.map reqD), .sl 4 false (b.map reqD)]] (.sl 4 false ((a ++ b).map reqD)))
    (h41 : reqsE 8 a = 0 → reqsE 8 b = 0 → R.v 12 [.sl 4 false ((a ++ b).map reqD)] (.tup [.bool (canE (a ++ b)).1, .int .i64 (canE (a ++ b)).2])) :
    AnsF R c13 [.sl 4 false (a.map reqD), .sl 4 false (b.map reqD)] (.tup [.bool (meetsE a b).1, .int .i64 (meetsE a b).2]) := by
  have ka := h36 a (.inl rfl)
  have kb := h36 b (.inr rfl)
  obtain ⟨r, hr⟩ : ∃ r, r = meetsE a b := ⟨_, rfl⟩
  rw [← hr]
  unfold meetsE at hr
  obtain ⟨e1, he1⟩ : ∃ e, e = reqsE 8 a := ⟨_, rfl⟩
  obtain ⟨e2, he2⟩ : ∃ e, e = reqsE 8 b := ⟨_, rfl⟩
  rw [← he1] at ka hr h102 h41
  rw [← he2] at kb hr h102 h41
  obtain ⟨q, hq⟩ : ∃ q, q = canE (a ++ b) := ⟨_, rfl⟩
  rw [← hq] at hr h41
  obtain ⟨xs, hxs⟩ : ∃ xs, xs = a.map reqD := ⟨_, rfl⟩
  obtain ⟨ys, hys⟩ : ∃ xs, xs = b.map reqD := ⟨_, rfl⟩
  obtain ⟨rs, hrs⟩ : ∃ xs, xs = (a ++ b).map reqD := ⟨_, rfl⟩
  have cx : CleanL xs := cleanL_map clean_req hxs
  have cy : CleanL ys := cleanL_map clean_req hys
  have cr : CleanL rs := cleanL_map clean_req hrs
  have c2 : CleanL [D.sl 4 false xs, D.sl 4 false ys] := ⟨by simp [closedL, closed, cx.c, cy.c], by simp [stripL, strip, cx.s, cy.s]⟩
  rw [← hxs] at ka h102 ⊢
  rw [← hys] at kb h102 ⊢
  rw [← hrs] at h102 h41
  clear he1 he2 hq hxs hys hrs h36
  obtain ⟨q1, q2⟩ := q
  obtain ⟨r1, r2⟩ := r
  simp only at h41 ⊢
  refine wpF_sound ⟨rfl, by decide⟩ fun O hO V hV => ?_
  subst hV
  conv => cbv
  refine ⟨cx, _, ka, ?_⟩
  conv => cbv
  rintro (_ | _) h1 <;> replace h1 := ci hO h1 <;> dsimp only [CmpI] at h1
  case true =>
    rw [if_pos h1] at hr
    simp only [Prod.mk.injEq] at hr
    obtain ⟨rfl, rfl⟩ := hr
    conv => cbv
  rw [if_neg (by simpa using h1)] at hr
  conv => cbv
  refine ⟨cy, _, kb, ?_⟩
  conv => cbv
  rintro (_ | _) h2 <;> replace h2 := ci hO h2 <;> dsimp only [CmpI] at h2
  case true =>
    rw [if_pos h2] at hr
    simp only [Prod.mk.injEq] at hr
    obtain ⟨rfl, rfl⟩ := hr
    conv => cbv
  rw [if_neg (by simpa using h2)] at hr
  simp only [Prod.mk.injEq] at hr
  obtain ⟨rfl, rfl⟩ := hr
  replace h102 := h102 h1 h2
  replace h41 := h41 h1 h2
  conv => cbv
  repeat' (refine And.intro (by first | assumption | exact ⟨rfl⟩ | exact ⟨rfl, rfl⟩) ?_)
  refine ⟨_, h102, ?_⟩
  conv => cbv
  repeat' (refine And.intro (by first | assumption | exact ⟨rfl⟩ | exact ⟨rfl, rfl⟩) ?_)
  refine ⟨_, h41, ?_⟩
  conv => cbv
end Go.Proofs.AM
namespace Go.Proofs.AM
open Go Go.Lib
def l1 : ReqV := ⟨zoneT, 1, [[97], [98], [99]], 0⟩
def l2 : ReqV := ⟨zoneT, 2, [[98]], 0⟩
def l4 : ReqV := ⟨zoneT, 1, [[97]], 0⟩
def l5 : ReqV := ⟨zoneT, 1, [[98]], 0⟩
def sAC : SetV := ⟨false, false, false, [[97], [99]], 0, 0⟩
def sNo : SetV := ⟨false, false, false, [], 0, 0⟩
theorem val_a : valueB [97] = true := value_name (by rw [nameB_cons]; decide)
theorem val_b : valueB [98] = true := value_name (by rw [nameB_cons]; decide)
theorem val_c : valueB [99] = true := value_name (by rw [nameB_cons]; decide)
theorem wrong_l1 : wrongE l1 = 0 := wrongE_ok name_zone (by decide) (by decide) (fun v hv => by
  simp only [l1, List.mem_cons, List.not_mem_nil, or_false] at hv
  rcases hv with rfl | rfl | rfl
  · exact val_a
  · exact val_b
  · exact val_c) (by decide)
theorem wrong_l2 : wrongE l2 = 0 := wrongE_ok name_zone (by decide) (by decide) (fun v hv => by
  simp only [l2, List.mem_cons, List.not_mem_nil, or_false] at hv
  subst hv; exact val_b) (by decide)
theorem wrong_l4 : wrongE l4 = 0 := wrongE_ok name_zone (by decide) (by decide) (fun v hv => by
  simp only [l4, List.mem_cons, List.not_mem_nil, or_false] at hv
  subst hv; exact val_a) (by decide)
theorem wrong_l5 : wrongE l5 = 0 := wrongE_ok name_zone (by decide) (by decide) (fun v hv => by
  simp only [l5, List.mem_cons, List.not_mem_nil, or_false] at hv
  subst hv; exact val_b) (by decide)
theorem set_l1 : ofSet l1 = ⟨false, false, false, [[97], [98], [99]], 0, 0⟩ := by
  unfold ofSet
  rw [if_pos wrong_l1]
  unfold ofS
  rw [if_pos (by decide)]
  have : risingS l1.l = [[97], [98], [99]] := by decide
  rw [this]
theorem set_l2 : ofSet l2 = ⟨true, true, false, [[98]], 0, 0⟩ := by
  unfold ofSet
  rw [if_pos wrong_l2]
  unfold ofS
  rw [if_neg (by decide), if_pos (by decide)]
  have : risingS l2.l = [[98]] := by decide
  rw [this]
theorem set_l4 : ofSet l4 = ⟨false, false, false, [[97]], 0, 0⟩ := by
  unfold ofSet
  rw [if_pos wrong_l4]
  unfold ofS
  rw [if_pos (by decide)]
  have : risingS l4.l = [[97]] := by decide
  rw [this]
theorem set_l5 : ofSet l5 = ⟨false, false, false, [[98]], 0, 0⟩ := by
  unfold ofSet
  rw [if_pos wrong_l5]
  unfold ofS
  rw [if_pos (by decide)]
  have : risingS l5.l = [[98]] := by decide
  rw [this]
theorem has_list {l : List Str} (c : CheckP ⟨false, false, false, l, 0, 0⟩) {v : Str} (h : valueB v = true) : hasB ⟨false, false, false, l, 0, 0⟩ v = decide (v ∈ l) := by
  rw [hasB_raw c, h]
  unfold hasRaw
  simp
theorem has_l2 {v : Str} (h : valueB v = true) : hasB (ofSet l2) v = !decide (v ∈ [[(98 : UInt8)]]) := by
  rw [hasB_raw (ofSet_check wrong_l2), h]
  unfold hasRaw
  rw [set_l2]
  simp
theorem check_no : CheckP sNo := ⟨ord_nil, by simp [sNo], by simp [sNo], by simp [sNo]⟩
theorem meet_l12 : meetS (ofSet l1) (ofSet l2) = (sAC, 0) := by
  unfold meetS
  rw [if_neg (by rw [checkE_0 (ofSet_check wrong_l1)]; simp), if_neg (by rw [checkE_0 (ofSet_check wrong_l2)]; simp)]
  unfold meetN
  rw [if_pos (by rw [set_l1])]
  simp only [set_l1, List.filter_cons, List.filter_nil, has_l2 val_a, has_l2 val_b, has_l2 val_c]
  rfl
theorem meet_l45 : meetS (ofSet l4) (ofSet l5) = (sNo, 0) := by
  unfold meetS
  rw [if_neg (by rw [checkE_0 (ofSet_check wrong_l4)]; simp), if_neg (by rw [checkE_0 (ofSet_check wrong_l5)]; simp)]
  unfold meetN
  rw [if_pos (by rw [set_l4])]
  have h5 := ofSet_check wrong_l5
  simp only [set_l5] at h5
  simp only [set_l4, List.filter_cons, List.filter_nil, set_l5, has_list h5 val_a]
  rfl
def ll : List ReqV := [l1, l2, qAbove]
theorem reqs_ll {n : Nat} (h : 3 ≤ n) : reqsE n ll = 0 := by
  unfold reqsE tooE
  rw [if_neg (by simp [ll]; omega), scan_at]
  intro x hx
  simp only [ll, List.mem_cons, List.not_mem_nil, or_false] at hx
  rcases hx with rfl | rfl | rfl
  · exact wrong_l1
  · exact wrong_l2
  · exact wrong_above
theorem reqs_nil (n : Nat) : reqsE n [] = 0 := by
  unfold reqsE tooE
  rw [if_neg (by simp), scan_at]
  simp
theorem reqs_45 : reqsE 16 [l4, l5] = 0 := by
  unfold reqsE tooE
  rw [if_neg (by simp), scan_at]
  intro x hx
  simp only [List.mem_cons, List.not_mem_nil, or_false] at hx
  rcases hx with rfl | rfl
  · exact wrong_l4
  · exact wrong_l5
theorem sets_ll : setsE ll = ([⟨genS, sAbove⟩, ⟨zoneT, sAC⟩], 0) := by
  unfold setsE
  rw [if_neg (by rw [reqs_ll (by omega)]; simp)]
  have e1 : ([] : List KeyV).find? (fun x => decide (x.k = l1.key)) = none := rfl
  have e2 : [(⟨zoneT, ofSet l1⟩ : KeyV)].find? (fun x => decide (x.k = l2.key)) = some ⟨zoneT, ofSet l1⟩ := rfl
  have e3 : [(⟨zoneT, sAC⟩ : KeyV)].find? (fun x => decide (x.k = qAbove.key)) = none := rfl
  unfold ll setsF
  rw [e1]
  simp only
  show setsF [⟨zoneT, ofSet l1⟩] _ = _
  unfold setsF
  rw [e2]
  simp only [meet_l12, if_true]
  show setsF [⟨zoneT, sAC⟩] _ = _
  unfold setsF
  rw [e3]
  simp only
  rw [set_above]
  rfl
theorem sets_45 : setsE [l4, l5] = ([⟨zoneT, sNo⟩], 0) := by
  unfold setsE
  rw [if_neg (by rw [reqs_45]; simp)]
  have e1 : ([] : List KeyV).find? (fun x => decide (x.k = l4.key)) = none := rfl
  have e2 : [(⟨zoneT, ofSet l4⟩ : KeyV)].find? (fun x => decide (x.k = l5.key)) = some ⟨zoneT, ofSet l4⟩ := rfl
  unfold setsF
  rw [e1]
  simp only
  show setsF [⟨zoneT, ofSet l4⟩] _ = _
  unfold setsF
  rw [e2]
  simp only [meet_l45, if_true]
  rfl
theorem num_5 : numS [53] = some 5 := numS_d (n := 5) (by decide)
theorem has_5 : hasB sAbove [53] = true := by
  unfold hasB
  rw [checkE_0 check_above, valueB_or, num_5]
  unfold hasRaw
  rw [rangeB_some num_5]
  simp [sAbove]
def za : LabV := ⟨zoneT, [97]⟩
def g5 : LabV := ⟨genS, [53]⟩
theorem labs_1 : labsE [za] = 0 := by
  unfold labsE
  rw [scan_up]
  intro i x hx
  match i, hx with
  | 0, hx =>
    simp at hx; subst hx
    unfold labE
    simp [za, name_zone, val_a]
theorem labs_2 : labsE [za, g5] = 0 := by
  unfold labsE
  rw [scan_up]
  intro i x hx
  match i, hx with
  | 0, hx =>
    simp at hx; subst hx
    unfold labE
    simp [za, name_zone, val_a]
  | 1, hx =>
    simp at hx; subst hx
    have : valueB [53] = true := by rw [valueB_or, num_5]; simp
    unfold labE
    simp [g5, za, name_gen, this]
    decide
  | i + 2, hx => simp at hx
theorem adm_ll : admE ll [za, g5] = (true, 0) ∧ admE ll [za] = (false, 0) := by
  have h1 := ofSet_check wrong_l1
  have t1 := h1
  rw [set_l1] at t1
  have a1 : hasB (ofSet l1) [97] = true := by rw [set_l1, has_list t1 val_a]; decide
  have a2 : hasB (ofSet l2) [97] = true := by rw [has_l2 val_a]; decide
  have a3 : hasB (ofSet qAbove) [53] = true := by rw [set_above]; exact has_5
  constructor
  · unfold admE
    rw [if_neg (by rw [reqs_ll (by omega)]; simp), if_neg (by rw [labs_2]; simp)]
    have f1 : admB l1 [za, g5] = true := a1
    have f2 : admB l2 [za, g5] = true := a2
    have f3 : admB qAbove [za, g5] = true := a3
    simp [ll, f1, f2, f3]
  · unfold admE
    rw [if_neg (by rw [reqs_ll (by omega)]; simp), if_neg (by rw [labs_1]; simp)]
    have f3 : admB qAbove [za] = false := by
      show (ofSet qAbove).m = false
      rw [set_above]; rfl
    simp [ll, f3]
theorem can_ll : canE ll = (true, 0) := by
  unfold canE
  rw [sets_ll, if_neg (by simp)]
  simp [emptyB, sAbove, sAC]
theorem can_45 : canE [l4, l5] = (false, 0) := by
  unfold canE
  rw [sets_45, if_neg (by simp)]
  have : emptyB sNo = true := by
    unfold emptyB
    rw [checkE_0 check_no]
    simp [sNo]
  simp [this]
theorem meets_ll : meetsE ll [] = (true, 0) := by
  unfold meetsE
  rw [if_neg (by rw [reqs_ll (by omega)]; simp), if_neg (by rw [reqs_nil]; simp), List.append_nil, can_ll]
theorem fr_l1 : FR l1 := ⟨by unfold SL; decide, fl_small (by decide) (by decide), ⟨by decide, by decide⟩, ⟨by decide, by decide⟩⟩
theorem fr_l2 : FR l2 := ⟨by unfold SL; decide, fl_small (by decide) (by decide), ⟨by decide, by decide⟩, ⟨by decide, by decide⟩⟩
theorem fr_l4 : FR l4 := ⟨by unfold SL; decide, fl_small (by decide) (by decide), ⟨by decide, by decide⟩, ⟨by decide, by decide⟩⟩
theorem fr_l5 : FR l5 := ⟨by unfold SL; decide, fl_small (by decide) (by decide), ⟨by decide, by decide⟩, ⟨by decide, by decide⟩⟩
theorem flab_za : FLab za := ⟨by unfold SL; decide, by unfold SL; decide⟩
theorem flab_g5 : FLab g5 := ⟨by unfold SL; decide, by unfold SL; decide⟩
end Go.Proofs.AM
namespace Go.Proofs.AM
open Go Go.Lib Cd
set_option maxRecDepth 100000 in
set_option maxHeartbeats 2000000 in
theorem req32_ok (R : Ans) (k : Str) (op n : Int) (xs : List D) (cx : CleanL xs) : AnsF R c11 [mkS k, .int .i64 op, .int .i64 n, .sl 1 false xs] (.agg [mkS k, .int .i64 op, .sl 1 false xs, .int .i64 n]) := by
  obtain ⟨kk, hk⟩ : ∃ kk, kk = mkS k := ⟨_, rfl⟩
  refine wpF_sound ⟨rfl, by decide⟩ fun O hO V hV => ?_
  subst hV
  conv => cbv
  try exact ⟨cx, trivial⟩
set_option maxRecDepth 100000 in
set_option maxHeartbeats 2000000 in
theorem live35_ok (R : Ans) (h32 : ∀ k op n xs, CleanL xs → R.v 11 [mkS k, .int .i64 op, .int .i64 n, .sl 1 false xs] (.agg [mkS k, .int .i64 op, .sl 1 false xs, .int .i64 n])) (h33 : R.v 8 [.sl 4 false (ll.map reqD)] (.tup [.sl 7 false ((setsE ll).1.map keyedD), .int .i64 (setsE ll).2]))
    (h34 : ∀ L, FLs FLab L → R.v 6 [.sl 4 false (ll.map reqD), .sl 2 false (L.map labD)] (.tup [.bool (admE ll L).1, .int .i64 (admE ll L).2])) (h41 : R.v 12 [.sl 4 false ([l4, l5].map reqD)] (.tup [.bool (canE [l4, l5]).1, .int .i64 (canE [l4, l5]).2]))
    (h43 : R.v 13 [.sl 4 false (ll.map reqD), .sl 4 false (([] : List ReqV).map reqD)] (.tup [.bool (meetsE ll []).1, .int .i64 (meetsE ll []).2])) : AnsF R c5 [] (.bool true) := by
  have k1 := h32 zoneT 1 0 [mkS [97], mkS [98], mkS [99]] ⟨rfl, rfl⟩
  have k2 := h32 zoneT 2 0 [mkS [98]] ⟨rfl, rfl⟩
  have k3 := h32 genS 5 3 [] ⟨rfl, rfl⟩
  have k4 := h32 zoneT 1 0 [mkS [97]] ⟨rfl, rfl⟩
  have k5 := h32 zoneT 1 0 [mkS [98]] ⟨rfl, rfl⟩
  have k6 := h34 [za, g5] ⟨by decide, fun x hx => by simp only [List.mem_cons, List.not_mem_nil, or_false] at hx; rcases hx with rfl | rfl <;> first | exact flab_za | exact flab_g5⟩
  have k7 := h34 [za] ⟨by decide, fun x hx => by simp only [List.mem_cons, List.not_mem_nil, or_false] at hx; subst hx; exact flab_za⟩
  rw [adm_ll.1] at k6
  rw [adm_ll.2] at k7
  rw [sets_ll] at h33
  rw [can_45] at h41
  rw [meets_ll] at h43
  clear h32 h34
  conv at k1 => cbv
  conv at k2 => cbv
  conv at k3 => cbv
  conv at k4 => cbv
  conv at k5 => cbv
  conv at k6 => cbv
  conv at k7 => cbv
  conv at h33 => cbv
  conv at h41 => cbv
  conv at h43 => cbv
  refine wpF_sound ⟨rfl, by decide⟩ fun O hO V hV => ?_
  subst hV
  conv => cbv
  repeat refine ⟨⟨rfl, rfl⟩, ?_⟩
  refine ⟨_, k1, ?_⟩
  conv => cbv
  repeat refine ⟨⟨rfl, rfl⟩, ?_⟩
  refine ⟨_, k2, ?_⟩
  conv => cbv
  repeat refine ⟨⟨rfl, rfl⟩, ?_⟩
  refine ⟨_, k3, ?_⟩
  conv => cbv
  repeat refine ⟨⟨rfl, rfl⟩, ?_⟩
  refine ⟨_, h33, ?_⟩
  conv => cbv
  rintro (_ | _) h <;> (conv => cbv)
  case true => exfalso; exact absurd (ci hO h) (by dsimp only [CmpI, CmpS]; decide)
  clear h
  rintro (_ | _) h <;> (conv => cbv)
  case true => exfalso; exact absurd (ci hO h) (by dsimp only [CmpI, CmpS]; rw [o_len hO]; decide)
  clear h
  refine ⟨_, ⟨by decide, rfl⟩, ?_⟩
  conv => cbv
  rintro (_ | _) h <;> (conv => cbv)
  case true => exfalso; exact absurd (cs hO h) (by dsimp only [CmpI, CmpS]; decide)
  clear h
  refine ⟨_, ⟨by decide, rfl⟩, ?_⟩
  conv => cbv
  rintro (_ | _) h <;> (conv => cbv)
  case true => exfalso; exact absurd (cs hO h) (by dsimp only [CmpI, CmpS]; decide)
  clear h
  refine ⟨_, ⟨by decide, rfl⟩, ?_⟩
  conv => cbv
  rintro (_ | _) h <;> (conv => cbv)
  case true => exfalso; exact absurd (ci hO h) (by dsimp only [CmpI, CmpS]; rw [o_len hO]; decide)
  clear h
  repeat refine ⟨⟨rfl, rfl⟩, ?_⟩
  refine ⟨_, k6, ?_⟩
  conv => cbv
  repeat refine ⟨⟨rfl, rfl⟩, ?_⟩
  refine ⟨_, k7, ?_⟩
  conv => cbv
  repeat refine ⟨⟨rfl, rfl⟩, ?_⟩
  refine ⟨_, k4, ?_⟩
  conv => cbv
  repeat refine ⟨⟨rfl, rfl⟩, ?_⟩
  refine ⟨_, k5, ?_⟩
  conv => cbv
  repeat refine ⟨⟨rfl, rfl⟩, ?_⟩
  refine ⟨_, h41, ?_⟩
  conv => cbv
  repeat refine ⟨⟨rfl, rfl⟩, ?_⟩
  refine ⟨_, h43, ?_⟩
  conv => cbv
  rintro (_ | _) h <;> (conv => cbv)
  case false => exfalso; exact absurd (ci hO h) (by dsimp only [CmpI, CmpS]; decide)
  clear h
  rintro (_ | _) h <;> (conv => cbv)
  case false => exfalso; exact absurd (ci hO h) (by dsimp only [CmpI, CmpS]; decide)
  clear h
  rintro (_ | _) h <;> (conv => cbv)
  case false => exfalso; exact absurd (ci hO h) (by dsimp only [CmpI, CmpS]; decide)
  clear h
  rintro (_ | _) h <;> (conv => cbv)
  case false => exfalso; exact absurd (ci hO h) (by dsimp only [CmpI, CmpS]; decide)
  clear h
  trivial
end Go.Proofs.AM
namespace Go.Proofs.AM
open Go Go.Lib Cd
theorem n84 (l : List ReqV) (hl : FLs FR l) (n : Nat) (hn : n ≤ 16) : PR3.v 10 [.sl 4 false (l.map reqD), .int .i64 n] (.tup [.sl 6 false ((setsL n l).map setD), .int .i64 (reqsE n l)]) := pr3 E10 Tryz.func10 T10 (sets84_ok _ l hl.len hl.all n hn k12)
theorem n36 (l : List ReqV) (hl : FLs FR l) : PR3.v 4 [.sl 4 false (l.map reqD)] (.int .i64 (reqsE 8 l)) := pr3 E4 Tryz.func4 T4 (check36_ok _ l (n84 l hl 8 (by omega)))
theorem n34 (l : List ReqV) (L : List LabV) (hl : FLs FR l) (hL : FLs FLab L) : PR3.v 6 [.sl 4 false (l.map reqD), .sl 2 false (L.map labD)] (.tup [.bool (admE l L).1, .int .i64 (admE l L).2]) := pr3 E6 Tryz.func6 T6 (adm34_ok _ l L hl hL (n84 l hl 16 (by omega)) k18 k19 fun q v hq hv => k26 _ v (ofSet_fs q) hv)
theorem n33 (l : List ReqV) (hl : FLs FR l) : PR3.v 8 [.sl 4 false (l.map reqD)] (.tup [.sl 7 false ((setsE l).1.map keyedD), .int .i64 (setsE l).2]) := pr3 E8 Tryz.func8 T8 (sets33_ok _ l hl (n84 l hl 16 (by omega)) (fun q _ => ofSet_fs q) meet_fs k24 h86)
theorem n99 (x : KeyV) (hx : FS x.s) : PR3.v 24 [keyedD x] (.bool (emptyB x.s)) := pr3 E24 Tryz.func24 T24 (empty99_ok _ x (k27 _ hx))
theorem n195 (l : List KeyV) (hl : l.length < 4611686018427387904) (h : ∀ x ∈ l, FS x.s) : PR3.v 37 [.sl 7 false (l.map keyedD), .fn 24 [] []] (.int .i64 (idxI (fun x => emptyB x.s) l)) := pr3 E37 Tryz.func37 T37 (indexf195_ok _ 24 _ l hl fun y hy => n99 y (h y hy))
theorem n98 (l : List KeyV) (hl : l.length < 4611686018427387904) (h : ∀ x ∈ l, FS x.s) : PR3.v 23 [.sl 7 false (l.map keyedD), .fn 24 [] []] (.bool (l.any fun x => emptyB x.s)) := pr3 E23 Tryz.func23 T23 (containsf98_ok _ 24 _ l (n195 l hl h))
theorem sets_lt {l : List ReqV} (hl : FLs FR l) : (setsE l).1.length < 4611686018427387904 := by have := (setsE_fs l).2; have := hl.len; omega
theorem n41 (l : List ReqV) (hl : FLs FR l) : PR3.v 12 [.sl 4 false (l.map reqD)] (.tup [.bool (canE l).1, .int .i64 (canE l).2]) := pr3 E12 Tryz.func12 T12 (can41_ok _ l (n33 l hl) (n98 _ (sets_lt hl) (setsE_fs l).1))
theorem fls_app {α : Type} {F : α → Prop} {a b : List α} (ha : FLs F a) (hb : FLs F b) (h : a.length + b.length ≤ 1000) : FLs F (a ++ b) := ⟨by simp; omega, fun x hx => by
  rcases List.mem_append.1 hx with h | h
  · exact ha.all x h
  · exact hb.all x h⟩
theorem n43 (a b : List ReqV) (ha : FLs FR a) (hb : FLs FR b) : PR3.v 13 [.sl 4 false (a.map reqD), .sl 4 false (b.map reqD)] (.tup [.bool (meetsE a b).1, .int .i64 (meetsE a b).2]) :=
  pr3 E13 Tryz.func13 T13 (meets43_ok _ a b (fun l hl => by rcases hl with rfl | rfl <;> first | exact n36 _ ha | exact n36 _ hb)
    (fun h1 h2 => pr3 E26 Tryz.func26 T26 (concat102_ok _ a b (by have := reqs_len h1; have := reqs_len h2; omega) hg0 hg1))
    (fun h1 h2 => n41 _ (fls_app ha hb (by have := reqs_len h1; have := reqs_len h2; omega))))
theorem n32 (k : Str) (op n : Int) (xs : List D) (cx : CleanL xs) : PR3.v 11 [mkS k, .int .i64 op, .int .i64 n, .sl 1 false xs] (.agg [mkS k, .int .i64 op, .sl 1 false xs, .int .i64 n]) := pr3 E11 Tryz.func11 T11 (req32_ok _ k op n xs cx)
theorem fls_ll : FLs FR ll := ⟨by decide, fun x hx => by
  simp only [ll, List.mem_cons, List.not_mem_nil, or_false] at hx
  rcases hx with rfl | rfl | rfl
  · exact fr_l1
  · exact fr_l2
  · exact fr_above⟩
theorem fls_45 : FLs FR [l4, l5] := ⟨by decide, fun x hx => by
  simp only [List.mem_cons, List.not_mem_nil, or_false] at hx
  rcases hx with rfl | rfl
  · exact fr_l4
  · exact fr_l5⟩
theorem fls_nil {α : Type} {F : α → Prop} : FLs F ([] : List α) := ⟨by simp, by simp⟩
theorem n35 : PR3.v 5 [] (.bool true) := pr3 E5 Tryz.func5 T5 (live35_ok _ n32 (n33 _ fls_ll) (fun L hL => n34 _ L fls_ll hL) (n41 _ fls_45) (n43 _ _ fls_ll fls_nil))
end Go.Proofs.AM
namespace Go.Proofs.AM
open Go Go.Lib
theorem numbersS_sub {lo hi : Int} {K : List Str} {S : SetV} (h : numbersS lo hi K = some S) (hn : S.n = true) : ∀ z ∈ S.l, z ∈ K := by
  unfold numbersS numbersN at h
  split at h
  · simp only [Option.some.injEq] at h
    subst h
    simp at hn
  · split at h
    · simp at h
    · simp only [Option.some.injEq] at h
      subst h
      exact fun z hz => (valsN_mem.1 hz).1
theorem meet_some {a b : SetV} {U : List Str} (ca : CheckP a) (cb : CheckP b) (ha : a.n = true → ∀ z ∈ a.l, z ∈ U) (hb : b.n = true → ∀ z ∈ b.l, z ∈ U) (hU : U.length ≤ 64) :
    ∃ S, meetS a b = (S, 0) ∧ (S.n = true → ∀ z ∈ S.l, z ∈ U) ∧ CheckP S ∧ S.m = (a.m && b.m) ∧ ∀ v, valueB v = true → hasRaw S v = (hasRaw a v && hasRaw b v) := by
  have hN : ∃ N, meetN a b = some N ∧ (N.n = true → ∀ z ∈ N.l, z ∈ U) := by
    unfold meetN
    cases h1 : a.n with
    | false => exact ⟨_, by rw [if_pos rfl], fun h => by simp at h⟩
    | true =>
      cases h2 : b.n with
      | false => exact ⟨_, by rw [if_neg (by simp), if_pos rfl], fun h => by simp at h⟩
      | true =>
        have hK : ∀ z ∈ risingS (a.l ++ b.l), z ∈ U := fun z hz => by
          rw [risingS_mem, List.mem_append] at hz
          rcases hz with hz | hz
          · exact ha h1 z hz
          · exact hb h2 z hz
        have hl : (risingS (a.l ++ b.l)).length ≤ 64 := by
          have := nodup_len (risingS_rises (a.l ++ b.l)).nodup hK
          omega
        rw [if_neg (by simp), if_neg (by simp)]
        split
        · first | exact ⟨_, rfl, fun _ => hK⟩ | exact ⟨_, by rw [if_pos hl], fun _ => hK⟩
        · split
          · obtain ⟨S, hS⟩ := numbersS_ne (lo := b.lo) (hi := b.hi) hl
            exact ⟨S, hS, fun hn z hz => hK z (numbersS_sub hS hn z hz)⟩
          · split
            · obtain ⟨S, hS⟩ := numbersS_ne (lo := a.lo) (hi := a.hi) hl
              exact ⟨S, hS, fun hn z hz => hK z (numbersS_sub hS hn z hz)⟩
            · obtain ⟨S, hS⟩ := numbersS_ne (lo := max a.lo b.lo) (hi := min a.hi b.hi) hl
              exact ⟨S, hS, fun hn z hz => hK z (numbersS_sub hS hn z hz)⟩
  obtain ⟨N, hN1, hN2⟩ := hN
  rcases meet_spec ca cb with ⟨h, _⟩ | ⟨S, _, h2, h3, h4, h5⟩
  · rw [hN1] at h; simp at h
  · refine ⟨S, h2, ?_, h3, h4, h5⟩
    unfold meetS at h2
    rw [if_neg (by rw [checkE_0 ca]; simp), if_neg (by rw [checkE_0 cb]; simp), hN1] at h2
    simp only [Prod.mk.injEq, and_true] at h2
    subst h2
    exact hN2
structure InvO (U : List Str) (P : List ReqV) (out : List KeyV) : Prop where
  ord : OrdK out
  chk : ∀ x ∈ out, CheckP x.s
  sub : ∀ x ∈ out, x.s.n = true → ∀ z ∈ x.s.l, z ∈ U
  m : ∀ x ∈ out, x.s.m = P.all fun r => decide (r.key ≠ x.k) || (ofSet r).m
  h : ∀ x ∈ out, ∀ v, valueB v = true → hasRaw x.s v = P.all fun r => decide (r.key ≠ x.k) || hasRaw (ofSet r) v
  ks : ∀ k, (∃ x ∈ out, x.k = k) ↔ ∃ r ∈ P, r.key = k
theorem all_away {P : List ReqV} {k : Str} {f : ReqV → Bool} (h : ∀ r ∈ P, r.key ≠ k) : (P.all fun r => decide (r.key ≠ k) || f r) = true := by
  rw [List.all_eq_true]
  intro r hr
  simp [h r hr]
theorem setsF_inv {U : List Str} (hU : U.length ≤ 64) : ∀ (l P : List ReqV) (out : List KeyV), InvO U P out → (∀ r ∈ l, wrongE r = 0 ∧ ((ofSet r).n = true → ∀ z ∈ (ofSet r).l, z ∈ U)) → ∃ out', setsF out l = (out', 0) ∧ InvO U (P ++ l) out'
  | [], P, out, I, _ => ⟨out, rfl, by rw [List.append_nil]; exact I⟩
  | r :: l, P, out, I, hl => by
    have hr := hl r (by simp)
    have cr := ofSet_check hr.1
    unfold setsF
    rw [show P ++ r :: l = (P ++ [r]) ++ l by simp]
    cases hf : out.find? (fun x => decide (x.k = r.key)) with
    | some x =>
      have hx := List.mem_of_find?_eq_some hf
      have hk : x.k = r.key := by simpa using List.find?_some hf
      obtain ⟨S, h1, h2, h3, h4, h5⟩ := meet_some (I.chk x hx) cr (I.sub x hx) hr.2 hU
      simp only [h1, if_true]
      refine setsF_inv hU l (P ++ [r]) _ ?_ fun q hq => hl q (by simp [hq])
      have hcase : ∀ y ∈ setK r.key S out, y = ⟨r.key, S⟩ ∨ (y ∈ out ∧ y.k ≠ r.key) := fun y hy => by
        unfold setK at hy
        obtain ⟨z, hz, rfl⟩ := List.mem_map.1 hy
        by_cases e : z.k = r.key
        · left; rw [if_pos e]
        · right; rw [if_neg e]; exact ⟨hz, e⟩
      refine ⟨setK_ord I.ord, fun y hy => ?_, fun y hy => ?_, fun y hy => ?_, fun y hy v hv => ?_, fun k => ?_⟩
      · rcases hcase y hy with rfl | ⟨h, _⟩
        · exact h3
        · exact I.chk y h
      · rcases hcase y hy with rfl | ⟨h, _⟩
        · exact h2
        · exact I.sub y h
      · rcases hcase y hy with rfl | ⟨h, hne⟩
        · rw [List.all_append, h4, I.m x hx, hk]
          simp
        · rw [List.all_append, I.m y h]
          have : r.key ≠ y.k := fun e => hne e.symm
          simp [this]
      · rcases hcase y hy with rfl | ⟨h, hne⟩
        · rw [List.all_append, h5 v hv, I.h x hx v hv, hk]
          simp
        · rw [List.all_append, I.h y h v hv]
          have : r.key ≠ y.k := fun e => hne e.symm
          simp [this]
      · have e1 : (∃ y ∈ setK r.key S out, y.k = k) ↔ ∃ y ∈ out, y.k = k := by
          have h6 := setK_keys r.key S out
          have h7 : ∀ L : List KeyV, (∃ y ∈ L, y.k = k) ↔ k ∈ L.map (·.k) := fun L => by rw [List.mem_map]
          rw [h7, h7, h6]
        rw [e1, I.ks k]
        constructor
        · rintro ⟨q, hq, e⟩; exact ⟨q, by simp [hq], e⟩
        · rintro ⟨q, hq, e⟩
          rcases List.mem_append.1 hq with hq | hq
          · exact ⟨q, hq, e⟩
          · simp only [List.mem_cons, List.not_mem_nil, or_false] at hq
            subst hq
            rw [← e]
            exact (I.ks q.key).1 ⟨x, hx, hk⟩
    | none =>
      have hno : ∀ y ∈ out, y.k ≠ r.key := fun y hy e => by
        have := List.find?_eq_none.1 hf y hy
        simp [e] at this
      have hP : ∀ q ∈ P, q.key ≠ r.key := fun q hq e => by
        obtain ⟨y, hy, e2⟩ := (I.ks r.key).2 ⟨q, hq, e⟩
        exact hno y hy e2
      simp only
      refine setsF_inv hU l (P ++ [r]) _ ?_ fun q hq => hl q (by simp [hq])
      have hcase : ∀ y ∈ insK ⟨r.key, ofSet r⟩ out, y = ⟨r.key, ofSet r⟩ ∨ y ∈ out := fun y hy => List.mem_cons.1 ((insK_perm _ _).mem_iff.1 hy)
      refine ⟨insK_ord I.ord hno, fun y hy => ?_, fun y hy => ?_, fun y hy => ?_, fun y hy v hv => ?_, fun k => ?_⟩
      · rcases hcase y hy with rfl | h
        · exact cr
        · exact I.chk y h
      · rcases hcase y hy with rfl | h
        · exact hr.2
        · exact I.sub y h
      · rcases hcase y hy with rfl | h
        · rw [List.all_append, all_away hP]
          simp
        · rw [List.all_append, I.m y h]
          have : r.key ≠ y.k := fun e => hno y h e.symm
          simp [this]
      · rcases hcase y hy with rfl | h
        · rw [List.all_append, all_away hP]
          simp
        · rw [List.all_append, I.h y h v hv]
          have : r.key ≠ y.k := fun e => hno y h e.symm
          simp [this]
      · constructor
        · rintro ⟨y, hy, e⟩
          rcases hcase y hy with rfl | h
          · exact ⟨r, by simp, e⟩
          · obtain ⟨q, hq, e2⟩ := (I.ks k).1 ⟨y, h, e⟩
            exact ⟨q, by simp [hq], e2⟩
        · rintro ⟨q, hq, e⟩
          rcases List.mem_append.1 hq with hq | hq
          · obtain ⟨y, hy, e2⟩ := (I.ks k).2 ⟨q, hq, e⟩
            exact ⟨y, (insK_perm _ _).mem_iff.2 (by simp [hy]), e2⟩
          · simp only [List.mem_cons, List.not_mem_nil, or_false] at hq
            subst hq
            exact ⟨⟨q.key, ofSet q⟩, (insK_perm _ _).mem_iff.2 (by simp), e⟩
theorem inv_eq {U : List Str} {P P' : List ReqV} {a b : List KeyV} (h : ∀ r, r ∈ P ↔ r ∈ P') (I : InvO U P a) (J : InvO U P' b) : a = b := by
  have hall : ∀ f : ReqV → Bool, P.all f = P'.all f := fun f => by
    rw [Bool.eq_iff_iff, List.all_eq_true, List.all_eq_true]
    exact ⟨fun k r hr => k r ((h r).2 hr), fun k r hr => k r ((h r).1 hr)⟩
  have hks : ∀ k, (∃ x ∈ a, x.k = k) ↔ ∃ x ∈ b, x.k = k := fun k => by
    rw [I.ks k, J.ks k]
    exact ⟨fun ⟨r, hr, e⟩ => ⟨r, (h r).1 hr, e⟩, fun ⟨r, hr, e⟩ => ⟨r, (h r).2 hr, e⟩⟩
  have same : ∀ x ∈ a, ∀ y ∈ b, x.k = y.k → x = y := fun x hx y hy e => by
    have : x.s = y.s := canon (I.chk x hx) (J.chk y hy) (by rw [I.m x hx, J.m y hy, hall, e]) fun v hv => by rw [I.h x hx v hv, J.h y hy v hv, hall, e]
    obtain ⟨xk, xs⟩ := x
    obtain ⟨yk, ys⟩ := y
    simp only at e this
    rw [e, this]
  have nd : ∀ {l : List KeyV}, OrdK l → l.Nodup := fun {l} ho => by
    exact List.Pairwise.imp (fun hab e => by subst e; exact List.lt_irrefl _ hab) ho
  refine ordK_eq ((List.perm_ext_iff_of_nodup (nd I.ord) (nd J.ord)).2 fun x => ?_) I.ord J.ord
  constructor
  · intro hx
    obtain ⟨y, hy, e⟩ := (hks x.k).1 ⟨x, hx, rfl⟩
    rw [same x hx y hy e.symm]; exact hy
  · intro hx
    obtain ⟨y, hy, e⟩ := (hks x.k).2 ⟨x, hx, rfl⟩
    rw [← same y hy x hx e]; exact hy
def backL (l : List ReqV) : List ReqV := l.reverse ++ l
theorem back_mem {l : List ReqV} (r : ReqV) : r ∈ backL l ↔ r ∈ l := by unfold backL; simp
theorem back_all {l : List ReqV} (f : ReqV → Bool) : (backL l).all f = l.all f := by
  rw [Bool.eq_iff_iff, List.all_eq_true, List.all_eq_true]
  exact ⟨fun k r hr => k r ((back_mem r).2 hr), fun k r hr => k r ((back_mem r).1 hr)⟩
theorem reqs_of {n : Nat} {l : List ReqV} (hl : l.length ≤ n) (h : ∀ r ∈ l, wrongE r = 0) : reqsE n l = 0 := by
  unfold reqsE tooE
  rw [if_neg (by omega)]
  exact scan_at.2 h
theorem reqs_back {l : List ReqV} (h : reqsE 8 l = 0) : reqsE 16 (backL l) = 0 ∧ reqsE 16 l = 0 := by
  have h1 := reqs_len h
  have h2 := reqs_wrong h
  exact ⟨reqs_of (by unfold backL; simp; omega) fun r hr => h2 r ((back_mem r).1 hr), reqs_of (by omega) h2⟩
theorem reqs_both {a b : List ReqV} (ha : reqsE 8 a = 0) (hb : reqsE 8 b = 0) : reqsE 16 (a ++ b) = 0 := by
  have h1 := reqs_len ha
  have h2 := reqs_len hb
  refine reqs_of (by simp; omega) fun r hr => ?_
  rcases List.mem_append.1 hr with hr | hr
  · exact reqs_wrong ha r hr
  · exact reqs_wrong hb r hr
theorem adm_back {a : List ReqV} (ha : reqsE 8 a = 0) (L : List LabV) : admE (backL a) L = admE a L := by
  unfold admE
  rw [(reqs_back ha).1, (reqs_back ha).2, back_all]
theorem adm_both {a b : List ReqV} (ha : reqsE 8 a = 0) (hb : reqsE 8 b = 0) (L : List LabV) : (admE a L).2 = labsE L ∧ (admE b L).2 = labsE L ∧ (admE (a ++ b) L).2 = labsE L ∧ (admE (a ++ b) L).1 = ((admE a L).1 && (admE b L).1) := by
  unfold admE
  simp only [(reqs_back ha).2, (reqs_back hb).2, reqs_both ha hb, ne_eq, not_true_eq_false, if_false]
  by_cases h : labsE L = 0
  · simp [h, List.all_append]
  · simp [h]
noncomputable def valsU (a : List ReqV) : List Str := a.flatMap fun r => if (ofSet r).n = true then (ofSet r).l else []
theorem ofSet_few {r : ReqV} (h : wrongE r = 0) (hn : (ofSet r).n = true) : (ofSet r).l.length ≤ 8 := by
  have h8 := (wrongE_0 h).2.2.1
  have hr := risingS_len r.l
  unfold ofSet at hn ⊢
  rw [if_pos h] at hn ⊢
  unfold ofS at hn ⊢
  have num : ∀ lo hi, ((numbersS lo hi []).getD zeroS).n = true → ((numbersS lo hi []).getD zeroS).l.length ≤ 8 := fun lo hi hn => by
    obtain ⟨S, hS⟩ := numbersS_nil lo hi
    rw [hS] at hn ⊢
    simp only [Option.getD_some] at hn ⊢
    have := numbersS_sub hS hn
    cases hl : S.l with
    | nil => simp
    | cons z _ => have := this z (by rw [hl]; simp); simp at this
  split
  · simp only; omega
  split
  · simp only; omega
  split
  · simp
  split
  · simp
  rename_i e1 e2 e3 e4
  rw [if_neg e1, if_neg e2, if_neg e3, if_neg e4] at hn
  split
  · rename_i e5
    rw [if_pos e5] at hn
    exact num _ _ hn
  · rename_i e5
    rw [if_neg e5] at hn
    exact num _ _ hn
theorem valsU_len {a : List ReqV} (h : ∀ r ∈ a, wrongE r = 0) : (valsU a).length ≤ 8 * a.length := by
  unfold valsU
  induction a with
  | nil => simp
  | cons r a ih =>
    have := ih fun q hq => h q (by simp [hq])
    rw [List.flatMap_cons, List.length_append, List.length_cons]
    have h8 : (if (ofSet r).n = true then (ofSet r).l else []).length ≤ 8 := by
      split
      · exact ofSet_few (h r (by simp)) ‹_›
      · simp
    omega
theorem inv_nil (U : List Str) : InvO U [] [] := ⟨by simp [OrdK], by simp, by simp, by simp, by simp, by simp⟩
theorem sets_back {a : List ReqV} (ha : reqsE 8 a = 0) : setsE (backL a) = setsE a ∧ (setsE a).2 = 0 := by
  have h1 := reqs_len ha
  have h2 := reqs_wrong ha
  have hU : (valsU a).length ≤ 64 := by have := valsU_len h2; omega
  have hmem : ∀ r ∈ a, wrongE r = 0 ∧ ((ofSet r).n = true → ∀ z ∈ (ofSet r).l, z ∈ valsU a) := fun r hr => ⟨h2 r hr, fun hn z hz => by
    unfold valsU
    rw [List.mem_flatMap]
    exact ⟨r, hr, by rw [if_pos hn]; exact hz⟩⟩
  obtain ⟨x, hx, ix⟩ := setsF_inv hU a [] [] (inv_nil _) hmem
  obtain ⟨y, hy, iy⟩ := setsF_inv hU (backL a) [] [] (inv_nil _) fun r hr => hmem r ((back_mem r).1 hr)
  unfold setsE
  rw [(reqs_back ha).1, (reqs_back ha).2, if_neg (by simp), if_neg (by simp), hx, hy]
  rw [List.nil_append] at ix iy
  rw [inv_eq (fun r => (back_mem r).symm) ix iy]
  exact ⟨rfl, rfl⟩
end Go.Proofs.AM
