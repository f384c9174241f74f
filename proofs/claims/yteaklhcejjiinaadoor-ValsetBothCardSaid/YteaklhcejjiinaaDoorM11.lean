/- Part 11 of the lemmas: VWa, PVi, VWb, VWc. -/
import Derived.Test.YteaklhcejjiinaaDoorM08
import Derived.Test.YteaklhcejjiinaaDoorM10
namespace Go.Proofs.AM
open Go Go.Lib Cd
theorem CheckP.fs {s : SetV} (h : CheckP s) : FS s := by
  refine ⟨⟨by have := h.ord.1; omega, fun z hz => by have := value_len (h.val hz); unfold SL; omega⟩, ?_, ?_⟩ <;>
  · unfold FI
    cases hu : s.u with
    | false => have := h.nu hu; omega
    | true => have := h.u hu; unfold least most at this; omega
theorem fs_zero : FS zeroS := ⟨⟨by simp [zeroS], by simp [zeroS]⟩, ⟨by decide, by decide⟩, ⟨by decide, by decide⟩⟩
theorem meet_fs (a b : SetV) : FS (meetS a b).1 := by
  by_cases ca : CheckP a
  · by_cases cb : CheckP b
    · rcases meet_spec ca cb with ⟨_, h⟩ | ⟨S, _, h, c, _⟩
      · rw [h]; exact fs_zero
      · rw [h]; exact c.fs
    · unfold meetS
      rw [if_neg (by rw [checkE_0 ca]; simp), if_pos (by rw [checkE_1 cb]; simp)]
      exact fs_zero
  · unfold meetS
    rw [if_pos (by rw [checkE_1 ca]; simp)]
    exact fs_zero
set_option maxRecDepth 100000 in
set_option maxHeartbeats 8000000 in
theorem turns9_ok (R : Ans) (h : C3 R) (a b c : SetV) (ha : FS a) (hb : FS b) (hc : FS c) : AnsF R c9 [setD a, setD b, setD c] (.bool true) := by
  have k1 := h.check23 a ha
  have k2 := h.check23 b hb
  have k3 := h.check23 c hc
  have ca : checkE a = 0 → CheckP a := checkE_iff.1
  have cb : checkE b = 0 → CheckP b := checkE_iff.1
  have cc : checkE c = 0 → CheckP c := checkE_iff.1
  obtain ⟨ea, hea⟩ : ∃ e, e = checkE a := ⟨_, rfl⟩
  obtain ⟨eb, heb⟩ : ∃ e, e = checkE b := ⟨_, rfl⟩
  obtain ⟨ec, hec⟩ : ∃ e, e = checkE c := ⟨_, rfl⟩
  rw [← hea] at k1 ca
  rw [← heb] at k2 cb
  rw [← hec] at k3 cc
  clear hea heb hec
  have k0 := h.live14
  obtain ⟨ab, e1, hab⟩ : ∃ S e, meetS a b = (S, e) := ⟨_, _, rfl⟩
  obtain ⟨bc, e2, hbc⟩ : ∃ S e, meetS b c = (S, e) := ⟨_, _, rfl⟩
  have fab : FS ab := by have := meet_fs a b; rw [hab] at this; exact this
  have fbc : FS bc := by have := meet_fs b c; rw [hbc] at this; exact this
  obtain ⟨x, e3, hx⟩ : ∃ S e, meetS ab c = (S, e) := ⟨_, _, rfl⟩
  obtain ⟨y, e4, hy⟩ : ∃ S e, meetS a bc = (S, e) := ⟨_, _, rfl⟩
  have fx : FS x := by have := meet_fs ab c; rw [hx] at this; exact this
  have fy : FS y := by have := meet_fs a bc; rw [hy] at this; exact this
  have m1 := h.meet24 a b ha hb
  rw [hab] at m1
  have m2 : ea = 0 → eb = 0 → R.v 24 [setD b, setD a] (.tup [setD ab, .int .i64 e1]) := fun h1 h2 => by
    have := h.meet24 b a hb ha
    rwa [← meet_comm (ca h1) (cb h2), hab] at this
  have m3 : ea = 0 → R.v 24 [setD a, setD a] (.tup [setD a, .int .i64 0]) := fun h1 => by
    have := h.meet24 a a ha ha
    rwa [meet_self (ca h1)] at this
  have m4 := h.meet24 b c hb hc
  rw [hbc] at m4
  have m5 := h.meet24 ab c fab hc
  rw [hx] at m5
  have m6 := h.meet24 a bc ha fbc
  rw [hy] at m6
  have s1 := h.same21 ab ab fab fab
  have s2 := h.same21 a a ha ha
  have s3 := h.same21 x y fx fy
  rw [decide_eq_true rfl] at s1 s2
  obtain ⟨q, hq⟩ : ∃ q, q = decide (x = y) := ⟨_, rfl⟩
  rw [← hq] at s3
  have hfin : ea = 0 → eb = 0 → ec = 0 → e1 = 0 → e2 = 0 → e3 = 0 → e4 = 0 → q = true := fun h1 h2 h3 h4 h5 h6 h7 => by
    rw [hq, decide_eq_true_eq]
    subst h4 h5 h6 h7
    exact meet_assoc (ca h1) (cb h2) (cc h3) hab hbc hx hy
  clear hq hab hbc hx hy fab fbc fx fy ca cb cc ha hb hc h
  obtain ⟨x1, _, c1, d1⟩ := setD_eq a
  obtain ⟨x2, _, c2, d2⟩ := setD_eq b
  obtain ⟨x3, _, c3, d3⟩ := setD_eq c
  obtain ⟨x4, _, c4, d4⟩ := setD_eq ab
  obtain ⟨x5, _, c5, d5⟩ := setD_eq bc
  obtain ⟨x6, _, c6, d6⟩ := setD_eq x
  obtain ⟨x7, _, c7, d7⟩ := setD_eq y
  simp only [d1, d2, d3, d4, d5, d6, d7] at k1 k2 k3 m1 m2 m3 m4 m5 m6 s1 s2 s3 ⊢
  clear d1 d2 d3 d4 d5 d6 d7
  refine wpF_sound ⟨rfl, by decide⟩ fun O hO V hV => ?_
  subst hV
  conv => cbv
  refine ⟨c1, _, k1, ?_⟩
  conv => cbv
  rintro (_ | _) h1
  · replace h1 := f_neq hO h1
    conv => cbv
    refine ⟨c2, _, k2, ?_⟩
    conv => cbv
    rintro (_ | _) h2
    · replace h2 := f_neq hO h2
      conv => cbv
      refine ⟨c3, _, k3, ?_⟩
      conv => cbv
      rintro (_ | _) h3
      · replace h3 := f_neq hO h3
        conv => cbv
        refine ⟨c1, c2, _, m1, ?_⟩
        conv => cbv
        refine ⟨c2, c1, _, m2 h1 h2, ?_⟩
        conv => cbv
        refine ⟨c1, c1, _, m3 h1, ?_⟩
        conv => cbv
        rintro (_ | _) h4
        · conv => cbv
          refine ⟨c4, c4, _, s1, ?_⟩
          conv => cbv
          rintro (_ | _) h5
          · conv => cbv
            refine ⟨c1, c1, _, s2, ?_⟩
            conv => cbv
            refine ⟨c2, c3, _, m4, ?_⟩
            conv => cbv
            rintro (_ | _) h6
            · replace h6 := f_neq hO h6
              conv => cbv
              rintro (_ | _) h7
              · replace h7 := f_neq hO h7
                conv => cbv
                refine ⟨c4, c3, _, m5, ?_⟩
                conv => cbv
                refine ⟨c1, c5, _, m6, ?_⟩
                conv => cbv
                refine ⟨_, k0, ?_⟩
                conv => cbv
                rintro (_ | _) h8
                · replace h8 := f_neq hO h8
                  conv => cbv
                  rintro (_ | _) h9
                  · replace h9 := f_neq hO h9
                    conv => cbv
                    refine ⟨c6, c7, _, s3, ?_⟩
                    rw [hfin h1 h2 h3 h6 h7 h8 h9]
                    conv => cbv
                    trivial
                  · conv => cbv
                    trivial
                · conv => cbv
                  trivial
              · conv => cbv
                refine ⟨_, k0, ?_⟩
                conv => cbv
                trivial
            · conv => cbv
              refine ⟨_, k0, ?_⟩
              conv => cbv
              trivial
          · conv => cbv
            exfalso; exact t_neq hO h5 rfl
        · conv => cbv
          exfalso; exact t_neq hO h4 rfl
      · conv => cbv
        refine ⟨_, k0, ?_⟩
        conv => cbv
        trivial
    · conv => cbv
      refine ⟨_, k0, ?_⟩
      conv => cbv
      trivial
  · conv => cbv
    refine ⟨_, k0, ?_⟩
    conv => cbv
    trivial
end Go.Proofs.AM
namespace Go.Proofs.AM
open Go Go.Lib
open Classical in
noncomputable def wantB (q : ReqV) (v : Str) : Bool :=
  if q.op = 1 then decide (v ∈ q.l) else if q.op = 2 then valueB v && !decide (v ∈ q.l) else if q.op = 3 then valueB v
  else if q.op = 5 then decide (∃ n, numS v = some n ∧ q.n < n) else if q.op = 6 then decide (∃ n, numS v = some n ∧ n < q.n) else false
theorem num_range {v : Str} {n : Int} (h : numS v = some n) : least ≤ n ∧ n ≤ most := (numS_iff.1 h).2
theorem of_nums {q : ReqV} {lo hi : Int} (h1 : least ≤ lo) (h2 : hi ≤ most) {S : SetV} (hS : (numbersS lo hi []).getD zeroS = S) :
    CheckP S ∧ S.m = false ∧ ∀ v, hasB S v = true ↔ ∃ n, numS v = some n ∧ lo ≤ n ∧ n ≤ hi := by
  obtain ⟨T, hT⟩ := numbersS_nil lo hi
  rw [hT] at hS
  obtain rfl : T = S := hS
  obtain ⟨c, m, r⟩ := numbersS_spec h1 h2 hT
  refine ⟨c, m, fun v => ?_⟩
  rw [hasB_raw c, Bool.and_eq_true, r]
  constructor
  · rintro ⟨_, _, h⟩; exact h
  · rintro ⟨n, h⟩; exact ⟨value_num h.1, by simp, n, h⟩
theorem of_spec {q : ReqV} (hw : wrongE q = 0) : CheckP (ofS q) ∧ ((ofS q).m = true ↔ q.op = 2 ∨ q.op = 4) ∧ ∀ v, hasB (ofS q) v = wantB q v := by
  obtain ⟨_, hb, hl, hv, hn⟩ := wrongE_0 hw
  unfold BadOp at hb
  have hord : OrdP (risingS q.l) := ⟨by rw [risingS_len_eq hn]; omega, fun j x hx => hv x (risingS_mem.1 (List.mem_of_getElem? hx)), (risingS_rises _).adj⟩
  have hval : ∀ v, v ∈ q.l → valueB v = true := hv
  by_cases h1 : q.op = 1
  · have e : ofS q = ⟨false, false, false, risingS q.l, 0, 0⟩ := by unfold ofS; rw [if_pos h1]
    have c : CheckP (⟨false, false, false, risingS q.l, 0, 0⟩ : SetV) := ⟨hord, by simp, by simp, by simp⟩
    rw [e]
    refine ⟨c, by simp; omega, fun v => ?_⟩
    rw [hasB_raw c]
    unfold wantB
    rw [if_pos h1]
    apply bool_eq
    rw [Bool.and_eq_true, hasRaw_iff]
    simp only [Bool.false_eq_true, false_iff, Decidable.not_not, false_imp_iff, and_true, risingS_mem, decide_eq_true_eq]
    exact ⟨fun h => h.2, fun h => ⟨hval v h, h⟩⟩
  by_cases h2 : q.op = 2
  · have e : ofS q = ⟨true, true, false, risingS q.l, 0, 0⟩ := by unfold ofS; rw [if_neg h1, if_pos h2]
    have c : CheckP (⟨true, true, false, risingS q.l, 0, 0⟩ : SetV) := ⟨hord, by simp, by simp, by simp⟩
    rw [e]
    refine ⟨c, by simp [h2], fun v => ?_⟩
    rw [hasB_raw c]
    unfold wantB
    rw [if_neg h1, if_pos h2]
    congr 1
    apply bool_eq
    rw [hasRaw_iff]
    simp [risingS_mem]
  by_cases h3 : q.op = 3
  · have e : ofS q = ⟨false, true, false, [], 0, 0⟩ := by unfold ofS; rw [if_neg h1, if_neg h2, if_pos h3]
    have c : CheckP (⟨false, true, false, [], 0, 0⟩ : SetV) := ⟨ord_nil, by simp, by simp, by simp⟩
    rw [e]
    refine ⟨c, by simp; omega, fun v => ?_⟩
    rw [hasB_raw c]
    unfold wantB
    rw [if_neg h1, if_neg h2, if_pos h3]
    simp [hasRaw]
  by_cases h4 : q.op = 4
  · have e : ofS q = ⟨true, false, false, [], 0, 0⟩ := by unfold ofS; rw [if_neg h1, if_neg h2, if_neg h3, if_pos h4]
    have c : CheckP (⟨true, false, false, [], 0, 0⟩ : SetV) := ⟨ord_nil, by simp, by simp, by simp⟩
    rw [e]
    refine ⟨c, by simp [h4], fun v => ?_⟩
    rw [hasB_raw c]
    unfold wantB
    rw [if_neg h1, if_neg h2, if_neg h3, if_neg (by omega), if_neg (by omega)]
    simp [hasRaw]
  by_cases h5 : q.op = 5
  · have e : ofS q = (numbersS (q.n + 1) most []).getD zeroS := by unfold ofS; rw [if_neg h1, if_neg h2, if_neg h3, if_neg h4, if_pos h5]
    obtain ⟨c, m, r⟩ := of_nums (q := q) (lo := q.n + 1) (hi := most) (by unfold least; omega) (by omega) e.symm
    refine ⟨c, by rw [m]; simp; omega, fun v => ?_⟩
    unfold wantB
    rw [if_neg h1, if_neg h2, if_neg h3, if_pos h5]
    apply bool_eq
    rw [r, decide_eq_true_eq]
    constructor
    · rintro ⟨n, h6, h7, h8⟩; exact ⟨n, h6, by omega⟩
    · rintro ⟨n, h6, h7⟩; exact ⟨n, h6, by omega, (num_range h6).2⟩
  · have e : ofS q = (numbersS least (q.n - 1) []).getD zeroS := by unfold ofS; rw [if_neg h1, if_neg h2, if_neg h3, if_neg h4, if_neg h5]
    obtain ⟨c, m, r⟩ := of_nums (q := q) (lo := least) (hi := q.n - 1) (by omega) (by unfold most; omega) e.symm
    refine ⟨c, by rw [m]; simp; omega, fun v => ?_⟩
    unfold wantB
    rw [if_neg h1, if_neg h2, if_neg h3, if_neg h5, if_pos (by omega)]
    apply bool_eq
    rw [r, decide_eq_true_eq]
    constructor
    · rintro ⟨n, h6, h7, h8⟩; exact ⟨n, h6, by omega⟩
    · rintro ⟨n, h6, h7⟩; exact ⟨n, h6, (num_range h6).1, by omega⟩
end Go.Proofs.AM
namespace Go.Proofs.AM
open Go Go.Lib Cd
theorem take_mem {l : List Str} {k : Nat} {y v : Str} (h : l[k]? = some y) : v ∈ l.take (k + 1) ↔ v ∈ l.take k ∨ v = y := by
  rw [List.take_add_one, h]
  simp
set_option maxRecDepth 100000 in
set_option maxHeartbeats 8000000 in
theorem admits8_ok (R : Ans) (h : C3 R) (q : ReqV) (v : Str) (hq : FR q) (hv : SL v) : AnsF R c8 [reqD q, mkS v] (.bool true) := by
  have k1 := h.of12 q hq
  have k0 := h.live14
  obtain ⟨nv, nb, hnum⟩ := NumR.ex v
  have k2 := h.number13 v hv nv nb hnum
  have k3 := h.value19 v hv
  have s0 := h.same21 zeroS zeroS fs_zero fs_zero
  rw [decide_eq_true rfl] at s0
  have hs := fun hw : wrongE q = 0 => of_spec hw
  have hset : wrongE q = 0 → ofSet q = ofS q := fun hw => by unfold ofSet; rw [if_pos hw]
  have hset' : wrongE q ≠ 0 → ofSet q = zeroS := fun hw => by unfold ofSet; rw [if_neg hw]
  have k4 : wrongE q = 0 → R.v 26 [setD (ofSet q), mkS v] (.bool (wantB q v)) := fun hw => by
    obtain ⟨c, _, hh⟩ := hs hw
    have := h.has26 (ofS q) v c.fs hv
    rw [hh] at this
    rw [hset hw]
    exact this
  have k5 : wrongE q = 0 → R.v 23 [setD (ofSet q)] (.int .i64 0) := fun hw => by
    obtain ⟨c, _, _⟩ := hs hw
    have := h.check23 (ofS q) c.fs
    rw [checkE_0 c] at this
    rw [hset hw]
    exact this
  have hm : wrongE q = 0 → ((ofSet q).m = true ↔ q.op = 2 ∨ q.op = 4) := fun hw => by rw [hset hw]; exact (hs hw).2.1
  have s1 : wrongE q ≠ 0 → R.v 21 [setD (ofSet q), setD zeroS] (.bool true) := fun hw => by rw [hset' hw]; exact s0
  obtain ⟨W, hW⟩ : ∃ W, W = wantB q v := ⟨_, rfl⟩
  rw [← hW] at k4
  unfold wantB at hW
  have hnp : (∃ m, numS v = some m ∧ q.n < m) ↔ nb = true ∧ q.n < nv := by
    rcases hnum with ⟨e, h1⟩ | ⟨e, _, h1⟩
    · rw [h1, e]; simp
    · rw [h1, e]; simp
  have hnq : (∃ m, numS v = some m ∧ m < q.n) ↔ nb = true ∧ nv < q.n := by
    rcases hnum with ⟨e, h1⟩ | ⟨e, _, h1⟩
    · rw [h1, e]; simp
    · rw [h1, e]; simp
  simp only [hnp, hnq] at hW
  obtain ⟨vb, hvb⟩ : ∃ b, b = valueB v := ⟨_, rfl⟩
  rw [← hvb] at k3 hW
  obtain ⟨S, hS⟩ : ∃ S, S = ofSet q := ⟨_, rfl⟩
  rw [← hS] at k1 k4 k5 hm s1
  obtain ⟨e, he⟩ : ∃ e, e = wrongE q := ⟨_, rfl⟩
  rw [← he] at k1 k4 k5 hm s1
  have hl1 := hq.l.len
  clear h hq hnum hs hset hset' s0 hvb hS he hnp hnq
  obtain ⟨key, op, l, n⟩ := q
  unfold reqD at k1 ⊢
  simp only at k1 hW hm hl1 ⊢
  obtain ⟨xs, hxs⟩ : ∃ xs, xs = l.map mkS := ⟨_, rfl⟩
  have hcx : CleanL xs := cleanL_map clean_S hxs
  rw [← hxs] at k1 ⊢
  obtain ⟨sm, sn, su, sl, slo, shi⟩ := S
  obtain ⟨ss, hss⟩ : ∃ ss, ss = sl.map mkS := ⟨_, rfl⟩
  have hcs : CleanL ss := cleanL_map clean_S hss
  simp only [setD, ← hss, zeroS, List.map_nil] at k1 k4 k5 s1
  simp only at hm
  refine wpF_sound ⟨rfl, by decide⟩ fun O hO V hV => ?_
  subst hV
  have hlen : O .len xs = l.length := by rw [o_len hO, hxs]; simp
  conv => cbv
  refine ⟨hcx, _, k1, ?_⟩
  conv => cbv
  rintro (_ | _) h1
  · replace h1 := f_neq hO h1
    have k4 := k4 h1
    have k5 := k5 h1
    have hm := hm h1
    clear s1
    conv => cbv
    refine loop_of (fun c d => ∃ (i : Int) (k : Nat) (b : Bool), d = ⟨[(1, mkS v), (2, .ptr 2 1 0), (5, .ptr 5 1 0), (7, .bool b), (8, .int .i64 i)], [(2, ⟨1, .rw, .var, [mkS key, .int .i64 op, .sl 1 false xs, .int .i64 n]⟩), (5, ⟨1, .rw, .var, [.bool sm, .bool sn, .bool su, .sl 1 false ss, .int .i64 slo, .int .i64 shi]⟩)], false⟩ ∧ i = k ∧ k ≤ l.length ∧ c = l.length - k ∧ b = decide (v ∈ l.take k)) ⟨_, _, ⟨_, 0, false, rfl, rfl, by omega, rfl, by simp⟩, ⟨⟨rfl, rfl, rfl, rfl, rfl, trivial⟩, ⟨rfl, rfl, trivial⟩, rfl⟩⟩ ?_
    rintro J up c d ⟨i, k, b, rfl, hi, hk, rfl, hb⟩
    conv => cbv
    rintro (_ | _) h2
    · replace h2 := f_lss hO h2
      rw [hlen] at h2
      have hb : b = decide (v ∈ l) := by rw [hb, List.take_of_length_le (by omega)]
      rw [← hb] at hW
      conv => cbv
      refine ⟨_, k2, ?_⟩
      conv => cbv
      refine ⟨_, k3, ?_⟩
      conv => cbv
      refine join_of (fun d => ∃ w : Bool, d = ⟨[(1, mkS v), (2, .ptr 2 1 0), (5, .ptr 5 1 0), (12, .bool w)], [(2, ⟨1, .rw, .var, [mkS key, .int .i64 op, .sl 1 false xs, .int .i64 n]⟩), (5, ⟨1, .rw, .var, [.bool sm, .bool sn, .bool su, .sl 1 false ss, .int .i64 slo, .int .i64 shi]⟩)], false⟩ ∧ w = W) (fun M upm => ?_) ?_
      · conv => cbv
        rintro (_ | _) g1
        · replace g1 := f_eql hO g1
          rw [if_neg g1] at hW
          conv => cbv
          rintro (_ | _) g2
          · replace g2 := f_eql hO g2
            rw [if_neg g2] at hW
            conv => cbv
            rintro (_ | _) g3
            · replace g3 := f_eql hO g3
              rw [if_neg g3] at hW
              conv => cbv
              rintro (_ | _) g5
              · replace g5 := f_eql hO g5
                rw [if_neg g5] at hW
                conv => cbv
                rintro (_ | _) g6
                · replace g6 := f_eql hO g6
                  rw [if_neg g6] at hW
                  conv => cbv
                  exact ⟨_, upm _ ⟨_, rfl, hW.symm⟩, ⟨⟨rfl, rfl, rfl, rfl, trivial⟩, ⟨rfl, rfl, trivial⟩, rfl⟩⟩
                · replace g6 := t_eql hO g6
                  rw [if_pos g6] at hW
                  cases nb with
                  | false =>
                    conv => cbv
                    exact ⟨_, upm _ ⟨_, rfl, by simp [hW]⟩, ⟨⟨rfl, rfl, rfl, rfl, trivial⟩, ⟨rfl, rfl, trivial⟩, rfl⟩⟩
                  | true =>
                    conv => cbv
                    rintro (_ | _) g7
                    · replace g7 := f_lss hO g7
                      conv => cbv
                      exact ⟨_, upm _ ⟨_, rfl, by rw [hW]; simp; omega⟩, ⟨⟨rfl, rfl, rfl, rfl, trivial⟩, ⟨rfl, rfl, trivial⟩, rfl⟩⟩
                    · replace g7 := t_lss hO g7
                      conv => cbv
                      exact ⟨_, upm _ ⟨_, rfl, by rw [hW]; simp; omega⟩, ⟨⟨rfl, rfl, rfl, rfl, trivial⟩, ⟨rfl, rfl, trivial⟩, rfl⟩⟩
              · replace g5 := t_eql hO g5
                rw [if_pos g5] at hW
                cases nb with
                | false =>
                  conv => cbv
                  exact ⟨_, upm _ ⟨_, rfl, by simp [hW]⟩, ⟨⟨rfl, rfl, rfl, rfl, trivial⟩, ⟨rfl, rfl, trivial⟩, rfl⟩⟩
                | true =>
                  conv => cbv
                  rintro (_ | _) g7
                  · replace g7 := f_gtr hO g7
                    conv => cbv
                    exact ⟨_, upm _ ⟨_, rfl, by rw [hW]; simp; omega⟩, ⟨⟨rfl, rfl, rfl, rfl, trivial⟩, ⟨rfl, rfl, trivial⟩, rfl⟩⟩
                  · replace g7 := t_gtr hO g7
                    conv => cbv
                    exact ⟨_, upm _ ⟨_, rfl, by rw [hW]; simp; omega⟩, ⟨⟨rfl, rfl, rfl, rfl, trivial⟩, ⟨rfl, rfl, trivial⟩, rfl⟩⟩
            · replace g3 := t_eql hO g3
              rw [if_pos g3] at hW
              conv => cbv
              exact ⟨_, upm _ ⟨_, rfl, hW.symm⟩, ⟨⟨rfl, rfl, rfl, rfl, trivial⟩, ⟨rfl, rfl, trivial⟩, rfl⟩⟩
          · replace g2 := t_eql hO g2
            rw [if_pos g2] at hW
            cases vb with
            | false =>
              conv => cbv
              exact ⟨_, upm _ ⟨_, rfl, by simp [hW]⟩, ⟨⟨rfl, rfl, rfl, rfl, trivial⟩, ⟨rfl, rfl, trivial⟩, rfl⟩⟩
            | true =>
              cases b with
              | false =>
                conv => cbv
                exact ⟨_, upm _ ⟨_, rfl, by simp [hW]⟩, ⟨⟨rfl, rfl, rfl, rfl, trivial⟩, ⟨rfl, rfl, trivial⟩, rfl⟩⟩
              | true =>
                conv => cbv
                exact ⟨_, upm _ ⟨_, rfl, by simp [hW]⟩, ⟨⟨rfl, rfl, rfl, rfl, trivial⟩, ⟨rfl, rfl, trivial⟩, rfl⟩⟩
        · replace g1 := t_eql hO g1
          rw [if_pos g1] at hW
          conv => cbv
          exact ⟨_, upm _ ⟨_, rfl, hW.symm⟩, ⟨⟨rfl, rfl, rfl, rfl, trivial⟩, ⟨rfl, rfl, trivial⟩, rfl⟩⟩
      · rintro d ⟨w, rfl, rfl⟩
        conv => cbv
        rintro (_ | _) g1
        · replace g1 := f_eql hO g1
          conv => cbv
          rintro (_ | _) g2
          · replace g2 := f_eql hO g2
            have hsm : sm = false := by
              cases sm with
              | false => rfl
              | true => rcases hm.1 rfl with h | h <;> omega
            subst hsm
            conv => cbv
            refine ⟨_, k0, ?_⟩
            conv => cbv
            refine ⟨hcs, _, k4, ?_⟩
            conv => cbv
            rintro (_ | _) g3
            · conv => cbv
              exfalso; exact no_bb (b_eq hO g3)
            conv => cbv
            rintro (_ | _) g4
            · conv => cbv
              exfalso; exact no_bb (b_eq hO g4)
            conv => cbv
            refine ⟨hcs, _, k5, ?_⟩
            conv => cbv
            rintro (_ | _) g5
            · conv => cbv
              exfalso; exact f_eql hO g5 rfl
            conv => cbv
            trivial
          · replace g2 := t_eql hO g2
            have hsm : sm = true := by
              exact hm.2 (.inr g2)
            subst hsm
            conv => cbv
            refine ⟨_, k0, ?_⟩
            conv => cbv
            refine ⟨hcs, _, k4, ?_⟩
            conv => cbv
            rintro (_ | _) g3
            · conv => cbv
              exfalso; exact no_bb (b_eq hO g3)
            conv => cbv
            rintro (_ | _) g4
            · conv => cbv
              exfalso; exact no_bb (b_eq hO g4)
            conv => cbv
            refine ⟨hcs, _, k5, ?_⟩
            conv => cbv
            rintro (_ | _) g5
            · conv => cbv
              exfalso; exact f_eql hO g5 rfl
            conv => cbv
            trivial
        · replace g1 := t_eql hO g1
          have hsm : sm = true := by
            exact hm.2 (.inl g1)
          subst hsm
          conv => cbv
          refine ⟨_, k0, ?_⟩
          conv => cbv
          refine ⟨hcs, _, k4, ?_⟩
          conv => cbv
          rintro (_ | _) g3
          · conv => cbv
            exfalso; exact no_bb (b_eq hO g3)
          conv => cbv
          rintro (_ | _) g4
          · conv => cbv
            exfalso; exact no_bb (b_eq hO g4)
          conv => cbv
          refine ⟨hcs, _, k5, ?_⟩
          conv => cbv
          rintro (_ | _) g5
          · conv => cbv
            exfalso; exact f_eql hO g5 rfl
          conv => cbv
          trivial
    · replace h2 := t_lss hO h2
      rw [hlen] at h2
      obtain ⟨y, hy⟩ : ∃ y, l[k]? = some y := ⟨_, List.getElem?_eq_getElem (by omega)⟩
      have hadd : O .iop .add .i64 i 1 = ((k + 1 : Nat) : Int) := by rw [o_add64 hO (by omega) (by omega)]; omega
      cases b with
      | false =>
        conv => cbv
        refine ⟨mkS y, atX_map hy hxs hi, ?_⟩
        conv => cbv
        rintro (_ | _) h3
        · replace h3 : y ≠ v := f_seql hO h3
          conv => cbv
          exact ⟨_, _, up _ _ ⟨_, k + 1, false, rfl, hadd, by omega, rfl, by symm; rw [decide_eq_false_iff_not, take_mem hy]; simp at hb; rintro (h | h); exact hb h; exact h3 h.symm⟩, ⟨⟨rfl, rfl, rfl, rfl, rfl, trivial⟩, ⟨rfl, rfl, trivial⟩, rfl⟩, by omega⟩
        · replace h3 : y = v := t_seql hO h3
          conv => cbv
          exact ⟨_, _, up _ _ ⟨_, k + 1, true, rfl, hadd, by omega, rfl, by symm; rw [decide_eq_true_eq, take_mem hy]; exact .inr h3.symm⟩, ⟨⟨rfl, rfl, rfl, rfl, rfl, trivial⟩, ⟨rfl, rfl, trivial⟩, rfl⟩, by omega⟩
      | true =>
        conv => cbv
        exact ⟨_, _, up _ _ ⟨_, k + 1, true, rfl, hadd, by omega, rfl, by symm; rw [decide_eq_true_eq, take_mem hy]; exact .inl (by simpa using hb.symm)⟩, ⟨⟨rfl, rfl, rfl, rfl, rfl, trivial⟩, ⟨rfl, rfl, trivial⟩, rfl⟩, by omega⟩
  · replace h1 := t_neq hO h1
    have s1 := s1 h1
    conv => cbv
    refine ⟨_, k0, ?_⟩
    conv => cbv
    refine ⟨hcs, ⟨rfl, rfl⟩, _, s1, ?_⟩
    conv => cbv
    trivial
end Go.Proofs.AM
namespace Go.Proofs.AM
open Go Go.Lib Cd
theorem no_bt {b : Bool} (h : true = (b != b)) : False := by simp at h
theorem has_and {a b c : SetV} (ca : CheckP a) (cb : CheckP b) (h : meetS a b = (c, 0)) : CheckP c ∧ c.m = (a.m && b.m) ∧ ∀ v, hasB c v = (hasB a v && hasB b v) := by
  rcases meet_spec ca cb with ⟨_, k⟩ | ⟨S, _, k, cS, m, r⟩
  · rw [k] at h; simp at h
  · rw [k] at h
    simp only [Prod.mk.injEq, and_true] at h
    subst h
    refine ⟨cS, m, fun v => ?_⟩
    rw [hasB_raw cS, hasB_raw ca, hasB_raw cb]
    cases hv : valueB v with
    | false => simp
    | true => rw [r v hv]; simp
set_option maxRecDepth 100000 in
set_option maxHeartbeats 8000000 in
theorem both10_ok (R : Ans) (h : C3 R) (a b : SetV) (v : Str) (ha : FS a) (hb : FS b) (hv : SL v) : AnsF R c10 [setD a, setD b, mkS v] (.bool true) := by
  have k0 := h.live14
  have ka := h.check23 a ha
  have kb := h.check23 b hb
  obtain ⟨c, e, hc⟩ : ∃ S e, meetS a b = (S, e) := ⟨_, _, rfl⟩
  have fc : FS c := by have := meet_fs a b; rw [hc] at this; exact this
  have k1 := h.meet24 a b ha hb
  rw [hc] at k1
  have hbad : e ≠ 0 → e ≠ 3 → checkE a = 0 → checkE b ≠ 0 := fun h1 h2 h3 h4 => by
    rcases meet_spec (checkE_iff.1 h3) (checkE_iff.1 h4) with ⟨_, k⟩ | ⟨S, _, k, _⟩
    · rw [k] at hc; simp only [Prod.mk.injEq] at hc; exact h2 hc.2.symm
    · rw [k] at hc; simp only [Prod.mk.injEq] at hc; exact h1 hc.2.symm
  obtain ⟨ea, hea⟩ : ∃ e, e = checkE a := ⟨_, rfl⟩
  obtain ⟨eb, heb⟩ : ∃ e, e = checkE b := ⟨_, rfl⟩
  rw [← hea] at ka hbad
  rw [← heb] at kb hbad
  have hgood : e = 0 → CheckP a ∧ CheckP b := fun h1 => meet_bad (by rw [hc]; exact h1)
  have hand : e = 0 → CheckP c ∧ c.m = (a.m && b.m) ∧ ∀ v, hasB c v = (hasB a v && hasB b v) := fun h1 => has_and (hgood h1).1 (hgood h1).2 (by rw [hc, h1])
  have hone : e = 0 → ∀ y, SL y → ∃ p1 p2 p3 : Bool, R.v 26 [setD c, mkS y] (.bool p1) ∧ R.v 26 [setD a, mkS y] (.bool p2) ∧ R.v 26 [setD b, mkS y] (.bool p3) ∧ p1 = (p2 && p3) := fun h1 y hy =>
    ⟨_, _, _, h.has26 c y fc hy, h.has26 a y ha hy, h.has26 b y hb hy, (hand h1).2.2 y⟩
  have k5 : e = 0 → R.v 23 [setD c] (.int .i64 0) := fun h1 => by have := h.check23 c fc; rwa [checkE_0 (hand h1).1] at this
  have k6 := h.empty27 c fc
  obtain ⟨em, hem⟩ : ∃ x, x = emptyB c := ⟨_, rfl⟩
  rw [← hem] at k6
  have hem : em = true → c.l = [] := fun h1 => by
    rw [hem] at h1
    unfold emptyB at h1
    simp only [Bool.and_eq_true, decide_eq_true_eq] at h1
    exact h1.2
  have hlen : e = 0 → a.l.length ≤ 64 ∧ b.l.length ≤ 64 ∧ c.l.length ≤ 64 := fun h1 => ⟨(hgood h1).1.ord.1, (hgood h1).2.ord.1, (hand h1).1.ord.1⟩
  have hmiss : e = 0 → c.m = (a.m && b.m) := fun h1 => (hand h1).2.1
  obtain ⟨L, hL⟩ : ∃ L, L = a.l ++ b.l ++ c.l := ⟨_, rfl⟩
  have hper : e = 0 → ∀ y ∈ L, ∃ p1 p2 p3 : Bool, R.v 26 [setD c, mkS y] (.bool p1) ∧ R.v 26 [setD a, mkS y] (.bool p2) ∧ R.v 26 [setD b, mkS y] (.bool p3) ∧ p1 = (p2 && p3) := fun h1 y hy => hone h1 y (by
    rw [hL, List.mem_append, List.mem_append] at hy
    rcases hy with (hy | hy) | hy
    · exact ha.l.all y hy
    · exact hb.l.all y hy
    · exact fc.l.all y hy)
  have hv1 : e = 0 → _ := fun h1 => hone h1 v hv
  clear hone hgood hand h hea heb hc ha hb fc
  obtain ⟨m, n, u, l, lo, hi⟩ := a
  obtain ⟨m', n', u', l', lo', hi'⟩ := b
  obtain ⟨cm, cn, cu, cl, clo, chi⟩ := c
  obtain ⟨xa, hxa⟩ : ∃ xs, xs = l.map mkS := ⟨_, rfl⟩
  obtain ⟨xb, hxb⟩ : ∃ xs, xs = l'.map mkS := ⟨_, rfl⟩
  obtain ⟨xc, hxc⟩ : ∃ xs, xs = cl.map mkS := ⟨_, rfl⟩
  have hcx : CleanL xa := cleanL_map clean_S hxa
  have hcy : CleanL xb := cleanL_map clean_S hxb
  have hcz : CleanL xc := cleanL_map clean_S hxc
  simp only [setD, ← hxa, ← hxb, ← hxc] at k1 ka kb k5 k6 hper hv1 ⊢
  simp only at hem hlen hmiss hL
  refine wpF_sound ⟨rfl, by decide⟩ fun O hO V hV => ?_
  subst hV
  conv => cbv
  refine ⟨hcx, hcy, _, k1, ?_⟩
  conv => cbv
  rintro (_ | _) h1
  · replace h1 := f_neq hO h1
    have k5 := k5 h1
    have hm := hmiss h1
    have hper := hper h1
    obtain ⟨q1, q2, q3, w1, w2, w3, hq⟩ := hv1 h1
    obtain ⟨n1, n2, n3⟩ := hlen h1
    clear hbad ka kb hmiss hlen k1 hv1
    have hl0 : O .len [] = 0 := by rw [o_len hO]; rfl
    have hla : O .len xa = l.length := by rw [o_len hO, hxa]; simp
    have hlb : O .len xb = l'.length := by rw [o_len hO, hxb]; simp
    have hlc : O .len xc = cl.length := by rw [o_len hO, hxc]; simp
    have hl1 : O .len (O .app [] xa) = l.length := by rw [o_len hO, o_app hO, hxa]; simp
    have hl2 : O .len (O .app (O .app [] xa) xb) = l.length + l'.length := by rw [o_len hO, o_app hO, o_app hO, hxa, hxb]; simp
    obtain ⟨al, hal⟩ : ∃ al, al = O .app (O .app (O .app [] xa) xb) xc := ⟨_, rfl⟩
    have halL : al = L.map mkS := by rw [hal, hL, o_app hO, o_app hO, o_app hO, hxa, hxb, hxc]; simp
    have hlL : O .len al = L.length := by rw [o_len hO, halL]; simp
    have hLl : L.length ≤ 192 := by rw [hL]; simp; omega
    have hem : em = true → O .len xc = 0 := fun h1 => by rw [hlc, hem h1]; rfl
    conv => cbv
    refine ⟨hcz, _, w1, ?_⟩
    conv => cbv
    refine ⟨hcx, _, w2, ?_⟩
    cases q2 with
    | false =>
      rw [hq]
      conv => cbv
      rintro (_ | _) g1
      · conv => cbv
        exfalso; exact no_bb (b_eq hO g1)
      conv => cbv
      refine ⟨hcx.x, ⟨by show (O .len [] + O .len xa) * ((16 : Nat) : Int) ≤ _; rw [hl0, hla]; omega⟩, ?_⟩
      conv => cbv
      refine ⟨hcy.x, ⟨by show (O .len (O .app [] xa) + O .len xb) * ((16 : Nat) : Int) ≤ _; rw [hl1, hlb]; omega⟩, ?_⟩
      conv => cbv
      refine ⟨hcz.x, ⟨by show (O .len (O .app (O .app [] xa) xb) + O .len xc) * ((16 : Nat) : Int) ≤ _; rw [hl2, hlc]; omega⟩, ?_⟩
      rw [← hal]
      conv => cbv
      refine loop_of (fun z d => ∃ (i : Int) (k : Nat), d = ⟨[(3, .ptr 3 1 0), (4, .ptr 4 1 0), (7, .ptr 7 1 0), (9, .bool true), (10, .own 47 4), (11, .int .i64 i)], [(3, ⟨1, .rw, .var, [.bool m, .bool n, .bool u, .sl 1 false xa, .int .i64 lo, .int .i64 hi]⟩), (4, ⟨1, .rw, .var, [.bool m', .bool n', .bool u', .sl 1 false xb, .int .i64 lo', .int .i64 hi']⟩), (7, ⟨1, .rw, .var, [.bool cm, .bool cn, .bool cu, .sl 1 false xc, .int .i64 clo, .int .i64 chi]⟩), (47, ⟨4, .rw, .arr 1 9, al⟩)], false⟩ ∧ i = k ∧ k ≤ L.length ∧ z = L.length - k) ⟨_, _, ⟨_, 0, rfl, rfl, by omega, rfl⟩, ⟨⟨rfl, rfl, rfl, rfl, rfl, rfl, trivial⟩, ⟨rfl, rfl, rfl, rfl, trivial⟩, rfl⟩⟩ ?_
      rintro J up z d ⟨i, k, rfl, hi2, hk, rfl⟩
      conv => cbv
      rintro (_ | _) g2
      · conv => cbv
        refine ⟨_, k0, ?_⟩
        conv => cbv
        refine ⟨hcz, _, k5, ?_⟩
        conv => cbv
        rintro (_ | _) g3
        · conv => cbv
          exfalso; exact f_eql hO g3 rfl
        cases m with
        | false =>
          conv => cbv
          rintro (_ | _) g4
          · conv => cbv
            exfalso; rw [hm] at g4; exact no_bb (b_eq hO g4)
          conv => cbv
          refine ⟨hcz, _, k6, ?_⟩
          cases em with
          | false =>
            conv => cbv
            trivial
          | true =>
            conv => cbv
            rintro (_ | _) g5
            · conv => cbv
              exfalso; exact f_eql hO g5 (hem rfl)
            conv => cbv
            trivial
        | true =>
          conv => cbv
          rintro (_ | _) g4
          · conv => cbv
            exfalso; rw [hm] at g4; exact no_bb (b_eq hO g4)
          conv => cbv
          refine ⟨hcz, _, k6, ?_⟩
          cases em with
          | false =>
            conv => cbv
            trivial
          | true =>
            conv => cbv
            rintro (_ | _) g5
            · conv => cbv
              exfalso; exact f_eql hO g5 (hem rfl)
            conv => cbv
            trivial
      · replace g2 := t_lss hO g2
        rw [hlL] at g2
        obtain ⟨y, hy⟩ : ∃ y, L[k]? = some y := ⟨_, List.getElem?_eq_getElem (by omega)⟩
        obtain ⟨p1, p2, p3, w1, w2, w3, hp⟩ := hper y (List.mem_of_getElem? hy)
        have hadd : O .iop .add .i64 i 1 = ((k + 1 : Nat) : Int) := by rw [o_add64 hO (by omega) (by omega)]; omega
        have hnat : O .nat i = k := by rw [o_nat hO, hi2]; rfl
        have hat : al[k]? = some (mkS y) := by rw [halL, List.getElem?_map, hy]; rfl
        have hz0 : LeX 0 i := ⟨by omega⟩
        have hz1 : LtX i (O .len al) := ⟨by rw [hlL]; omega⟩
        conv => cbv
        refine ⟨hz0, hz1, ?_⟩
        rw [hnat]
        conv => cbv
        refine ⟨_, hat, ?_⟩
        conv => cbv
        refine ⟨hcz, _, w1, ?_⟩
        conv => cbv
        refine ⟨hz0, hz1, ?_⟩
        rw [hnat]
        conv => cbv
        refine ⟨_, hat, ?_⟩
        conv => cbv
        refine ⟨hcx, _, w2, ?_⟩
        cases p2 with
        | false =>
          conv => cbv
          rintro (_ | _) g3
          · conv => cbv
            exact ⟨_, _, up _ _ ⟨_, k + 1, rfl, hadd, by omega, rfl⟩, ⟨⟨rfl, rfl, rfl, rfl, rfl, rfl, trivial⟩, ⟨rfl, rfl, rfl, rfl, trivial⟩, rfl⟩, by omega⟩
          · conv => cbv
            exfalso; rw [hp] at g3; exact no_bt (b_ne hO g3)
        | true =>
          conv => cbv
          refine ⟨hz0, hz1, ?_⟩
          rw [hnat]
          conv => cbv
          refine ⟨_, hat, ?_⟩
          conv => cbv
          refine ⟨hcy, _, w3, ?_⟩
          conv => cbv
          rintro (_ | _) g3
          · conv => cbv
            exact ⟨_, _, up _ _ ⟨_, k + 1, rfl, hadd, by omega, rfl⟩, ⟨⟨rfl, rfl, rfl, rfl, rfl, rfl, trivial⟩, ⟨rfl, rfl, rfl, rfl, trivial⟩, rfl⟩, by omega⟩
          · conv => cbv
            exfalso; rw [hp] at g3; exact no_bt (b_ne hO g3)
    | true =>
      conv => cbv
      refine ⟨hcy, _, w3, ?_⟩
      rw [hq]
      conv => cbv
      rintro (_ | _) g1
      · conv => cbv
        exfalso; exact no_bb (b_eq hO g1)
      conv => cbv
      refine ⟨hcx.x, ⟨by show (O .len [] + O .len xa) * ((16 : Nat) : Int) ≤ _; rw [hl0, hla]; omega⟩, ?_⟩
      conv => cbv
      refine ⟨hcy.x, ⟨by show (O .len (O .app [] xa) + O .len xb) * ((16 : Nat) : Int) ≤ _; rw [hl1, hlb]; omega⟩, ?_⟩
      conv => cbv
      refine ⟨hcz.x, ⟨by show (O .len (O .app (O .app [] xa) xb) + O .len xc) * ((16 : Nat) : Int) ≤ _; rw [hl2, hlc]; omega⟩, ?_⟩
      rw [← hal]
      conv => cbv
      refine loop_of (fun z d => ∃ (i : Int) (k : Nat), d = ⟨[(3, .ptr 3 1 0), (4, .ptr 4 1 0), (7, .ptr 7 1 0), (9, .bool true), (10, .own 47 4), (11, .int .i64 i)], [(3, ⟨1, .rw, .var, [.bool m, .bool n, .bool u, .sl 1 false xa, .int .i64 lo, .int .i64 hi]⟩), (4, ⟨1, .rw, .var, [.bool m', .bool n', .bool u', .sl 1 false xb, .int .i64 lo', .int .i64 hi']⟩), (7, ⟨1, .rw, .var, [.bool cm, .bool cn, .bool cu, .sl 1 false xc, .int .i64 clo, .int .i64 chi]⟩), (47, ⟨4, .rw, .arr 1 9, al⟩)], false⟩ ∧ i = k ∧ k ≤ L.length ∧ z = L.length - k) ⟨_, _, ⟨_, 0, rfl, rfl, by omega, rfl⟩, ⟨⟨rfl, rfl, rfl, rfl, rfl, rfl, trivial⟩, ⟨rfl, rfl, rfl, rfl, trivial⟩, rfl⟩⟩ ?_
      rintro J up z d ⟨i, k, rfl, hi2, hk, rfl⟩
      conv => cbv
      rintro (_ | _) g2
      · conv => cbv
        refine ⟨_, k0, ?_⟩
        conv => cbv
        refine ⟨hcz, _, k5, ?_⟩
        conv => cbv
        rintro (_ | _) g3
        · conv => cbv
          exfalso; exact f_eql hO g3 rfl
        cases m with
        | false =>
          conv => cbv
          rintro (_ | _) g4
          · conv => cbv
            exfalso; rw [hm] at g4; exact no_bb (b_eq hO g4)
          conv => cbv
          refine ⟨hcz, _, k6, ?_⟩
          cases em with
          | false =>
            conv => cbv
            trivial
          | true =>
            conv => cbv
            rintro (_ | _) g5
            · conv => cbv
              exfalso; exact f_eql hO g5 (hem rfl)
            conv => cbv
            trivial
        | true =>
          conv => cbv
          rintro (_ | _) g4
          · conv => cbv
            exfalso; rw [hm] at g4; exact no_bb (b_eq hO g4)
          conv => cbv
          refine ⟨hcz, _, k6, ?_⟩
          cases em with
          | false =>
            conv => cbv
            trivial
          | true =>
            conv => cbv
            rintro (_ | _) g5
            · conv => cbv
              exfalso; exact f_eql hO g5 (hem rfl)
            conv => cbv
            trivial
      · replace g2 := t_lss hO g2
        rw [hlL] at g2
        obtain ⟨y, hy⟩ : ∃ y, L[k]? = some y := ⟨_, List.getElem?_eq_getElem (by omega)⟩
        obtain ⟨p1, p2, p3, w1, w2, w3, hp⟩ := hper y (List.mem_of_getElem? hy)
        have hadd : O .iop .add .i64 i 1 = ((k + 1 : Nat) : Int) := by rw [o_add64 hO (by omega) (by omega)]; omega
        have hnat : O .nat i = k := by rw [o_nat hO, hi2]; rfl
        have hat : al[k]? = some (mkS y) := by rw [halL, List.getElem?_map, hy]; rfl
        have hz0 : LeX 0 i := ⟨by omega⟩
        have hz1 : LtX i (O .len al) := ⟨by rw [hlL]; omega⟩
        conv => cbv
        refine ⟨hz0, hz1, ?_⟩
        rw [hnat]
        conv => cbv
        refine ⟨_, hat, ?_⟩
        conv => cbv
        refine ⟨hcz, _, w1, ?_⟩
        conv => cbv
        refine ⟨hz0, hz1, ?_⟩
        rw [hnat]
        conv => cbv
        refine ⟨_, hat, ?_⟩
        conv => cbv
        refine ⟨hcx, _, w2, ?_⟩
        cases p2 with
        | false =>
          conv => cbv
          rintro (_ | _) g3
          · conv => cbv
            exact ⟨_, _, up _ _ ⟨_, k + 1, rfl, hadd, by omega, rfl⟩, ⟨⟨rfl, rfl, rfl, rfl, rfl, rfl, trivial⟩, ⟨rfl, rfl, rfl, rfl, trivial⟩, rfl⟩, by omega⟩
          · conv => cbv
            exfalso; rw [hp] at g3; exact no_bt (b_ne hO g3)
        | true =>
          conv => cbv
          refine ⟨hz0, hz1, ?_⟩
          rw [hnat]
          conv => cbv
          refine ⟨_, hat, ?_⟩
          conv => cbv
          refine ⟨hcy, _, w3, ?_⟩
          conv => cbv
          rintro (_ | _) g3
          · conv => cbv
            exact ⟨_, _, up _ _ ⟨_, k + 1, rfl, hadd, by omega, rfl⟩, ⟨⟨rfl, rfl, rfl, rfl, rfl, rfl, trivial⟩, ⟨rfl, rfl, rfl, rfl, trivial⟩, rfl⟩, by omega⟩
          · conv => cbv
            exfalso; rw [hp] at g3; exact no_bt (b_ne hO g3)
  · replace h1 := t_neq hO h1
    conv => cbv
    refine ⟨_, k0, ?_⟩
    conv => cbv
    rintro (_ | _) h2
    · replace h2 := f_eql hO h2
      conv => cbv
      refine ⟨hcx, _, ka, ?_⟩
      conv => cbv
      rintro (_ | _) h3
      · replace h3 := f_neq hO h3
        conv => cbv
        refine ⟨hcy, _, kb, ?_⟩
        conv => cbv
        rintro (_ | _) h4
        · conv => cbv
          exfalso; exact hbad h1 h2 h3 (f_neq hO h4)
        · conv => cbv
          trivial
      · conv => cbv
        trivial
    · conv => cbv
      trivial
end Go.Proofs.AM
