/- Part 2 of the lemmas: AMOps2, AMOps3, AMTell, AMStep, AMStep2. -/
import Derived.Test.YtococcgeoknmjabGreatDoorM01
import Derived.Laws.Tables
import Derived.Great.BuildSlice
import Derived.Laws.IdiomStrings
import Derived.Laws.BytesArg
import Derived.Maps.AppendAt
namespace Go.Proofs.AM
open Go Go.RowKit
section
variable {P : Program} {c : Cx} {tm : Nat → D} {a : Act} {o : Oper} {d : D} {C : Nat → List D → Option D}
def Yields (P : Program) (c : Cx) (a : Act) (o : Oper) (d : D) : Prop :=
  ∃ v w', (execOp a.eval o).run P c.w = .ok (.value v) w' ∧ Below c.w.heap.size c.w w' ∧ RV { c with w := w' } d v
theorem yields_same {v : Value} (h : (execOp a.eval o).run P c.w = .ok (.value v) c.w) (hv : RV c d v) : Yields P c a o d := ⟨v, c.w, h, Below.refl _ _, hv⟩
theorem run_v {s : Sem Value} {v : Value} {w w' : World} (h : s.run P w = .ok v w') : Sem.run P (do pure (Next.value (← s)) : Sem Next) w = .ok (.value v) w' := by
  simp [h, Result.andThen]
theorem y_mov (ht : Tms c tm a) {x : Operand} (ho : o.op = .move x ∨ o.op = .assign x) {y : Opd} (hx : opdT P o.type x = some y) (hv : y.get tm = d) : Yields P c a o d := by
  subst hv
  refine yields_same (v := a.eval x) ?_ (opdT_rv ht hx)
  unfold execOp
  rcases ho with ho | ho <;> simp [ho]
theorem y_pick (ht : Tms c tm a) {x y z : Operand} (ho : o.op = .pick x y z) {x' y' z' : Opd} {t1 t2 t3 : TypeId} (hx : opdT P t1 x = some x') (hy : opdT P t2 y = some y') (hz : opdT P t3 z = some z')
    (hv : (match x'.get tm with | .bool t => some (if t then y'.get tm else z'.get tm) | _ => none) = some d) : Yields P c a o d := by
  have h1 := opdT_rv ht hx
  split at hv
  · rename_i t hb
    rw [hb] at h1
    simp only [RV] at h1
    simp only [Option.some.injEq] at hv
    subst hv
    cases t with
    | true => exact yields_same (v := a.eval y) (by unfold execOp; simp [ho, h1, asBool]) (by simpa using opdT_rv ht hy)
    | false => exact yields_same (v := a.eval z) (by unfold execOp; simp [ho, h1, asBool]) (by simpa using opdT_rv ht hz)
  · simp at hv
theorem y_load {B0 : Nat} (hB : ∀ k, BR c B0 k) (ht : Tms c tm a) {t t' : TypeId} {x : Operand} {n : Nat} {g : Bool} {y : Opd} (ho : o.op = .load t x) (hn : szT P t = some n) (hg : aggT P t = some g) (hx : opdT P t' x = some y)
    (hv : loadD c.bx n g (y.get tm) = some d) : Yields P c a o d := by
  obtain ⟨v, h1, h2⟩ := load_run hB hn hg (opdT_rv ht hx) hv
  exact yields_same (by unfold execOp; simp only [ho]; exact run_v h1) h2
theorem fAddrD_rv {off : Nat} {p q : D} {pv : Value} (hp : RV c p pv) (h : fAddrD c.bx off p = some q) : ∃ ad : Addr, pv = .pointer (some ad) ∧ RV c q (.pointer (some (ad.add off))) := by
  unfold fAddrD at h
  split at h
  · split at h
    · rename_i hg
      simp only [Option.some.injEq] at h
      subst h
      simp only [RV] at hp ⊢
      obtain ⟨_, h2, h3⟩ := hp
      obtain ⟨b, hlc, rfl⟩ := h3 hg.1
      exact ⟨_, rfl, rfl, h2, fun _ => ⟨b, hlc, by rw [add_lit]⟩⟩
    · simp at h
  · split at h
    · rename_i hg
      simp only [Option.some.injEq] at h
      subst h
      simp only [RV] at hp ⊢
      obtain ⟨_, h2, h3⟩ := hp
      obtain ⟨b, n, cap, sz, et, hk, hlc, rfl⟩ := h3 hg.1
      exact ⟨_, rfl, rfl, h2, fun _ => ⟨b, n, cap, sz, et, hk, hlc, by rw [add_lit, Nat.add_assoc]⟩⟩
    · simp at h
  · simp only [Option.some.injEq] at h
    subst h
    simp only [RV] at hp ⊢
    obtain ⟨ad, ev, rfl, h2⟩ := hp
    exact ⟨_, rfl, ad, ev, by rw [add_add], h2⟩
  · simp at h
theorem y_fAddr (ht : Tms c tm a) {t t' : TypeId} {x : Operand} {f : Nat} {y : Opd} {fd : Field} {n : Nat} (ho : o.op = .fieldAddr t x f) (hf : fieldT P t f = some fd) (hn : szT P fd.type = some n) (h0 : 0 < n) (hx : opdT P t' x = some y)
    (hv : fAddrD c.bx fd.offset (y.get tm) = some d) : Yields P c a o d := by
  obtain ⟨ad, h1, h2⟩ := fAddrD_rv (opdT_rv ht hx) hv
  refine yields_same (v := .pointer (some (ad.add fd.offset))) ?_ h2
  unfold fieldT at hf
  split at hf
  · rename_i fs hu
    unfold execOp
    simp only [ho, h1]
    refine run_v ?_
    unfold Instr.fieldAt fieldPlace Instr.sureAddr
    simp [run_underlying hu, hf, run_szT hn, Result.andThen, Nat.pos_iff_ne_zero.1 h0]
  · simp at hf
theorem run_part {t : TypeId} {n : Nat} {g : Bool} {cs : Array Value} {ds : List D} {off : Nat} (hn : szT P t = some n) (hg : aggT P t = some g) (hcs : RVs c ds cs.toList) (ho : ∀ u ∈ cs.toList, u.oneCell' = true) (hl : off + n ≤ ds.length)
    (hd : mkD g ((ds.drop off).take n) = some d) : ∃ v, (part t cs off).run P c.w = .ok v c.w ∧ RV c d v := by
  obtain ⟨hv, hag⟩ := mk_val ((hcs.drop off).take n) (fun u hu => ho u (List.mem_of_mem_drop (List.mem_of_mem_take hu))) hd
  unfold part
  cases g with
  | true =>
    refine ⟨_, ?_, by simpa using hv⟩
    simp only [Sem.run_bind, run_aggT hg, Result.andThen, if_true, run_szT hn, Sem.run_pure]
    congr 1
    congr 1
    apply Array.toList_inj.mp
    simp [List.extract_eq_take_drop, Nat.add_sub_cancel_left]
  | false =>
    have he := hag rfl
    have h0 : ((cs.toList.drop off).take n)[0]? = some (((cs.toList.drop off).take n).headD .nilIface) := by rw [he]; rfl
    have hn0 : 0 < n := by
      rcases Nat.eq_zero_or_pos n with h | h
      · subst h; simp at he
      · exact h
    rw [List.getElem?_take_of_lt hn0, List.getElem?_drop, Nat.add_zero] at h0
    refine ⟨_, ?_, by simpa using hv⟩
    simp only [Sem.run_bind, run_aggT hg, Result.andThen, Bool.false_eq_true, if_false]
    rw [show cs[off]? = _ from by simpa using h0]
    simp
theorem y_fld (ht : Tms c tm a) {t t' : TypeId} {x : Operand} {f : Nat} {y : Opd} {fd : Field} {n : Nat} {g : Bool} (ho : o.op = .field t x f) (hf : fieldT P t f = some fd) (hn : szT P fd.type = some n) (hg : aggT P fd.type = some g) (hx : opdT P t' x = some y)
    (hv : (match y.get tm with | .agg cs => if fd.offset + n ≤ cs.length then mkD g ((cs.drop fd.offset).take n) else none | _ => none) = some d) : Yields P c a o d := by
  have h1 := opdT_rv ht hx
  split at hv
  · rename_i ds hd
    rw [hd] at h1
    simp only [RV] at h1
    obtain ⟨cs, he, hcs, hone⟩ := h1
    split at hv
    · rename_i hl
      obtain ⟨v, k1, k2⟩ := run_part hn hg hcs hone hl hv
      refine yields_same ?_ k2
      unfold fieldT at hf
      split at hf
      · rename_i fs hu
        unfold execOp
        simp only [ho, he]
        refine run_v ?_
        unfold Instr.field
        simp only [Sem.run_bind, run_underlying hu, Result.andThen, hf, asAgg, Sem.run_pure, k1]
      · simp at hf
    · simp at hv
  · simp at hv
theorem natOf_int {x : D} {v : Value} {j : Nat} (h : RV c x v) (hj : natOf x = some j) : ∃ k, v = .int k j := by
  unfold natOf at hj
  split at hj
  · rename_i k n
    simp only [RV] at h
    split at hj
    · rename_i h0
      simp only [Option.some.injEq] at hj
      exact ⟨k, by rw [h, ← hj, Int.toNat_of_nonneg h0]⟩
    · simp at hj
  · simp at hj
theorem y_iAddrS {B0 : Nat} (hB : ∀ k, BR c B0 k) (ht : Tms c tm a) {t e t1 t2 : TypeId} {x i : Operand} {x' i' : Opd} {n : Nat} (ho : o.op = .indexAddr t x i) (hu : P.underlying t = some (.slice e)) (hn : szT P e = some n) (hx : opdT P t1 x = some x') (hi : opdT P t2 i = some i')
    (hv : valD tm c.bx C (.iAddrS n x' i') = some d) : Yields P c a o d := by
  simp only [valD, Option.bind_eq_some_iff] at hv
  obtain ⟨j, hj, hv⟩ := hv
  obtain ⟨ik, hi2⟩ := natOf_int (opdT_rv ht hi) hj
  have h1 := opdT_rv ht hx
  split at hv
  · rename_i sz nl xs hd
    rw [hd] at h1
    split at hv
    · rename_i hs
      subst hs
      simp only [Option.map_eq_some_iff] at hv
      obtain ⟨el, hel, rfl⟩ := hv
      simp only [RV] at h1
      obtain ⟨ad?, cap, he, hcap, _, _, hsl⟩ := h1
      obtain ⟨ad, ev, rfl, hA, hb, hr, hs, hone, hc⟩ := rsl_get hsl hel
      have hlt : j < xs.length := (List.getElem?_eq_some_iff.1 hel).1
      refine yields_same (v := .pointer (some (ad.add (j * sz)))) ?_ ?_
      · unfold execOp
        simp only [ho, he, hi2]
        refine run_v ?_
        unfold Instr.indexAt
        simp [asIntOf, run_underlying hu, Result.andThen, run_szT hn, hlt]
      · simp only [RV]
        refine ⟨ad.add (j * sz), ev, by simp [Addr.add], by rw [add_block]; exact hA, by rw [add_block]; exact hb, hr, hone, fun l hl => ?_⟩
        rw [add_add]
        have := hc l (by omega)
        rwa [Nat.zero_add] at this
    · simp at hv
  · rename_i k g hd
    rw [hd] at h1
    split at hv
    · rename_i hc
      obtain ⟨hg, hst, hkd, hlt⟩ := hc
      simp only [Option.some.injEq] at hv
      subst hv
      simp only [RV] at h1
      obtain ⟨_, hle, h1⟩ := h1
      have hv1 := h1 hg
      have hb := hB k hst
      cases hk : (c.bx k).kd with
      | var => rw [hk] at hkd; simp [arrIs] at hkd
      | map => rw [hk] at hkd; simp [arrIs] at hkd
      | iter => rw [hk] at hkd; simp [arrIs] at hkd
      | arr n' et =>
      rw [hk] at hkd hb
      obtain rfl : n' = n := by simpa [arrIs] using hkd
      obtain ⟨xs, hsz, hown, hrel⟩ := hb
      rcases hown.2 with ⟨_, h0⟩ | ⟨b, cap, cur, hlc, hb0, hh, hncap, _, _, _⟩
      · omega
      · refine yields_same (v := .pointer (some ⟨b, j * n', none⟩)) ?_ ?_
        · unfold execOp
          simp only [ho, hv1, hlc, hi2]
          refine run_v ?_
          unfold Instr.indexAt
          simp [asIntOf, run_underlying hu, Result.andThen, run_szT hn, hlt, add_lit]
        · simp only [RV]
          exact ⟨rfl, hle, fun _ => ⟨b, _, cap, n', et, hk, hlc, by simp⟩⟩
    · simp at hv
  · simp at hv
theorem y_iAddrA (ht : Tms c tm a) {t e t1 t2 : TypeId} {x i : Operand} {x' i' : Opd} {n len : Nat} (ho : o.op = .indexAddr t x i) (hu : P.underlying t = some (.array len e)) (hn : szT P e = some n) (hx : opdT P t1 x = some x') (hi : opdT P t2 i = some i')
    (hv : valD tm c.bx C (.iAddrA n len x' i') = some d) : Yields P c a o d := by
  simp only [valD, Option.bind_eq_some_iff] at hv
  obtain ⟨j, hj, hv⟩ := hv
  obtain ⟨ik, hi2⟩ := natOf_int (opdT_rv ht hi) hj
  split at hv
  · rename_i hlt
    obtain ⟨ad, h1, h2⟩ := fAddrD_rv (opdT_rv ht hx) hv
    refine yields_same (v := .pointer (some (ad.add (j * n)))) ?_ h2
    unfold execOp
    simp only [ho, h1, hi2]
    refine run_v ?_
    unfold Instr.indexAt Instr.sureAddr
    simp [asIntOf, run_underlying hu, Result.andThen, run_szT hn, hlt]
  · simp at hv
theorem y_idxStr (ht : Tms c tm a) {t t1 t2 : TypeId} {x i : Operand} {x' i' : Opd} (ho : o.op = .index t x i) (hu : P.underlying t = some .string) (hx : opdT P t1 x = some x') (hi : opdT P t2 i = some i')
    (hv : valD tm c.bx C (.idxStr x' i') = some d) : Yields P c a o d := by
  simp only [valD, Option.bind_eq_some_iff] at hv
  obtain ⟨j, hj, hv⟩ := hv
  obtain ⟨ik, hi2⟩ := natOf_int (opdT_rv ht hi) hj
  have h1 := opdT_rv ht hx
  split at hv
  · rename_i s hd
    rw [hd] at h1
    simp only [RV] at h1
    simp only [Option.map_eq_some_iff] at hv
    obtain ⟨b, hb, rfl⟩ := hv
    refine yields_same (v := .int .u8 b.toNat) ?_ (by simp [RV])
    unfold execOp
    simp only [ho, h1, hi2]
    refine run_v ?_
    unfold Instr.index
    have hs : s[j]? = some b := by
      have hlt := (List.getElem?_eq_some_iff.1 hb).1
      have hlt' : j < s.size := by show j < s.data.size; simpa using hlt
      rw [getElem?_pos s j hlt', ← (List.getElem?_eq_some_iff.1 hb).2]
      rfl
    simp [asIntOf, run_underlying hu, Result.andThen, hs]
  · simp at hv
theorem y_idxArr (ht : Tms c tm a) {t e t1 t2 : TypeId} {x i : Operand} {x' i' : Opd} {n len : Nat} {g : Bool} (ho : o.op = .index t x i) (hu : P.underlying t = some (.array len e)) (hn : szT P e = some n) (hg : aggT P e = some g) (hx : opdT P t1 x = some x') (hi : opdT P t2 i = some i')
    (hv : valD tm c.bx C (.idxArr n len g x' i') = some d) : Yields P c a o d := by
  simp only [valD, Option.bind_eq_some_iff] at hv
  obtain ⟨j, hj, hv⟩ := hv
  obtain ⟨ik, hi2⟩ := natOf_int (opdT_rv ht hi) hj
  have h1 := opdT_rv ht hx
  split at hv
  · rename_i ds hd
    rw [hd] at h1
    simp only [RV] at h1
    obtain ⟨cs, he, hcs, hone⟩ := h1
    split at hv
    · rename_i hl
      obtain ⟨v, k1, k2⟩ := run_part hn hg hcs hone hl.2 hv
      refine yields_same ?_ k2
      unfold execOp
      simp only [ho, he, hi2]
      refine run_v ?_
      unfold Instr.index
      simp [asIntOf, run_underlying hu, Result.andThen, run_szT hn, hl.1, k1]
    · simp at hv
  · simp at hv
theorem ofPure_rv {m : Sem Value} (h : ofPure m = some d) (c : Cx) : ∃ v, m = .pure v ∧ RV c d v := by
  unfold ofPure at h
  split at h <;> simp only [Option.some.injEq, reduceCtorEq] at h
  all_goals (subst h; exact ⟨_, rfl, by simp [RV]⟩)
theorem binOp_type (op : BinOp) (t : TypeId) (x y : Value) (hx : (∃ k n l m, x = .int k n ∧ y = .int l m) ∨ ∃ s u, x = .string s ∧ y = .string u) : Go.binOp op t x y = Go.binOp op 0 x y := by
  rcases hx with ⟨k, n, l, m, rfl, rfl⟩ | ⟨s, u, rfl, rfl⟩ <;> cases op <;> rfl
theorem y_bin (ht : Tms c tm a) {op : BinOp} {t yt t1 t2 : TypeId} {x y : Operand} {x' y' : Opd} (ho : o.op = .binOp op t x y yt) (hx : opdT P t1 x = some x') (hy : opdT P t2 y = some y') (hv : binD op (x'.get tm) (y'.get tm) = some d) : Yields P c a o d := by
  have h1 := opdT_rv ht hx
  have h2 := opdT_rv ht hy
  unfold binD at hv
  split at hv
  · rename_i k n l m e1 e2
    rw [e1] at h1
    rw [e2] at h2
    simp only [RV] at h1 h2
    obtain ⟨v, hm, hr⟩ := ofPure_rv hv c
    refine yields_same (v := v) ?_ hr
    unfold execOp
    simp only [ho, h1, h2]
    refine run_v ?_
    rw [binOp_type op t _ _ (.inl ⟨_, _, _, _, rfl, rfl⟩), hm]
    unfold eqGuard
    cases op <;> simp
  · rename_i s u e1 e2
    rw [e1] at h1
    rw [e2] at h2
    simp only [RV] at h1 h2
    obtain ⟨v, hm, hr⟩ := ofPure_rv hv c
    refine yields_same (v := v) ?_ hr
    unfold execOp
    simp only [ho, h1, h2]
    refine run_v ?_
    rw [binOp_type op t _ _ (.inr ⟨_, _, rfl, rfl⟩), hm]
    unfold eqGuard
    cases op <;> simp
  · simp at hv
theorem y_un (ht : Tms c tm a) {op : UnOp} {t t1 : TypeId} {x : Operand} {x' : Opd} (ho : o.op = .unOp op t x) (hx : opdT P t1 x = some x') (hv : unD op (x'.get tm) = some d) : Yields P c a o d := by
  have h1 := opdT_rv ht hx
  unfold unD at hv
  split at hv
  all_goals first
    | (rename_i e1
       rw [e1] at h1
       simp only [RV] at h1
       obtain ⟨v, hm, hr⟩ := ofPure_rv hv c
       refine yields_same (v := v) ?_ hr
       unfold execOp
       simp only [ho, h1]
       refine run_v ?_
       rw [hm]
       simp)
    | simp at hv
theorem y_ext (ht : Tms c tm a) {t1 : TypeId} {x : Operand} {x' : Opd} {i : Nat} (ho : o.op = .extract x i) (hx : opdT P t1 x = some x') (hv : (match x'.get tm with | .tup ds => ds[i]? | _ => none) = some d) : Yields P c a o d := by
  have h1 := opdT_rv ht hx
  split at hv
  · rename_i ds e1
    rw [e1] at h1
    simp only [RV] at h1
    obtain ⟨vs, he, hs⟩ := h1
    obtain ⟨v, k1, k2⟩ := hs.get hv
    refine yields_same (v := v) ?_ k2
    unfold execOp
    simp only [ho, he]
    refine run_v ?_
    unfold Instr.extract
    simp only
    rw [show vs[i]? = some v from by simpa using k1]
    simp
  · simp at hv
theorem equalIn_bool (k : Nat) {t : TypeId} (w : World) (p q : Bool) (hu : P.underlying t = some .bool) : (Op.equalIn (k + 1) t (.bool p) (.bool q)).run P w = .ok (p == q) w := by
  unfold Op.equalIn; simp [run_underlying hu, Result.andThen]
theorem equalIn_nils (k : Nat) {t : TypeId} (w : World) {ms : Array (String × TypeId)} (hu : P.underlying t = some (.interface ms)) : (Op.equalIn (k + 1) t .nilIface .nilIface).run P w = .ok true w := by
  unfold Op.equalIn; simp [run_underlying hu, Result.andThen]
theorem equalIn_nil (k : Nat) {t u : TypeId} {x : Value} (w : World) {ms : Array (String × TypeId)} (hu : P.underlying t = some (.interface ms)) : (Op.equalIn (k + 1) t (.iface u x) .nilIface).run P w = .ok false w := by
  unfold Op.equalIn; simp [run_underlying hu, Result.andThen]
theorem run_eq {op : BinOp} (hop : op = .eql ∨ op = .neq) {t : TypeId} {x y : Value} {w : World} {b : Bool} (hb : (Op.equalIn (9999 + 1) t x y).run P w = .ok b w)
    (h1 : Go.binOp .eql t x y = (do pure (.bool (← Op.equal t x y)))) (h2 : Go.binOp .neq t x y = (do pure (.bool (!(← Op.equal t x y))))) :
    (Go.binOp op t x y).run P w = .ok (.bool (b != isNeq op)) w := by
  have hb' : (Op.equal t x y).run P w = .ok b w := hb
  rcases hop with rfl | rfl
  · rw [h1]; simp [hb', Result.andThen, isNeq]
  · rw [h2]; simp [hb', Result.andThen, isNeq]
theorem y_eqb (ht : Tms c tm a) {op : BinOp} {t yt t1 t2 : TypeId} {x y : Operand} {x' y' : Opd} (hop : op = .eql ∨ op = .neq) (ho : o.op = .binOp op t x y yt)
    (hu : P.underlying t = some .bool) (hx : opdT P t1 x = some x') (hy : opdT P t2 y = some y')
    (hv : (match x'.get tm, y'.get tm with | .bool a, .bool b => some (D.bool ((a == b) != isNeq op)) | _, _ => none) = some d) : Yields P c a o d := by
  have h1 := opdT_rv ht hx
  have h2 := opdT_rv ht hy
  split at hv
  · rename_i p q e1 e2
    rw [e1] at h1
    rw [e2] at h2
    simp only [RV] at h1 h2
    simp only [Option.some.injEq] at hv
    subst hv
    refine yields_same (v := .bool ((p == q) != isNeq op)) ?_ (by simp [RV])
    unfold execOp
    simp only [ho, h1, h2]
    refine run_v ?_
    have hr := run_eq (w := c.w) hop (equalIn_bool 9999 c.w p q hu) rfl rfl
    rcases hop with rfl | rfl <;> simp [eqGuard, hr]
  · simp at hv
theorem y_eqn (ht : Tms c tm a) {op : BinOp} {t yt t1 t2 : TypeId} {x y : Operand} {x' y' : Opd} (hop : op = .eql ∨ op = .neq) (ho : o.op = .binOp op t x y yt)
    {ms : Array (String × TypeId)} (hu : P.underlying t = some (.interface ms)) (hcn : (isConstO x || isConstO y) = true) (hx : opdT P t1 x = some x') (hy : opdT P t2 y = some y')
    (hv : ((eqD (x'.get tm) (y'.get tm)).map fun b => D.bool (b != isNeq op)) = some d) : Yields P c a o d := by
  have h1 := opdT_rv ht hx
  have h2 := opdT_rv ht hy
  simp only [Option.map_eq_some_iff] at hv
  obtain ⟨b, hb, rfl⟩ := hv
  refine yields_same (v := .bool (b != isNeq op)) ?_ (by simp [RV])
  unfold eqD at hb
  split at hb
  · rename_i e1 e2
    rw [e1] at h1
    rw [e2] at h2
    simp only [RV] at h1 h2
    simp only [Option.some.injEq] at hb
    subst hb
    unfold execOp
    simp only [ho]
    refine run_v ?_
    have hg : (eqGuard op t x y (a.eval x) (a.eval y)).run P c.w = .ok () c.w := by
      rw [h1, h2]
      unfold eqGuard
      rcases hop with rfl | rfl
      all_goals
        cases x <;> cases y <;> simp [isConstO] at hcn ⊢
    have hr := run_eq (w := c.w) hop (equalIn_nils 9999 c.w hu) rfl rfl
    simp only [Sem.run_bind, hg, Result.andThen]
    rw [h1, h2, hr]
  · rename_i e1 e2
    rw [e1] at h1
    rw [e2] at h2
    simp only [RV] at h1 h2
    obtain ⟨z, hz, _⟩ := h1
    simp only [Option.some.injEq] at hb
    subst hb
    unfold execOp
    simp only [ho, hz, h2]
    refine run_v ?_
    have hr := fun (u : TypeId) (x : Value) => run_eq (w := c.w) (x := .iface u x) hop (equalIn_nil 9999 c.w hu) rfl rfl
    rcases hop with rfl | rfl <;> simp [eqGuard, hr]
  · rename_i e1 e2
    rw [e1] at h1
    rw [e2] at h2
    simp only [RV] at h1 h2
    obtain ⟨t0, z, hz⟩ := h1
    simp only [Option.some.injEq] at hb
    subst hb
    unfold execOp
    simp only [ho, hz, h2]
    refine run_v ?_
    have hr := fun (u : TypeId) (x : Value) => run_eq (w := c.w) (x := .iface u x) hop (equalIn_nil 9999 c.w hu) rfl rfl
    rcases hop with rfl | rfl <;> simp [eqGuard, hr]
  · simp at hb
theorem strOf_bytes {c : Cx} : ∀ {ds : List D} {bs : List UInt8}, strOf ds = some bs → ∀ {vs : List Value}, RVs c ds vs → vs = bs.map fun b => .int .u8 b.toNat
  | [], bs, h, vs, hv => by
    simp only [strOf, Option.some.injEq] at h
    subst h
    simpa [RVs] using hv
  | d :: ds, bs, h, vs, hv => by
    unfold strOf at h
    split at h
    · rename_i e; simp at e
    · rename_i n r e
      simp only [List.cons.injEq] at e
      obtain ⟨rfl, rfl⟩ := e
      split at h
      · rename_i h0
        simp only [Option.map_eq_some_iff] at h
        obtain ⟨bs', hr, rfl⟩ := h
        simp only [RVs] at hv
        obtain ⟨v, r', rfl, h1, h2⟩ := hv
        simp only [RV] at h1
        subst h1
        have := strOf_bytes hr h2
        subst this
        simp only [List.map_cons, List.cons.injEq, Value.int.injEq, true_and, and_true]
        rw [UInt8.toNat_ofNat']
        omega
      · simp at h
    · simp at h
theorem y_conv_int (ht : Tms c tm a) {s t t1 : TypeId} {k k0 : IntKind} {x : Operand} {x' : Opd} (ho : o.op = .convert s t x) (hs : P.underlying s = some (.int k0)) (hu : P.underlying t = some (.int k)) (hx : opdT P t1 x = some x')
    (hv : (match x'.get tm with | .int _ n => some (D.int k (k.wrap n)) | _ => none) = some d) : Yields P c a o d := by
  have h1 := opdT_rv ht hx
  split at hv
  · rename_i k1 n e1
    rw [e1] at h1
    simp only [RV] at h1
    simp only [Option.some.injEq] at hv
    subst hv
    refine yields_same (v := .int k (k.wrap n)) ?_ (by simp [RV])
    unfold execOp
    simp only [ho, h1]
    refine run_v ?_
    unfold Go.convert
    simp [run_underlying hs, run_underlying hu, Result.andThen, Conv.intToInt]
  · simp at hv
theorem y_conv_id (ht : Tms c tm a) {s t t1 : TypeId} {x : Operand} {x' : Opd} (ho : o.op = .convert s t x) (hs : P.underlying s = some .string) (hu : P.underlying t = some .string) (hx : opdT P t1 x = some x')
    (hv : (match x'.get tm with | .str s => some (D.str s) | _ => none) = some d) : Yields P c a o d := by
  have h1 := opdT_rv ht hx
  split at hv
  · rename_i z e1
    rw [e1] at h1
    simp only [RV] at h1
    simp only [Option.some.injEq] at hv
    subst hv
    refine yields_same (v := .string z) ?_ (by simp [RV])
    unfold execOp
    simp only [ho, h1]
    refine run_v ?_
    unfold Go.convert
    simp [run_underlying hs, run_underlying hu, Result.andThen]
  · simp at hv
theorem elems_own {B0 : Nat} (hB : ∀ k, BR c B0 k) {x : D} {v : Value} (hv : RV c x v) {sz : Nat} {l : List D} (he : elems c.bx x = some (sz, l)) : ∃ ad cap, v = .slice ad l.length cap := by
  unfold elems at he
  split at he
  · simp only [Option.some.injEq, Prod.mk.injEq] at he
    obtain ⟨rfl, rfl⟩ := he
    simp only [RV] at hv
    obtain ⟨ad, cap, h, _⟩ := hv
    exact ⟨ad, cap, h⟩
  · rename_i k g
    split at he
    · rename_i hc
      obtain ⟨hg, hst⟩ := hc
      split at he
      · rename_i sz' et hk
        simp only [Option.some.injEq, Prod.mk.injEq] at he
        obtain ⟨rfl, rfl⟩ := he
        have hb := hB k hst
        rw [hk] at hb
        obtain ⟨xs, _, hown, _⟩ := hb
        simp only [RV] at hv
        rw [hv.2.2 hg]
        rcases hown.2 with ⟨h1, h2⟩ | ⟨b, cap, cur, h1, _⟩
        · exact ⟨none, 0, by rw [h1, h2]⟩
        · exact ⟨_, _, h1⟩
      · simp at he
    · simp at he
  · simp at he
theorem run_len_slice {t e : TypeId} (hu : P.underlying t = some (.slice e)) (ty : TypeId) (ad : Option Addr) (n cap : Nat) (w : World) : (Builtin.len_ #[t] ty #[.slice ad n cap]).run P w = .ok (.int .i64 n) w := by
  unfold Builtin.len_; simp [run_underlying hu, Result.andThen, goInt]
theorem run_len_string {t : TypeId} (hu : P.underlying t = some .string) (ty : TypeId) (s : ByteArray) (w : World) : (Builtin.len_ #[t] ty #[.string s]).run P w = .ok (.int .i64 s.size) w := by
  unfold Builtin.len_; simp [run_underlying hu, Result.andThen, goInt]
theorem y_len_of {t : TypeId} {x : Operand} {v : Value} (ho : o.op = .call { callee := .builtin .len, args := #[x], argTypes := #[t] }) (hr : (Builtin.len_ #[t] o.type #[a.eval x]).run P c.w = .ok v c.w) (hv : RV c d v) : Yields P c a o d := by
  refine yields_same (v := v) ?_ hv
  unfold execOp
  simp only [ho, resolve, invoke, Go.builtin, Sem.run_bind, Sem.run_pure, Result.andThen, List.map_toArray, List.map_cons, List.map_nil, hr]
theorem y_lenStr (ht : Tms c tm a) {t t1 : TypeId} {x : Operand} {x' : Opd} (ho : o.op = .call { callee := .builtin .len, args := #[x], argTypes := #[t] })
    (hu : P.underlying t = some .string) (hx : opdT P t1 x = some x') (hv : (match x'.get tm with | .str s => some (D.int .i64 s.size) | _ => none) = some d) : Yields P c a o d := by
  have h1 := opdT_rv ht hx
  split at hv
  · rename_i s e1
    rw [e1] at h1
    simp only [RV] at h1
    simp only [Option.some.injEq] at hv
    subst hv
    exact y_len_of ho (by rw [h1]; exact run_len_string hu _ _ _) (by simp [RV])
  · simp at hv
theorem y_lenSl {B0 : Nat} (hB : ∀ k, BR c B0 k) (ht : Tms c tm a) {t e t1 : TypeId} {x : Operand} {x' : Opd} (ho : o.op = .call { callee := .builtin .len, args := #[x], argTypes := #[t] })
    (hu : P.underlying t = some (.slice e)) (hx : opdT P t1 x = some x') (hv : ((elems c.bx (x'.get tm)).map fun e => D.int .i64 e.2.length) = some d) : Yields P c a o d := by
  have h1 := opdT_rv ht hx
  simp only [Option.map_eq_some_iff] at hv
  obtain ⟨⟨sz, l⟩, he, rfl⟩ := hv
  obtain ⟨ad, cap, h⟩ := elems_own hB h1 he
  exact y_len_of ho (by rw [h]; exact run_len_slice hu _ _ _ _ _) (by simp [RV])
theorem mm_fold (b : Bool) (k : IntKind) (f : Value → Value → Sem Value) (hf : ∀ x y, f (.int k x) (.int k y) = .pure (.int k (if b then (if y > x then y else x) else (if y < x then y else x)))) :
    ∀ {ds : List D} {vs : List Value} {x r : Int}, RVs c ds vs → mmD b k x ds = some r → (vs.foldlM f (Value.int k x)).run P c.w = .ok (.int k r) c.w
  | [], vs, x, r, h, hm => by
    simp only [RVs] at h
    subst h
    simp only [mmD, Option.some.injEq] at hm
    subst hm
    simp
  | d :: ds, vs, x, r, h, hm => by
    simp only [RVs] at h
    obtain ⟨v, rest, rfl, h1, h2⟩ := h
    unfold mmD at hm
    split at hm
    · rename_i e; simp at e
    · rename_i k' y r' e
      simp only [List.cons.injEq] at e
      obtain ⟨rfl, rfl⟩ := e
      simp only [RV] at h1
      split at hm
      · rename_i hk
        subst hk
        subst h1
        have := mm_fold b k' f hf h2 hm
        simp only [List.foldlM_cons, Sem.run_bind]
        rw [hf]
        exact this
      · simp at hm
    · simp at hm
theorem y_mm (ht : Tms c tm a) {t1 t2 : TypeId} {b : Builtin} {k : IntKind} {x : Operand} {xs : List Operand} {x' : Opd} {xs' : List Opd} {cl : Call} (hb : b = .max ∨ b = .min) (ho : o.op = .call cl) (hc : cl.callee = .builtin b) (ha : cl.args.toList = x :: xs)
    (hx : opdT P t1 x = some x') (hxs : mapO (opdT P t2) xs = some xs') (hv : valD tm c.bx C (.mm (isMaxB b) k x' xs') = some d) : Yields P c a o d := by
  have h1 := opdT_rv ht hx
  have h2 := mapO_rv ht hxs
  simp only [valD] at hv
  split at hv
  · rename_i k' n e1
    rw [e1] at h1
    simp only [RV] at h1
    split at hv
    · rename_i hk
      subst hk
      simp only [Option.map_eq_some_iff] at hv
      obtain ⟨r, hm, rfl⟩ := hv
      refine yields_same (v := .int k' r) ?_ (by simp [RV])
      unfold execOp
      obtain ⟨callee, args, ats⟩ := cl
      simp only at hc ha
      subst hc
      have ha' : args.map a.eval = ((Value.int k' n) :: xs.map a.eval).toArray := by
        apply Array.toList_inj.mp
        rw [Array.toList_map, ha]
        simp [h1]
      rcases hb with rfl | rfl
      · simp only [ho, resolve, invoke, Go.builtin, Sem.run_bind, Sem.run_pure, Result.andThen, ha', Builtin.max_]
        rw [mm_fold (P := P) (isMaxB .max) k' Builtin.max2 (by intro x y; simp [isMaxB]; rfl) h2 hm]
      · simp only [ho, resolve, invoke, Go.builtin, Sem.run_bind, Sem.run_pure, Result.andThen, ha', Builtin.min_]
        rw [mm_fold (P := P) (isMaxB .min) k' Builtin.min2 (by intro x y; simp [isMaxB]; rfl) h2 hm]
    · simp at hv
  · simp at hv
def bnd (tm : Nat → D) (dflt : Nat) : Option Opd → Option Nat
  | some h => natOf (h.get tm)
  | none => some dflt
theorem run_bounds (ht : Tms c tm a) {b : Bool} {len cap l h : Nat} {t1 t2 : TypeId} {lo hi : Option Operand} {lo' hi' : Option Opd} (hlo : opdO P t1 lo = some lo') (hhi : opdO P t2 hi = some hi')
    (hh : bnd tm len hi' = some h) (hl : bnd tm 0 lo' = some l) (h1 : l ≤ h) (h2 : h ≤ cap) :
    (Instr.sliceBounds b len cap (lo.map a.eval) (hi.map a.eval) none).run P c.w = .ok (l, h, cap) c.w := by
  have hb : ∀ (ik : IntKind) (code : BoundsCode) (m n : Nat), m ≤ n → (Instr.sliceBound (.int ik m) n code).run P c.w = .ok m c.w := by
    intro ik code m n hmn
    unfold Instr.sliceBound
    simp [asIntOf]
    omega
  have kl : lo = none ∧ l = 0 ∨ ∃ y ik, lo = some y ∧ a.eval y = .int ik l := by
    cases lo with
    | none => simp only [opdO, Option.some.injEq] at hlo; subst hlo; simp only [bnd, Option.some.injEq] at hl; subst hl; exact .inl ⟨rfl, rfl⟩
    | some y =>
      simp only [opdO, Option.map_eq_some_iff] at hlo
      obtain ⟨y', hy', rfl⟩ := hlo
      obtain ⟨ik, hik⟩ := natOf_int (opdT_rv ht hy') hl
      exact .inr ⟨y, ik, rfl, hik⟩
  have kh : hi = none ∧ h = len ∨ ∃ y ik, hi = some y ∧ a.eval y = .int ik h := by
    cases hi with
    | none => simp only [opdO, Option.some.injEq] at hhi; subst hhi; simp only [bnd, Option.some.injEq] at hh; subst hh; exact .inl ⟨rfl, rfl⟩
    | some y =>
      simp only [opdO, Option.map_eq_some_iff] at hhi
      obtain ⟨y', hy', rfl⟩ := hhi
      obtain ⟨ik, hik⟩ := natOf_int (opdT_rv ht hy') hh
      exact .inr ⟨y, ik, rfl, hik⟩
  unfold Instr.sliceBounds
  rcases kl with ⟨rfl, rfl⟩ | ⟨y, ik, rfl, hy⟩ <;> rcases kh with ⟨rfl, rfl⟩ | ⟨z, jk, rfl, hz⟩ <;> simp [*, Result.andThen]
theorem y_slcStr (ht : Tms c tm a) {t t1 t2 t3 : TypeId} {x : Operand} {lo hi : Option Operand} {x' : Opd} {lo' hi' : Option Opd} (ho : o.op = .slice t x lo hi none) (hu : P.underlying t = some .string) (hx : opdT P t1 x = some x')
    (hlo : opdO P t2 lo = some lo') (hhi : opdO P t3 hi = some hi') (hv : valD tm c.bx C (.slcStr x' lo' hi') = some d) : Yields P c a o d := by
  have h1 := opdT_rv ht hx
  simp only [valD] at hv
  split at hv
  · rename_i s e1
    rw [e1] at h1
    simp only [RV] at h1
    simp only [Option.bind_eq_some_iff] at hv
    obtain ⟨h, hh, l, hl, hv⟩ := hv
    split at hv
    · rename_i hle
      obtain ⟨hlh, hhs⟩ := hle
      simp only [Option.some.injEq] at hv
      subst hv
      refine yields_same (v := .string (s.extract l h)) ?_ (by simp [RV])
      unfold execOp
      simp only [ho, h1]
      refine run_v ?_
      unfold Instr.sliceAt
      simp only [Sem.run_bind, run_underlying hu, Result.andThen]
      unfold Instr.slice
      have hr := run_bounds (P := P) ht (b := false) (len := s.size) (cap := s.size) hlo hhi (by cases hi' <;> simpa [bnd] using hh) (by cases lo' <;> simpa [bnd] using hl) hlh hhs
      simp [Sem.run_bind, run_underlying hu, Result.andThen, hr]
    · simp at hv
  · simp at hv
theorem RSl.drop {sz : Nat} {ad : Option Addr} : ∀ {xs : List D} {i : Nat} (n : Nat), RSl c sz ad i xs → RSl c sz ad (i + n) (xs.drop n)
  | xs, i, 0, h => by simpa using h
  | [], i, n + 1, _ => by simp [RSl]
  | x :: xs, i, n + 1, h => by
    simp only [RSl] at h
    have := RSl.drop (i := i + 1) n h.2
    simp only [List.drop_succ_cons]
    rwa [show i + 1 + n = i + (n + 1) from by omega] at this
theorem RSl.take {sz : Nat} {ad : Option Addr} : ∀ {xs : List D} {i : Nat} (n : Nat), RSl c sz ad i xs → RSl c sz ad i (xs.take n)
  | xs, i, 0, h => by simp [RSl]
  | [], i, n + 1, _ => by simp [RSl]
  | x :: xs, i, n + 1, h => by
    simp only [RSl, List.take_succ_cons] at h ⊢
    exact ⟨h.1, RSl.take n h.2⟩
theorem RSl.shift {sz : Nat} {ad : Addr} : ∀ {xs : List D} {i l : Nat}, RSl c sz (some ad) (l + i) xs → RSl c sz (some (ad.add (l * sz))) i xs
  | [], i, l, _ => by simp [RSl]
  | x :: xs, i, l, h => by
    simp only [RSl] at h ⊢
    obtain ⟨⟨ad', ev, he, hA, hb, hr, hs, ho, hc⟩, h2⟩ := h
    simp only [Option.some.injEq] at he
    subst he
    refine ⟨⟨_, ev, rfl, by rw [add_block]; exact hA, by rw [add_block]; exact hb, hr, hs, ho, fun j hj => ?_⟩, ?_⟩
    · rw [add_add, ← hc j hj, show l * sz + (i * sz + j) = (l + i) * sz + j from by rw [Nat.add_mul]; omega]
    · have := RSl.shift (i := i + 1) (l := l) (xs := xs) (by rwa [show l + (i + 1) = l + i + 1 from by omega])
      exact this
theorem y_slc (ht : Tms c tm a) {t e t1 t2 t3 : TypeId} {n : Nat} {x : Operand} {lo hi : Option Operand} {x' : Opd} {lo' hi' : Option Opd} (ho : o.op = .slice t x lo hi none) (hu : P.underlying t = some (.slice e)) (hn : szT P e = some n) (hx : opdT P t1 x = some x')
    (hlo : opdO P t2 lo = some lo') (hhi : opdO P t3 hi = some hi') (hv : valD tm c.bx C (.slc n x' lo' hi') = some d) : Yields P c a o d := by
  have h1 := opdT_rv ht hx
  simp only [valD] at hv
  split at hv
  · rename_i sz nl xs e1
    rw [e1] at h1
    simp only [RV] at h1
    obtain ⟨ad, cap, he, hcap, hnl, hno, hsl⟩ := h1
    simp only [Option.bind_eq_some_iff] at hv
    obtain ⟨h, hh, l, hl, hv⟩ := hv
    split at hv
    · rename_i hle
      obtain ⟨rfl, hlh, hhs⟩ := hle
      simp only [Option.some.injEq] at hv
      subst hv
      have hr := run_bounds (P := P) ht (b := true) (len := xs.length) (cap := cap) hlo hhi (by cases hi' <;> simpa [bnd] using hh) (by cases lo' <;> simpa [bnd] using hl) hlh (Nat.le_trans hhs hcap)
      have hlen : ((xs.take h).drop l).length = h - l := by rw [List.length_drop, List.length_take]; omega
      refine yields_same (v := .slice (if cap = l then ad else ad.map (·.add (l * sz))) (h - l) (cap - l)) ?_ ?_
      · unfold execOp
        simp only [ho, he]
        refine run_v ?_
        unfold Instr.sliceAt
        simp only [Sem.run_bind, run_underlying hu, Result.andThen]
        unfold Instr.slice
        simp [Sem.run_bind, run_underlying hu, Result.andThen, hr, run_szT hn]
      · simp only [RV]
        refine ⟨_, cap - l, by rw [hlen], by rw [hlen]; omega, by simp, ?_, ?_⟩
        · intro h0
          cases ad with
          | none => obtain ⟨rfl, rfl⟩ := hno rfl; simp
          | some ad => split at h0 <;> simp at h0
        · cases ad with
          | none => obtain ⟨rfl, rfl⟩ := hno rfl; simp [RSl]
          | some ad =>
            by_cases hcl : cap = l
            · have h0 : (xs.take h).drop l = [] := List.eq_nil_of_length_eq_zero (by rw [hlen]; omega)
              rw [h0]; simp [RSl]
            · rw [if_neg hcl]
              simp only [Option.map_some]
              have := (hsl.take h).drop l
              exact RSl.shift (i := 0) (by rwa [show l + 0 = 0 + l from by omega])
    · simp at hv
  · simp at hv
theorem y_mki (ht : Tms c tm a) {t t1 : TypeId} {x : Operand} {x' : Opd} (ho : o.op = .makeInterface t x) (hi : aggT P t ≠ none) (hni : ∀ ms, P.underlying t ≠ some (.interface ms)) (hx : opdT P t1 x = some x') (hv : D.iface t (x'.get tm) = d) : Yields P c a o d := by
  have h1 := opdT_rv ht hx
  subst hv
  refine yields_same (v := .iface t (a.eval x)) ?_ (by simp only [RV]; exact ⟨_, rfl, h1⟩)
  unfold execOp
  simp only [ho]
  refine run_v ?_
  unfold Instr.makeInterface
  unfold aggT at hi
  cases hu : P.underlying t with
  | none => rw [hu] at hi; simp at hi
  | some dd =>
    simp only [Sem.run_bind, run_underlying hu, Result.andThen]
    split
    · rename_i ms _; exact absurd hu (hni _)
    · simp
theorem y_mkf (ht : Tms c tm a) {t1 t2 : TypeId} {f : FuncId} {xs ys : Array Operand} {xs' ys' : List Opd} (ho : o.op = .makeFunc (.func f) xs ys) (hx : mapO (opdT P t1) xs.toList = some xs') (hy : mapO (opdT P t2) ys.toList = some ys')
    (hv : D.fn f (xs'.map (·.get tm)) (ys'.map (·.get tm)) = d) : Yields P c a o d := by
  subst hv
  refine yields_same (v := .func (.func f) (xs.map a.eval) (ys.map a.eval)) ?_ ?_
  · unfold execOp
    simp only [ho]
    refine run_v ?_
    simp [Instr.makeFunc]
  · simp only [RV]
    exact ⟨_, _, rfl, by simpa using mapO_rv ht hx, by simpa using mapO_rv ht hy⟩
theorem y_nilc (ht : Tms c tm a) {t1 : TypeId} {x : Operand} {x' : Opd} (ho : o.op = .nilCheck x) (hx : opdT P t1 x = some x') (hv : valD tm c.bx C (.nilc x') = some d) : Yields P c a o d := by
  have h1 := opdT_rv ht hx
  simp only [valD] at hv
  split at hv
  · rename_i f p q e1
    rw [e1] at h1
    simp only [Option.some.injEq] at hv
    subst hv
    have h2 := h1
    simp only [RV] at h1
    obtain ⟨y, z, he, _⟩ := h1
    refine yields_same (v := a.eval x) ?_ h2
    unfold execOp
    simp [ho, he]
  · obtain ⟨ad, he, h2⟩ := fAddrD_rv h1 hv
    have h3 : ad.add 0 = ad := by simp [Addr.add]
    rw [h3] at h2
    refine yields_same (v := a.eval x) ?_ (by rw [he]; exact h2)
    unfold execOp
    simp [ho, he]
theorem y_asr (ht : Tms c tm a) {xt t t1 : TypeId} {ok : Bool} {x : Operand} {x' : Opd} {z : D} (ho : o.op = .typeAssert x xt t ok) (hi : (aggT P t).isSome) (hni : ∀ ms, P.underlying t ≠ some (.interface ms)) (hx : opdT P t1 x = some x') (hz : zeroT P t = some z)
    (hv : valD tm c.bx C (.asr t z ok x') = some d) : Yields P c a o d := by
  have h1 := opdT_rv ht hx
  obtain ⟨zv, hzv, hzr, _⟩ := zeroT_rv hz c
  unfold aggT at hi
  cases hu : P.underlying t with
  | none => rw [hu] at hi; simp at hi
  | some dd =>
    simp only [valD] at hv
    split at hv
    · rename_i t' dv e1
      rw [e1] at h1
      simp only [RV] at h1
      obtain ⟨y, he, hr⟩ := h1
      by_cases htt : t' = t
      · rw [if_pos htt] at hv
        simp only [Option.some.injEq] at hv
        subst hv
        refine yields_same (v := if ok then .tuple #[y, .bool true] else y) ?_ ?_
        · unfold execOp
          simp only [ho, he]
          refine run_v ?_
          unfold Instr.typeAssert
          simp only [Sem.run_bind, run_underlying hu, Result.andThen]
          split
          · rename_i ms _; exact absurd hu (hni _)
          · rename_i ms _; exact absurd hu (hni _)
          · simp at *
          · rename_i h5; simp only [Value.iface.injEq] at h5; obtain ⟨rfl, rfl⟩ := h5; simp [htt]
          · exfalso; first | (rename_i h5; exact h5 _ _ rfl) | (rename_i h5 _; exact h5 _ _ rfl) | (rename_i h5 _ _; exact h5 _ _ rfl)
        · cases ok with
          | true => simp only [if_true, RV]; exact ⟨_, rfl, by simp only [RVs]; exact ⟨_, _, rfl, hr, _, _, rfl, by simp [RV], rfl⟩⟩
          | false => simpa using hr
      · rw [if_neg htt] at hv
        cases ok with
        | false => simp at hv
        | true =>
          simp only [if_true, Option.some.injEq] at hv
          subst hv
          refine yields_same (v := .tuple #[zv, .bool false]) ?_ (by simp only [RV]; exact ⟨_, rfl, by simp only [RVs]; exact ⟨_, _, rfl, hzr, _, _, rfl, by simp [RV], rfl⟩⟩)
          unfold execOp
          simp only [ho, he]
          refine run_v ?_
          unfold Instr.typeAssert
          simp only [Sem.run_bind, run_underlying hu, Result.andThen]
          split
          · rename_i ms _; exact absurd hu (hni _)
          · rename_i ms _; exact absurd hu (hni _)
          · simp at *
          · rename_i h5; simp only [Value.iface.injEq] at h5; obtain ⟨rfl, rfl⟩ := h5; simp [htt, run_zeroT hzv, Result.andThen]
          · exfalso; first | (rename_i h5; exact h5 _ _ rfl) | (rename_i h5 _; exact h5 _ _ rfl) | (rename_i h5 _ _; exact h5 _ _ rfl)
    · rename_i e1
      rw [e1] at h1
      simp only [RV] at h1
      cases ok with
      | false => simp at hv
      | true =>
        simp only [if_true, Option.some.injEq] at hv
        subst hv
        refine yields_same (v := .tuple #[zv, .bool false]) ?_ (by simp only [RV]; exact ⟨_, rfl, by simp only [RVs]; exact ⟨_, _, rfl, hzr, _, _, rfl, by simp [RV], rfl⟩⟩)
        unfold execOp
        simp only [ho, h1]
        refine run_v ?_
        unfold Instr.typeAssert
        simp only [Sem.run_bind, run_underlying hu, Result.andThen]
        split
        · rename_i ms _; exact absurd hu (hni _)
        · rename_i ms _; exact absurd hu (hni _)
        · simp [run_zeroT hzv, Result.andThen]
        · rename_i h5; simp at h5
        · exfalso; first | (rename_i h5; exact h5 rfl) | (rename_i h5 _; exact h5 rfl) | (rename_i h5 _ _; exact h5 rfl) | (rename_i h5; exact h5 _ _ rfl) | (rename_i h5 h6; exact h6 rfl) | simp at *
    · simp at hv
theorem foldl_set : ∀ (vs : List Value) (j : Nat) (cs : Array Value) (off : Nat), off + j + vs.length ≤ cs.size →
    (vs.zipIdx j).foldl (fun cs (x : Value × Nat) => cs.setIfInBounds (off + x.2) x.1) cs = (cs.toList.take (off + j) ++ vs ++ cs.toList.drop (off + j + vs.length)).toArray
  | [], j, cs, off, h => by simp
  | v :: vs, j, cs, off, h => by
    simp only [List.zipIdx_cons, List.foldl_cons, List.length_cons] at h ⊢
    rw [foldl_set vs (j + 1) _ off (by simp; omega)]
    apply Array.toList_inj.mp
    simp only [Array.toList_setIfInBounds]
    rw [show off + (j + 1) = off + j + 1 from by omega]
    have hlt : off + j < cs.toList.length := by simp; omega
    rw [List.take_succ_eq_append_getElem (by simpa using hlt), List.take_set_of_le (Nat.le_refl _), List.getElem_set_self, List.drop_set_of_lt (by omega)]
    simp only [List.append_assoc, List.cons_append, List.nil_append]
    rw [show off + j + 1 + vs.length = off + j + (vs.length + 1) from by omega]
theorem over_rv {ds es : List D} {vs us : List Value} {off : Nat} (h : RVs c ds vs) (k : RVs c es us) : RVs c (over ds off es) (vs.take off ++ us ++ vs.drop (off + us.length)) := by
  unfold over
  rw [k.length]
  exact ((h.take off).append k).append (h.drop _)
theorem over_one {vs us : List Value} {off n : Nat} (h : ∀ u ∈ vs, u.oneCell' = true) (k : ∀ u ∈ us, u.oneCell' = true) : ∀ u ∈ vs.take off ++ us ++ vs.drop n, u.oneCell' = true := by
  intro u hu
  rcases List.mem_append.1 hu with hu | hu
  · rcases List.mem_append.1 hu with hu | hu
    · exact h u (List.mem_of_mem_take hu)
    · exact k u hu
  · exact h u (List.mem_of_mem_drop hu)
inductive Fa2 {α β : Type} (R : α → β → Prop) : List α → List β → Prop
  | nil : Fa2 R [] []
  | cons {x : α} {y : β} {xs : List α} {ys : List β} : R x y → Fa2 R xs ys → Fa2 R (x :: xs) (y :: ys)
theorem fill_rv {place : Nat → Option (Nat × Nat)} : ∀ {ps : List (Nat × Nat × D)} {vps : List (Nat × Value)} {cells r : List D} {vc : Array Value},
    Fa2 (fun p q => place q.1 = some (p.1, p.2.1) ∧ RV c p.2.2 q.2) ps vps → RVs c cells vc.toList → (∀ u ∈ vc.toList, u.oneCell' = true) → buildD cells ps = some r →
    ∃ out, Instr.fill place vc vps = some out ∧ RVs c r out.toList ∧ ∀ u ∈ out.toList, u.oneCell' = true
  | [], _, cells, r, vc, h, hc, ho, hb => by
    cases h
    simp only [buildD, Option.some.injEq] at hb
    subst hb
    exact ⟨vc, rfl, hc, ho⟩
  | (off, n, dv) :: ps, _, cells, r, vc, h, hc, ho, hb => by
    cases h with
    | @cons _ q _ vps h1 h2 =>
      simp only [buildD] at hb
      split at hb
      · rename_i hcond
        obtain ⟨hl, hone, hle⟩ := hcond
        obtain ⟨hp, hv⟩ := h1
        obtain ⟨hcs, hco⟩ := hv.cells hone
        have hsz := hv.cells_size hone
        have hlc := hc.length
        simp only [Array.length_toList] at hlc
        obtain ⟨qi, qv⟩ := q
        simp only at hp hv hcs hco hsz
        simp only [Instr.fill, hp]
        rw [if_neg (by simp; omega)]
        have hfold := foldl_set qv.cells.toList 0 vc off (by simp; omega)
        simp only [Nat.add_zero] at hfold
        have harr : (qv.cells.zipIdx.foldl (fun cs (x : Value × Nat) => cs.setIfInBounds (off + x.2) x.1) vc) = (vc.toList.take off ++ qv.cells.toList ++ vc.toList.drop (off + qv.cells.toList.length)).toArray := by
          rw [← hfold, ← Array.foldl_toList, Array.toList_zipIdx]
        have := fill_rv (vc := (vc.toList.take off ++ qv.cells.toList ++ vc.toList.drop (off + qv.cells.toList.length)).toArray) h2 (by simpa using over_rv hc hcs) (by simpa using over_one ho hco) hb
        rw [← harr] at this
        exact this
      · simp at hb
theorem partsT_rv (ht : Tms c tm a) {t : TypeId} {place : Nat → Option (Nat × Nat)}
    (hs : ∀ fs, P.underlying t = some (.struct fs) → ∀ (i : Nat) (f : Field) (n : Nat), fs[i]? = some f → szT P f.type = some n → place i = some (f.offset, n))
    (ha : ∀ (k : Nat) (e : TypeId) (n : Nat), P.underlying t = some (.array k e) → szT P e = some n → ∀ i, place i = some (i * n, n)) :
    ∀ {ps : List (Nat × Operand)} {l : List (Nat × Nat × Opd)}, partsT P t ps = some l →
      Fa2 (fun (p : Nat × Nat × D) (q : Nat × Value) => place q.1 = some (p.1, p.2.1) ∧ RV c p.2.2 q.2) (l.map fun p => (p.1, p.2.1, p.2.2.get tm)) (ps.map fun p => (p.1, a.eval p.2))
  | [], l, h => by simp only [partsT, Option.some.injEq] at h; subst h; exact .nil
  | (i, x) :: ps, l, h => by
    unfold partsT at h
    split at h
    · rename_i fs hu
      simp only [Option.bind_eq_some_iff, Option.map_eq_some_iff] at h
      obtain ⟨f, hf, n, hn, y, hy, r, hr, rfl⟩ := h
      exact .cons ⟨hs fs hu i f n hf hn, opdT_rv ht hy⟩ (partsT_rv ht hs ha hr)
    · rename_i k e hu
      simp only [Option.bind_eq_some_iff, Option.map_eq_some_iff] at h
      obtain ⟨n, hn, y, hy, r, hr, rfl⟩ := h
      exact .cons ⟨ha k e n hu hn i, opdT_rv ht hy⟩ (partsT_rv ht hs ha hr)
    · simp at h
theorem szT_info {t : TypeId} {n : Nat} (h : szT P t = some n) : ∃ i, P.info? t = some i ∧ i.size = n := by
  unfold szT at h
  simpa only [Option.map_eq_some_iff] using h
theorem places_get : ∀ (fs : List Field) (places : List (Nat × Nat)), fs.mapM (fun f => (P.info? f.type).map fun i => (f.offset, i.size)) = some places → ∀ (i : Nat) (f : Field) (n : Nat), fs[i]? = some f → szT P f.type = some n → places[i]? = some (f.offset, n)
  | [], places, h, i, f, n, hf, _ => by simp at hf
  | g :: fs, places, h, i, f, n, hf, hn => by
    simp only [List.mapM_cons, Option.bind_eq_bind, Option.pure_def, Option.bind_eq_some_iff, Option.some.injEq] at h
    obtain ⟨p, hp, r, hr, rfl⟩ := h
    cases i with
    | zero =>
      simp only [List.getElem?_cons_zero, Option.some.injEq] at hf
      subst hf
      obtain ⟨inf, hi, rfl⟩ := szT_info hn
      rw [hi] at hp
      simp only [Option.map_some, Option.some.injEq] at hp
      subst hp
      rfl
    | succ i =>
      simp only [List.getElem?_cons_succ] at hf ⊢
      exact places_get fs r hr i f n hf hn
theorem y_build (ht : Tms c tm a) {t : TypeId} {parts : Array (Nat × Operand)} {z : D} {l : List (Nat × Nat × Opd)} (ho : o.op = .build t parts) (hz : zeroT P t = some z) (hk : fieldsKnown P t = true) (hp : partsT P t parts.toList = some l)
    (hv : valD tm c.bx C (.build z.cells l) = some d) : Yields P c a o d := by
  obtain ⟨zv, hzv, hzr, hz1⟩ := zeroT_rv hz c
  obtain ⟨hzc, hzo⟩ := hzr.cells hz1
  simp only [valD, Option.map_eq_some_iff] at hv
  obtain ⟨r, hr, rfl⟩ := hv
  cases hit : P.info? t with
  | none => rw [hit] at hzv; simp at hzv
  | some it =>
    rw [hit] at hzv
    simp only [Option.bind_some] at hzv
    have key : ∃ place : Nat → Option (Nat × Nat), (∀ vps, P.built t vps = Instr.fill place zv.cells vps) ∧
        (∀ fs, P.underlying t = some (.struct fs) → ∀ (i : Nat) (f : Field) (n : Nat), fs[i]? = some f → szT P f.type = some n → place i = some (f.offset, n)) ∧
        (∀ (k : Nat) (e : TypeId) (n : Nat), P.underlying t = some (.array k e) → szT P e = some n → ∀ i, place i = some (i * n, n)) := by
      unfold fieldsKnown at hk
      split at hk
      · rename_i fs hu
        obtain ⟨places, hpl⟩ := Option.isSome_iff_exists.1 hk
        refine ⟨(places.toArray[·]?), fun vps => ?_, fun fs' hu' i f n hf hn => ?_, fun k e n hu' => ?_⟩
        · unfold Program.built; simp only [hit, hu, hzv, hpl]
        · rw [hu] at hu'
          simp only [Option.some.injEq, TypeDesc.struct.injEq] at hu'
          subst hu'
          simpa using places_get fs.toList places hpl i f n (by simpa using hf) hn
        · rw [hu] at hu'; simp at hu'
      · rename_i k e hu
        obtain ⟨ie, hie⟩ := Option.isSome_iff_exists.1 hk
        refine ⟨fun i => some (i * ie.size, ie.size), fun vps => ?_, fun fs' hu' => ?_, fun k' e' n hu' hn i => ?_⟩
        · unfold Program.built; simp only [hit, hu, hzv, hie]
        · rw [hu] at hu'; simp at hu'
        · rw [hu] at hu'
          simp only [Option.some.injEq, TypeDesc.array.injEq] at hu'
          obtain ⟨_, rfl⟩ := hu'
          obtain ⟨inf, hi, rfl⟩ := szT_info hn
          rw [hie] at hi
          simp only [Option.some.injEq] at hi
          rw [hi]
      · simp at hk
    obtain ⟨place, hb, hs, ha⟩ := key
    obtain ⟨out, h1, h2, h3⟩ := fill_rv (partsT_rv ht hs ha hp) hzc hzo hr
    refine yields_same (v := .agg out) ?_ (by simp only [RV]; exact ⟨out, rfl, h2, h3⟩)
    unfold execOp
    simp only [ho]
    refine run_v (run_build c.w t _ out ?_)
    rw [hb, ← h1, Array.toList_map]
end
end Go.Proofs.AM
namespace Go.Proofs.AM
open Go Go.RowKit
section
variable {P : Program} {c : Cx} {tm : Nat → D} {a : Act} {o : Oper} {d : D} {C : Nat → List D → Option D}
theorem REl.set {sz : Nat} : ∀ {ds : List D} {xs : List Value} {i : Nat} {x : D} {ev : Value}, REl c sz ds xs → i < ds.length → RV c x ev → ev.cells.size = sz → (∀ u ∈ ev.cells.toList, u.oneCell' = true) →
    REl c sz (ds.set i x) (xs.take (i * sz) ++ ev.cells.toList ++ xs.drop (i * sz + sz))
  | [], _, i, _, _, _, hi, _, _, _ => by simp at hi
  | e :: ds, xs, 0, x, ev, h, _, hv, hs, ho => by
    simp only [REl] at h
    obtain ⟨e0, rest, rfl, h1, h2, h3, h4⟩ := h
    simp only [List.set_cons_zero, REl]
    refine ⟨ev, rest, ?_, hs, hv, ho, h4⟩
    rw [Nat.zero_mul, Nat.zero_add, List.take_zero, List.nil_append, List.drop_append_of_le_length (by simp [h1]), List.drop_of_length_le (by simp [h1]), List.nil_append]
  | e :: ds, xs, i + 1, x, ev, h, hi, hv, hs, ho => by
    simp only [REl] at h
    obtain ⟨e0, rest, rfl, h1, h2, h3, h4⟩ := h
    simp only [List.set_cons_succ, REl]
    have := REl.set (i := i) h4 (by simpa using hi) hv hs ho
    refine ⟨e0, _, ?_, h1, h2, h3, this⟩
    have hl : e0.cells.toList.length = sz := by simp [h1]
    rw [show (i + 1) * sz = e0.cells.toList.length + i * sz from by rw [hl, Nat.add_mul]; omega]
    rw [List.take_length_add_append, Nat.add_assoc, List.drop_length_add_append]
    simp only [List.append_assoc]
theorem REl.replicate {sz : Nat} {z : D} {zv : Value} (h : RV c z zv) (hs : zv.cells.size = sz) (ho : ∀ u ∈ zv.cells.toList, u.oneCell' = true) : ∀ n, REl c sz (List.replicate n z) (List.replicate n zv.cells.toList).flatten
  | 0 => by simp [REl]
  | n + 1 => by
    simp only [List.replicate_succ, List.flatten_cons, REl]
    exact ⟨zv, _, rfl, hs, h, ho, REl.replicate h hs ho n⟩
theorem REl.append {sz : Nat} : ∀ {ds es : List D} {xs ys : List Value}, REl c sz ds xs → REl c sz es ys → REl c sz (ds ++ es) (xs ++ ys)
  | [], _, _, _, h, k => by simp only [REl] at h; subst h; simpa using k
  | e :: ds, es, xs, ys, h, k => by
    simp only [REl] at h
    obtain ⟨e0, rest, rfl, h1, h2, h3, h4⟩ := h
    simp only [List.cons_append, REl]
    exact ⟨e0, _, by rw [List.append_assoc], h1, h2, h3, h4.append k⟩
theorem REl.one {sz : Nat} : ∀ {ds : List D} {xs : List Value}, REl c sz ds xs → ∀ u ∈ xs, u.oneCell' = true
  | [], _, h => by simp only [REl] at h; subst h; simp
  | e :: ds, xs, h => by
    simp only [REl] at h
    obtain ⟨e0, rest, rfl, _, _, h3, h4⟩ := h
    intro u hu
    rcases List.mem_append.1 hu with hu | hu
    · exact h3 u hu
    · exact h4.one u hu
theorem replicate_cells (zc : Array Value) (n sz : Nat) (hs : zc.size = sz) (h0 : 0 < sz) : ((Array.range (n * sz)).map (zc[· % zc.size]!)).toList = (List.replicate n zc.toList).flatten := by
  subst hs
  induction n with
  | zero => simp
  | succ n ih =>
    rw [List.replicate_succ', List.flatten_append, ← ih]
    simp only [Array.toList_map, Array.toList_range, List.flatten_cons, List.flatten_nil, List.append_nil]
    rw [Nat.add_mul, Nat.one_mul, List.range_add, List.map_append]
    congr 1
    rw [List.map_map]
    apply List.ext_getElem
    · simp
    · intro i h1 h2
      simp only [List.length_map, List.length_range] at h1
      simp only [List.getElem_map, List.getElem_range, Function.comp]
      rw [show (n * zc.size + i) % zc.size = i from by rw [Nat.mul_comm, Nat.mul_add_mod]; exact Nat.mod_eq_of_lt h1]
      simp [h1]
theorem fill_el {sz : Nat} : ∀ {ps : List (Nat × D)} {vps : List (Nat × Value)} {l r : List D} {vc : Array Value},
    Fa2 (fun p q => q.1 = p.1 ∧ RV c p.2 q.2) ps vps → REl c sz l vc.toList → elemsD sz l ps = some r →
    ∃ out, Instr.fill (fun i => some (i * sz, sz)) vc vps = some out ∧ REl c sz r out.toList
  | [], _, l, r, vc, h, hc, hb => by
    cases h
    simp only [elemsD, Option.some.injEq] at hb
    subst hb
    exact ⟨vc, rfl, hc⟩
  | (i, dv) :: ps, _, l, r, vc, h, hc, hb => by
    cases h with
    | @cons _ q _ vps h1 h2 =>
      simp only [elemsD] at hb
      split at hb
      · rename_i hcond
        obtain ⟨hl, hone, hlt⟩ := hcond
        obtain ⟨hp, hv⟩ := h1
        obtain ⟨qi, qv⟩ := q
        simp only at hp hv
        subst hp
        obtain ⟨_, hco⟩ := hv.cells hone
        have hsz := hv.cells_size hone
        have hlc := rel_length hc
        simp only [Array.length_toList] at hlc
        have hmul : qi * sz + sz ≤ l.length * sz := by
          have := Nat.mul_le_mul_right sz hlt
          rw [Nat.succ_mul] at this; exact this
        simp only [Instr.fill]
        rw [if_neg (by simp; omega)]
        have hfold := foldl_set qv.cells.toList 0 vc (qi * sz) (by simp; omega)
        simp only [Nat.add_zero] at hfold
        have harr : (qv.cells.zipIdx.foldl (fun cs (x : Value × Nat) => cs.setIfInBounds (qi * sz + x.2) x.1) vc) = (vc.toList.take (qi * sz) ++ qv.cells.toList ++ vc.toList.drop (qi * sz + sz)).toArray := by
          rw [show qi * sz + sz = qi * sz + qv.cells.toList.length from by simp; omega, ← hfold, ← Array.foldl_toList, Array.toList_zipIdx]
        have := fill_el (vc := (vc.toList.take (qi * sz) ++ qv.cells.toList ++ vc.toList.drop (qi * sz + sz)).toArray) h2 (by simpa using hc.set hlt hv (by omega) hco) hb
        rw [← harr] at this
        exact this
      · simp at hb
theorem pairs_rv (ht : Tms c tm a) {e : TypeId} : ∀ {ps : List (Nat × Operand)} {l : List (Nat × Opd)}, mapO (fun p : Nat × Operand => (opdT P e p.2).map fun y => (p.1, y)) ps = some l →
    Fa2 (fun (p : Nat × D) (q : Nat × Value) => q.1 = p.1 ∧ RV c p.2 q.2) (l.map fun p => (p.1, p.2.get tm)) (ps.map fun p => (p.1, a.eval p.2))
  | [], l, h => by simp only [mapO, Option.some.injEq] at h; subst h; exact .nil
  | (i, x) :: ps, l, h => by
    simp only [mapO, Option.bind_eq_some_iff, Option.map_eq_some_iff] at h
    obtain ⟨y, ⟨y', hy, rfl⟩, r, hr, rfl⟩ := h
    exact .cons ⟨rfl, opdT_rv ht hy⟩ (pairs_rv ht hr)
theorem run_mkSl (ht : Tms c tm a) {t e : TypeId} {len n : Nat} {parts : Array (Nat × Operand)} {z : D} {l : List (Nat × Opd)} {r : List D} (hu : P.underlying t = some (.slice e)) (hn : szT P e = some n) (hz : zeroT P e = some z) (h0 : 0 < n) (hsm : len * n ≤ 16777216)
    (hp : mapO (fun p : Nat × Operand => (opdT P e p.2).map fun y => (p.1, y)) parts.toList = some l) (hzl : z.cells.length = n) (hr : elemsD n (List.replicate len z) (l.map fun p => (p.1, p.2.get tm)) = some r) :
    ∃ cells : Array Value, (Instr.buildSlice t len (parts.map fun (i, x) => (i, a.eval x))).run P c.w = .ok (.slice (some ⟨c.w.heap.size, 0, none⟩) len len) (c.w.alloc (.cells cells e)) ∧ REl c n r cells.toList ∧ r.length = len := by
  obtain ⟨zv, hzv, hzr, hz1⟩ := zeroT_rv hz c
  obtain ⟨hzc, hzo⟩ := hzr.cells hz1
  have hzs := hzr.cells_size hz1
  obtain ⟨ie, hie, rfl⟩ := szT_info hn
  rw [hie] at hzv
  simp only [Option.bind_some] at hzv
  have hrep := REl.replicate (c := c) (sz := ie.size) hzr (by omega) hzo len
  rw [← replicate_cells zv.cells len ie.size (by omega) h0] at hrep
  obtain ⟨out, h1, h2⟩ := fill_el (pairs_rv ht hp) hrep hr
  have hlen : ∀ {ps : List (Nat × D)} {l r : List D}, elemsD ie.size l ps = some r → r.length = l.length := by
    intro ps
    induction ps with
    | nil => intro l r h; simp only [elemsD, Option.some.injEq] at h; rw [h]
    | cons p ps ih =>
      intro l r h
      obtain ⟨i, v⟩ := p
      simp only [elemsD] at h
      split at h
      · rw [ih h]; simp
      · simp at h
  refine ⟨out, ?_, h2, by rw [hlen hr]; simp⟩
  cases len with
  | zero =>
    have hpn : parts.toList = [] := by
      cases hpl : parts.toList with
      | nil => rfl
      | cons p ps =>
        rw [hpl] at hp
        simp only [mapO, Option.bind_eq_some_iff, Option.map_eq_some_iff] at hp
        obtain ⟨y, ⟨y', _, rfl⟩, r', _, rfl⟩ := hp
        simp [elemsD] at hr
    have hpa : parts = #[] := Array.toList_inj.mp (by rw [hpn])
    subst hpa
    simp only [List.map_nil, Instr.fill, Option.some.injEq] at h1
    have h00 : ∀ f : Nat → Value, (Array.range 0).map f = #[] := fun f => by apply Array.toList_inj.mp; simp
    simp [Instr.buildSlice, run_underlying hu, sizeOf, typeInfo, hie, Instr.fill, newRow, ← h1, h00]
  | succ k =>
    rw [run_buildSlice c.w t e (k + 1) _ out ie zv hu hie hzv (by omega) (Nat.mul_ne_zero (by omega) (by omega)) ?_]
    rw [← h1, Array.toList_map]
theorem rsl_flat {sz : Nat} {ad : Addr} : ∀ {xs : List D} {i : Nat}, RSl c sz (some ad) i xs → ∃ vs, REl c sz xs vs ∧ ∀ j u, vs[j]? = some u → c.w.cell? (ad.add (i * sz + j)) = some u
  | [], i, _ => ⟨[], by simp [REl], by simp⟩
  | x :: xs, i, h => by
    simp only [RSl] at h
    obtain ⟨⟨ad', ev, he, _, _, hr, hs, ho, hc⟩, h2⟩ := h
    simp only [Option.some.injEq] at he
    subst he
    obtain ⟨vs, k1, k2⟩ := rsl_flat h2
    refine ⟨ev.cells.toList ++ vs, by simp only [REl]; exact ⟨ev, vs, rfl, hs, hr, ho, k1⟩, fun j u hj => ?_⟩
    by_cases hlt : j < sz
    · rw [List.getElem?_append_left (by simpa [hs] using hlt)] at hj
      rw [hc j hlt]
      simpa using hj
    · rw [List.getElem?_append_right (by simp [hs]; omega)] at hj
      have := k2 _ u hj
      rw [← this]
      congr 2
      simp only [Array.length_toList, hs, Nat.add_mul]
      omega
theorem elems_flat {B0 : Nat} (hB : ∀ k, BR c B0 k) {x : D} {v : Value} (hv : RV c x v) {sz : Nat} {l : List D} (he : elems c.bx x = some (sz, l)) :
    ∃ ad cap vs, v = .slice ad l.length cap ∧ REl c sz l vs ∧ (ad = none → l = [] ∧ cap = 0) ∧ ∀ ad', ad = some ad' → ∀ j u, vs[j]? = some u → c.w.cell? (ad'.add j) = some u := by
  unfold elems at he
  split at he
  · simp only [Option.some.injEq, Prod.mk.injEq] at he
    obtain ⟨rfl, rfl⟩ := he
    simp only [RV] at hv
    obtain ⟨ad, cap, h, _, _, hno, hsl⟩ := hv
    cases ad with
    | none =>
      obtain ⟨h1, h2⟩ := hno rfl
      exact ⟨none, cap, [], h, by rw [h1]; simp [REl], fun _ => ⟨h1, h2⟩, by simp⟩
    | some ad =>
      obtain ⟨vs, k1, k2⟩ := rsl_flat hsl
      refine ⟨some ad, cap, vs, h, k1, by simp, fun ad' e j u hj => ?_⟩
      simp only [Option.some.injEq] at e
      subst e
      have := k2 j u hj
      simpa using this
  · rename_i k g
    split at he
    · rename_i hc
      obtain ⟨hg, hst⟩ := hc
      split at he
      · rename_i sz' et hk
        simp only [Option.some.injEq, Prod.mk.injEq] at he
        obtain ⟨rfl, rfl⟩ := he
        have hb := hB k hst
        rw [hk] at hb
        obtain ⟨xs, _, hown, hrel⟩ := hb
        simp only [RV] at hv
        have hv' := hv.2.2 hg
        rcases hown.2 with ⟨h1, h2⟩ | ⟨b, cap, cur, h1, _⟩
        · have h0 : (c.bx k).cs = [] := List.eq_nil_of_length_eq_zero h2
          exact ⟨none, 0, xs, by rw [hv', h1, h2], hrel, fun _ => ⟨h0, rfl⟩, by simp⟩
        · refine ⟨some ⟨b, 0, none⟩, cap, xs, by rw [hv', h1], hrel, by simp, fun ad' e' j u hj => ?_⟩
          simp only [Option.some.injEq] at e'
          subst e'
          exact hown.cells (g := b) (by rw [h1]; rfl) j u hj
      · simp at he
    · simp at he
  · simp at he
theorem REl.bytes : ∀ {ds : List D} {bs : List UInt8}, strOf ds = some bs → ∀ {vs : List Value}, REl c 1 ds vs → vs = bs.map fun b => .int .u8 b.toNat
  | [], bs, h, vs, hv => by
    simp only [strOf, Option.some.injEq] at h
    subst h
    simpa [REl] using hv
  | d :: ds, bs, h, vs, hv => by
    unfold strOf at h
    split at h
    · rename_i e; simp at e
    · rename_i n r e
      simp only [List.cons.injEq] at e
      obtain ⟨rfl, rfl⟩ := e
      split at h
      · rename_i h0
        simp only [Option.map_eq_some_iff] at h
        obtain ⟨bs', hr, rfl⟩ := h
        simp only [REl] at hv
        obtain ⟨ev, r', rfl, _, h1, _, h2⟩ := hv
        simp only [RV] at h1
        subst h1
        have := REl.bytes hr h2
        subst this
        simp only [Value.cells, List.map_cons, List.cons_append, List.nil_append, List.cons.injEq, Value.int.injEq, true_and, and_true]
        rw [UInt8.toNat_ofNat']
        omega
      · simp at h
    · simp at h
theorem isU8_eq {e : TypeId} (h : isU8 P e = true) : P.underlying e = some (.int .u8) := by
  unfold isU8 at h
  split at h
  · assumption
  · simp at h
theorem y_bytesToStr {B0 : Nat} (hB : ∀ k, BR c B0 k) (ht : Tms c tm a) {s t e t1 : TypeId} {x : Operand} {x' : Opd} (ho : o.op = .convert s t x) (hs : P.underlying s = some (.slice e)) (he : isU8 P e = true) (hu : P.underlying t = some .string) (hx : opdT P t1 x = some x')
    (hv : valD tm c.bx C (.cvBS x') = some d) : Yields P c a o d := by
  have h1 := opdT_rv ht hx
  simp only [valD, Option.bind_eq_some_iff] at hv
  obtain ⟨⟨sz, ds⟩, hel, hv⟩ := hv
  split at hv
  · rename_i hsz
    simp only at hsz hv
    subst hsz
    simp only [Option.map_eq_some_iff] at hv
    obtain ⟨bs, hb, rfl⟩ := hv
    obtain ⟨ad, cap, vs, h2, h3, h4, h5⟩ := elems_flat hB h1 hel
    have hvs := REl.bytes hb h3
    have hlen : ds.length = bs.length := by have := rel_length h3; rw [hvs] at this; simpa using this.symm
    refine yields_same (v := .string ⟨bs.toArray⟩) ?_ (by simp [RV])
    unfold execOp
    simp only [ho, h2]
    refine run_v ?_
    cases ad with
    | none =>
      obtain ⟨h0, _⟩ := h4 rfl
      subst h0
      obtain rfl : bs = [] := List.eq_nil_of_length_eq_zero (by simpa using hlen.symm)
      exact run_convert_bytes_nil (w := c.w) s e hs (isU8_eq he) 0 cap t hu
    | some ad =>
      rw [hlen]
      refine run_convert_bytes_back c.w s t e ad cap bs hs (isU8_eq he) hu fun j hj => ?_
      refine h5 ad rfl j _ ?_
      rw [hvs]
      simp [hj]
  · simp at hv
end
end Go.Proofs.AM
namespace Go.Proofs.AM
open Go Go.RowKit
structure Wider (c c' : Cx) : Prop where
  w : c'.w = c.w
  A : ∀ b, b < c.w.heap.size → c.A b → c'.A b
mutual
theorem RV.closed {c c' : Cx} (h : Wider c c') : ∀ (d : D) (v : Value), closed d = true → RV c d v → RV c' d v
  | .junk, _, _, hv => by simp [RV] at hv
  | .undef, _, _, hv => by simpa [RV] using hv
  | .int _ _, _, _, hv => by simpa [RV] using hv
  | .bool _, _, _, hv => by simpa [RV] using hv
  | .str _, _, _, hv => by simpa [RV] using hv
  | .agg cs, v, hc, hv => by
    simp only [RV, AM.closed] at hv hc ⊢
    obtain ⟨vs, e, hs, ho⟩ := hv
    exact ⟨vs, e, RVs.closed h cs _ hc hs, ho⟩
  | .tup cs, v, hc, hv => by
    simp only [RV, AM.closed] at hv hc ⊢
    obtain ⟨vs, e, hs⟩ := hv
    exact ⟨vs, e, RVs.closed h cs _ hc hs⟩
  | .sl sz nl xs, v, hc, hv => by
    simp only [RV, AM.closed] at hv hc ⊢
    obtain ⟨a, cap, e, h1, h3, h4, h5⟩ := hv
    exact ⟨a, cap, e, h1, h3, h4, RSl.closed h sz a 0 xs hc h5⟩
  | .own k g, v, hc, hv => by simp [AM.closed] at hc
  | .mapr k g, v, hc, hv => by simp [AM.closed] at hc
  | .ptr k g off, v, hc, hv => by simp [AM.closed] at hc
  | .eptr k g i off, v, hc, hv => by simp [AM.closed] at hc
  | .vptr x off, v, hc, hv => by
    simp only [RV, AM.closed] at hv hc ⊢
    obtain ⟨ad, ev, e, hA, hb, hx, ho, hcl⟩ := hv
    exact ⟨ad, ev, e, h.A _ hb hA, by rw [h.w]; exact hb, RV.closed h x ev hc hx, ho, by rw [h.w]; exact hcl⟩
  | .nilp, _, _, hv => by simpa [RV] using hv
  | .fn f a b, v, hc, hv => by
    simp only [RV, AM.closed, Bool.and_eq_true] at hv hc ⊢
    obtain ⟨x, y, e, h1, h2⟩ := hv
    exact ⟨x, y, e, RVs.closed h a _ hc.1 h1, RVs.closed h b _ hc.2 h2⟩
  | .nilf, _, _, hv => by simpa [RV] using hv
  | .iface t d, v, hc, hv => by
    simp only [RV, AM.closed] at hv hc ⊢
    obtain ⟨x, e, hx⟩ := hv
    exact ⟨x, e, RV.closed h d x hc hx⟩
  | .nili, _, _, hv => by simpa [RV] using hv
  | .opq, _, _, hv => by simpa [RV] using hv
  | .mapv es, v, hc, hv => by
    simp only [RV, AM.closed] at hv hc ⊢
    obtain ⟨b, mes, clk, e, hA, hm, hr⟩ := hv
    exact ⟨b, mes, clk, e, h.A b (Array.getElem?_eq_some_iff.mp hm.1).1 hA, by rw [h.w]; exact hm, REs.closed h es _ hc hr⟩
  | .nilm, _, _, hv => by simpa [RV] using hv
theorem RVs.closed {c c' : Cx} (h : Wider c c') : ∀ (ds : List D) (vs : List Value), closedL ds = true → RVs c ds vs → RVs c' ds vs
  | [], _, _, hv => by simpa [RVs] using hv
  | d :: ds, _, hc, hv => by
    simp only [RVs, closedL, Bool.and_eq_true] at hv hc ⊢
    obtain ⟨v, r, e, h1, h2⟩ := hv
    exact ⟨v, r, e, RV.closed h d v hc.1 h1, RVs.closed h ds r hc.2 h2⟩
theorem RSl.closed {c c' : Cx} (h : Wider c c') (sz : Nat) (a : Option Addr) : ∀ (i : Nat) (xs : List D), closedL xs = true → RSl c sz a i xs → RSl c' sz a i xs
  | _, [], _, _ => by simp [RSl]
  | i, x :: xs, hc, hv => by
    simp only [RSl, closedL, Bool.and_eq_true] at hv hc ⊢
    obtain ⟨⟨ad, ev, e, hA, hb, hx, hs, ho, hcl⟩, hr⟩ := hv
    exact ⟨⟨ad, ev, e, h.A _ hb hA, by rw [h.w]; exact hb, RV.closed h x ev hc.1 hx, hs, ho, by rw [h.w]; exact hcl⟩, RSl.closed h sz a (i + 1) xs hc.2 hr⟩
theorem REs.closed {c c' : Cx} (h : Wider c c') : ∀ (ds : List D) (es : List MapEntry), closedL ds = true → REs c ds es → REs c' ds es
  | [], _, _, hv => by simpa [REs] using hv
  | d :: ds, _, hc, hv => by
    simp only [REs, closedL, Bool.and_eq_true] at hv hc ⊢
    obtain ⟨e, r, he, h1, h2⟩ := hv
    exact ⟨e, r, he, RV.closed h d _ hc.1 h1, REs.closed h ds r hc.2 h2⟩
end
mutual
theorem RV.strip {c : Cx} : ∀ (d : D) (v : Value), RV c d v → RV c (strip d) v
  | .junk, _, hv => by simp [RV] at hv
  | .undef, _, hv => by simpa [AM.strip, RV] using hv
  | .int _ _, _, hv => by simpa [AM.strip, RV] using hv
  | .bool _, _, hv => by simpa [AM.strip, RV] using hv
  | .str _, _, hv => by simpa [AM.strip, RV] using hv
  | .agg cs, v, hv => by
    simp only [RV, AM.strip] at hv ⊢
    obtain ⟨vs, e, hs, ho⟩ := hv
    exact ⟨vs, e, RVs.strip cs _ hs, ho⟩
  | .tup cs, v, hv => by
    simp only [RV, AM.strip] at hv ⊢
    obtain ⟨vs, e, hs⟩ := hv
    exact ⟨vs, e, RVs.strip cs _ hs⟩
  | .sl sz nl xs, v, hv => by
    simp only [RV, AM.strip] at hv ⊢
    obtain ⟨a, cap, e, h1, h3, h4, h5⟩ := hv
    have hl := stripL_length xs
    exact ⟨a, cap, by rw [hl]; exact e, by rw [hl]; exact h1, by simp, fun h => by obtain ⟨rfl, h0⟩ := h4 h; exact ⟨rfl, h0⟩, RSl.strip sz a 0 xs h5⟩
  | .own k g, v, hv => by simpa [AM.strip] using hv
  | .mapr k g, v, hv => by simpa [AM.strip] using hv
  | .ptr k g off, v, hv => by simpa [AM.strip] using hv
  | .eptr k g i off, v, hv => by simpa [AM.strip] using hv
  | .vptr x off, v, hv => by
    simp only [RV, AM.strip] at hv ⊢
    obtain ⟨ad, ev, e, hA, hb, hx, ho, hcl⟩ := hv
    exact ⟨ad, ev, e, hA, hb, RV.strip x ev hx, ho, hcl⟩
  | .nilp, _, hv => by simpa [AM.strip, RV] using hv
  | .fn f a b, v, hv => by
    simp only [RV, AM.strip] at hv ⊢
    obtain ⟨x, y, e, h1, h2⟩ := hv
    exact ⟨x, y, e, RVs.strip a _ h1, RVs.strip b _ h2⟩
  | .nilf, _, hv => by simpa [AM.strip, RV] using hv
  | .iface t d, v, hv => by
    simp only [RV, AM.strip] at hv ⊢
    obtain ⟨x, e, hx⟩ := hv
    exact ⟨x, e, RV.strip d x hx⟩
  | .nili, _, hv => by simpa [AM.strip, RV] using hv
  | .opq, _, hv => by simpa [AM.strip, RV] using hv
  | .mapv es, v, hv => by
    simp only [RV, AM.strip] at hv ⊢
    obtain ⟨b, mes, clk, e, hA, hm, hr⟩ := hv
    exact ⟨b, mes, clk, e, hA, hm, REs.strip es _ hr⟩
  | .nilm, _, hv => by simpa [AM.strip, RV] using hv
theorem RVs.strip {c : Cx} : ∀ (ds : List D) (vs : List Value), RVs c ds vs → RVs c (stripL ds) vs
  | [], _, hv => by simpa [RVs, stripL] using hv
  | d :: ds, _, hv => by
    simp only [RVs, stripL] at hv ⊢
    obtain ⟨v, r, e, h1, h2⟩ := hv
    exact ⟨v, r, e, RV.strip d v h1, RVs.strip ds r h2⟩
theorem RSl.strip {c : Cx} (sz : Nat) (a : Option Addr) : ∀ (i : Nat) (xs : List D), RSl c sz a i xs → RSl c sz a i (stripL xs)
  | _, [], _ => by simp [RSl, stripL]
  | i, x :: xs, hv => by
    simp only [RSl, stripL] at hv ⊢
    obtain ⟨⟨ad, ev, e, hA, hb, hx, hs, ho, hcl⟩, hr⟩ := hv
    exact ⟨⟨ad, ev, e, hA, hb, RV.strip x ev hx, hs, ho, hcl⟩, RSl.strip sz a (i + 1) xs hr⟩
theorem REs.strip {c : Cx} : ∀ (ds : List D) (es : List MapEntry), REs c ds es → REs c (stripL ds) es
  | [], _, hv => by simpa [REs, stripL] using hv
  | d :: ds, _, hv => by
    simp only [REs, stripL] at hv ⊢
    obtain ⟨e, r, he, h1, h2⟩ := hv
    exact ⟨e, r, he, RV.strip d _ h1, REs.strip ds r h2⟩
theorem stripL_length : ∀ (ds : List D), (stripL ds).length = ds.length
  | [] => rfl
  | _ :: ds => by simp [stripL, stripL_length ds]
end
theorem mapO_rvs {c c' : Cx} {f : D → Option D} : ∀ {ds ds' : List D} {vs : List Value}, (∀ d ∈ ds, ∀ d' v, f d = some d' → RV c d v → RV c' d' v) → mapO f ds = some ds' → RVs c ds vs → RVs c' ds' vs
  | [], ds', vs, _, h, hv => by simp only [mapO, Option.some.injEq] at h; subst h; simpa [RVs] using hv
  | d :: ds, ds', vs, hf, h, hv => by
    simp only [mapO, Option.bind_eq_some_iff, Option.map_eq_some_iff] at h
    obtain ⟨y, hy, r, hr, rfl⟩ := h
    simp only [RVs] at hv ⊢
    obtain ⟨v, r', e, h1, h2⟩ := hv
    exact ⟨v, r', e, hf d (by simp) y v hy h1, mapO_rvs (fun x hx => hf x (by simp [hx])) hr h2⟩
theorem mapO_length {α β : Type} {f : α → Option β} : ∀ {l : List α} {l' : List β}, mapO f l = some l' → l'.length = l.length
  | [], l', h => by simp only [mapO, Option.some.injEq] at h; subst h; rfl
  | x :: xs, l', h => by
    simp only [mapO, Option.bind_eq_some_iff, Option.map_eq_some_iff] at h
    obtain ⟨y, _, r, hr, rfl⟩ := h
    simp [mapO_length hr]
theorem mapO_rsl {c c' : Cx} {f : D → Option D} {sz : Nat} {a : Option Addr} (hw : c'.w = c.w) (hA : ∀ b, b < c.w.heap.size → c.A b → c'.A b) : ∀ {ds ds' : List D} {i : Nat}, (∀ d ∈ ds, ∀ d' v, f d = some d' → RV c d v → RV c' d' v) → mapO f ds = some ds' → RSl c sz a i ds → RSl c' sz a i ds'
  | [], ds', i, _, h, hv => by simp only [mapO, Option.some.injEq] at h; subst h; simp [RSl]
  | d :: ds, ds', i, hf, h, hv => by
    simp only [mapO, Option.bind_eq_some_iff, Option.map_eq_some_iff] at h
    obtain ⟨y, hy, r, hr, rfl⟩ := h
    simp only [RSl] at hv ⊢
    obtain ⟨⟨ad, ev, e, hA', hb, hx, hs, ho, hcl⟩, hv2⟩ := hv
    exact ⟨⟨ad, ev, e, hA _ hb hA', by rw [hw]; exact hb, hf d (by simp) y ev hy hx, hs, ho, by rw [hw]; exact hcl⟩, mapO_rsl hw hA (fun x hx => hf x (by simp [hx])) hr hv2⟩
theorem mapO_res {c c' : Cx} {f : D → Option D} : ∀ {ds ds' : List D} {es : List MapEntry}, (∀ d ∈ ds, ∀ d' v, f d = some d' → RV c d v → RV c' d' v) → mapO f ds = some ds' → REs c ds es → REs c' ds' es
  | [], ds', vs, _, h, hv => by simp only [mapO, Option.some.injEq] at h; subst h; simpa [REs] using hv
  | d :: ds, ds', vs, hf, h, hv => by
    simp only [mapO, Option.bind_eq_some_iff, Option.map_eq_some_iff] at h
    obtain ⟨y, hy, r, hr, rfl⟩ := h
    simp only [REs] at hv ⊢
    obtain ⟨e, r', he, h1, h2⟩ := hv
    exact ⟨e, r', he, hf d (by simp) y _ hy h1, mapO_res (fun x hx => hf x (by simp [hx])) hr h2⟩
theorem mapO_rel {c c' : Cx} {f : D → Option D} {sz : Nat} {ad : Addr} (hw : c'.w = c.w) (hA : c'.A ad.block) (hb : ad.block < c.w.heap.size) :
    ∀ {ds ds' : List D} {xs : List Value} {i : Nat}, (∀ d ∈ ds, ∀ d' v, f d = some d' → RV c d v → RV c' d' v) → mapO f ds = some ds' → REl c sz ds xs → (∀ j u, xs[j]? = some u → c.w.cell? (ad.add (i * sz + j)) = some u) → RSl c' sz (some ad) i ds'
  | [], ds', xs, i, _, h, hv, _ => by simp only [mapO, Option.some.injEq] at h; subst h; simp [RSl]
  | d :: ds, ds', xs, i, hf, h, hv, hc => by
    simp only [mapO, Option.bind_eq_some_iff, Option.map_eq_some_iff] at h
    obtain ⟨y, hy, r, hr, rfl⟩ := h
    simp only [REl] at hv
    obtain ⟨ev, rest, rfl, hs, hx, ho, h4⟩ := hv
    simp only [RSl]
    refine ⟨⟨ad, ev, rfl, hA, by rw [hw]; exact hb, hf d (by simp) y ev hy hx, hs, ho, fun j hj => ?_⟩, mapO_rel hw hA hb (fun x hx => hf x (by simp [hx])) hr h4 fun j u hj => ?_⟩
    · rw [hw]
      have h5 : ev.cells[j]? = some (ev.cells[j]'(by omega)) := by simp
      rw [h5]
      refine hc j _ ?_
      rw [List.getElem?_append_left (by simpa [hs] using hj)]
      simp
    · have := hc (sz + j) u (by rw [List.getElem?_append_right (by simp [hs])]; simpa [hs] using hj)
      rw [← this]
      congr 2
      rw [Nat.add_mul]; omega
theorem closedL_mapO {f : D → Option D} : ∀ {ds ds' : List D}, mapO f ds = some ds' → (∀ d d', f d = some d' → closed d' = true) → closedL ds' = true
  | [], ds', h, _ => by simp only [mapO, Option.some.injEq] at h; subst h; rfl
  | d :: ds, ds', h, hf => by
    simp only [mapO, Option.bind_eq_some_iff, Option.map_eq_some_iff] at h
    obtain ⟨y, hy, r, hr, rfl⟩ := h
    simp [closedL, hf d y hy, closedL_mapO hr hf]
theorem tell_closed {bx : Nat → Box} : ∀ (n : Nat) (d d' : D), tell bx n d = some d' → closed d' = true
  | 0, d, d', h => by
    unfold tell at h
    split at h
    · simp only [Option.some.injEq] at h; subst h; assumption
    · simp at h
  | n + 1, d, d', h => by
    unfold tell at h
    split at h
    · simp only [Option.some.injEq] at h; subst h; assumption
    · have ih := tell_closed (bx := bx) n
      split at h
      all_goals first
        | (simp at h; done)
        | (simp only [Option.map_eq_some_iff] at h
           obtain ⟨cs', hm, rfl⟩ := h
           first
            | (simp only [closed]; exact closedL_mapO hm ih)
            | (simp only [closed]; exact ih _ _ hm))
        | skip
      · split at h
        · split at h
          · simp only [Option.map_eq_some_iff] at h
            obtain ⟨cs', hm, rfl⟩ := h
            simp only [closed]; exact closedL_mapO hm ih
          · simp at h
        · simp at h
      · split at h
        · simp only [Option.map_eq_some_iff] at h
          obtain ⟨cs', hm, rfl⟩ := h
          simp only [closed]; exact closedL_mapO hm ih
        · simp at h
      · split at h
        · simp only [Option.map_eq_some_iff] at h
          obtain ⟨cs', hm, rfl⟩ := h
          simp only [closed]; exact closedL_mapO hm ih
        · simp at h
      · simp only [Option.bind_eq_some_iff, Option.map_eq_some_iff] at h
        obtain ⟨x, hx, y, hy, rfl⟩ := h
        simp only [closed, Bool.and_eq_true]
        exact ⟨closedL_mapO hx ih, closedL_mapO hy ih⟩
theorem tell_rv {c c' : Cx} {B0 : Nat} (hB : ∀ k, BR c B0 k) (hw : c'.w = c.w) (hA : ∀ b, b < c.w.heap.size → c.A b → c'.A b) : ∀ (n : Nat) (d d' : D) (v : Value),
    (∀ k ∈ refs c.bx n d, (c.bx k).st ≠ .dead → ∀ b, blockOf (c.lc k) = some b → c'.A b) → tell c.bx n d = some d' → RV c d v → RV c' d' v := by
  intro n
  induction n with
  | zero =>
    intro d d' v _ h hv
    unfold tell at h
    split at h
    · rename_i hc; simp only [Option.some.injEq] at h; subst h; exact RV.closed ⟨hw, hA⟩ d v hc hv
    · simp at h
  | succ n ih =>
    intro d d' v hr h hv
    unfold tell at h
    unfold refs at hr
    split at h
    · rename_i hc; simp only [Option.some.injEq] at h; subst h; exact RV.closed ⟨hw, hA⟩ d v hc hv
    · rename_i hc
      rw [if_neg hc] at hr
      have ihl : ∀ (l : List D), (∀ k ∈ l.flatMap (refs c.bx n), (c.bx k).st ≠ .dead → ∀ b, blockOf (c.lc k) = some b → c'.A b) →
          ∀ x ∈ l, ∀ x' v, tell c.bx n x = some x' → RV c x v → RV c' x' v := fun l hl x hx x' v h1 h2 =>
        ih x x' v (fun k hk => hl k (List.mem_flatMap.2 ⟨x, hx, hk⟩)) h1 h2
      split at h
      · -- own
        rename_i k g
        split at h
        · rename_i hgs
          obtain ⟨hg, hst⟩ := hgs
          split at h
          · rename_i sz et hk
            simp only [Option.map_eq_some_iff] at h
            obtain ⟨cs', hm, rfl⟩ := h
            have hb := hB k hst
            rw [hk] at hb
            obtain ⟨xs, h0, hown, hrel⟩ := hb
            simp only [RV] at hv ⊢
            rw [hv.2.2 hg]
            have hlen := mapO_length hm
            have hf := ihl (c.bx k).cs (fun k' hk' => hr k' (List.mem_cons_of_mem _ hk'))
            rcases hown.2 with ⟨h1, h2⟩ | ⟨b, cap, cur, h1, _, hh, hcap, hmax, hcs, htk⟩
            · have h3 : cs' = [] := List.eq_nil_of_length_eq_zero (by omega)
              subst h3
              exact ⟨none, 0, by rw [h1]; rfl, by simp, by simp, fun _ => ⟨rfl, rfl⟩, by simp [RSl]⟩
            · have hblk : b < c.w.heap.size := (Array.getElem?_eq_some_iff.mp hh).1
              refine ⟨some ⟨b, 0, none⟩, cap, by rw [h1, hlen], by omega, by simp, by simp, ?_⟩
              refine mapO_rel hw (hr k (List.mem_cons_self ..) hst b (by rw [h1]; rfl)) hblk hf hm hrel fun j u hj => ?_
              rw [Nat.zero_mul, Nat.zero_add]
              exact hown.cells (g := b) (by rw [h1]; rfl) j u hj
          · simp at h
        · simp at h
      · -- mapr
        rename_i k g
        split at h
        · rename_i hgs
          obtain ⟨hg, hst, hk⟩ := hgs
          simp only [Option.map_eq_some_iff] at h
          obtain ⟨cs', hm, rfl⟩ := h
          have hb := hB k hst
          rw [hk] at hb
          obtain ⟨b, mes, clk, h1, _, hh, hre, hsp, _⟩ := hb
          simp only [RV] at hv ⊢
          rw [hv.2.2 hg]
          have hf := ihl (c.bx k).cs.tail (fun k' hk' => hr k' (List.mem_cons_of_mem _ (by
            obtain ⟨x, hx, hx2⟩ := List.mem_flatMap.1 hk'
            exact List.mem_flatMap.2 ⟨x, List.mem_of_mem_tail hx, hx2⟩)))
          exact ⟨b, mes, clk, h1, hr k (List.mem_cons_self ..) hst b (by rw [h1]; rfl), ⟨by rw [hw]; exact hh, hsp⟩, mapO_res hf hm hre⟩
        · simp at h
      · -- ptr
        rename_i k g off
        split at h
        · rename_i hgs
          obtain ⟨hg, hst, hk⟩ := hgs
          simp only [Option.map_eq_some_iff] at h
          obtain ⟨cs', hm, rfl⟩ := h
          have hb := hB k hst
          rw [hk] at hb
          obtain ⟨b, cs, e, h1, _, hh, hrv, hone⟩ := hb
          simp only [RV] at hv
          obtain ⟨b', h1', hv'⟩ := hv.2.2 hg
          rw [h1] at h1'
          obtain rfl : b = b' := by simpa using h1'
          have hf := ihl (c.bx k).cs (fun k' hk' => hr k' (List.mem_cons_of_mem _ hk'))
          have hblk : b < c.w.heap.size := (Array.getElem?_eq_some_iff.mp hh).1
          simp only [RV]
          refine ⟨⟨b, 0, none⟩, .agg cs, by rw [hv', add_lit, Nat.zero_add], hr k (List.mem_cons_self ..) hst b (by rw [h1]; rfl), by rw [hw]; exact hblk, ⟨cs, rfl, mapO_rvs hf hm hrv, hone⟩, hone, fun j hj => ?_⟩
          rw [hw, add_lit, Nat.zero_add]
          simp [World.cell?, hh, Value.cells]
        · simp at h
      · rename_i cs
        simp only [Option.map_eq_some_iff] at h
        obtain ⟨cs', hm, rfl⟩ := h
        simp only [RV] at hv ⊢
        obtain ⟨vs, e, hs, ho⟩ := hv
        exact ⟨vs, e, mapO_rvs (ihl cs hr) hm hs, ho⟩
      · rename_i cs
        simp only [Option.map_eq_some_iff] at h
        obtain ⟨cs', hm, rfl⟩ := h
        simp only [RV] at hv ⊢
        obtain ⟨vs, e, hs⟩ := hv
        exact ⟨vs, e, mapO_rvs (ihl cs hr) hm hs⟩
      · rename_i sz nl xs
        simp only [Option.map_eq_some_iff] at h
        obtain ⟨cs', hm, rfl⟩ := h
        simp only [RV] at hv ⊢
        have hl := mapO_length hm
        obtain ⟨a, cap, e, h1, h3, h4, h5⟩ := hv
        exact ⟨a, cap, by rw [hl]; exact e, by rw [hl]; exact h1, h3, fun h0 => by
          obtain ⟨h6, h7⟩ := h4 h0
          subst h6
          simp only [mapO, Option.some.injEq] at hm
          exact ⟨hm.symm, h7⟩, mapO_rsl hw hA (ihl xs hr) hm h5⟩
      · rename_i x off
        simp only [Option.map_eq_some_iff] at h
        obtain ⟨x', hm, rfl⟩ := h
        simp only [RV] at hv ⊢
        obtain ⟨ad, ev, e, hA', hb, hx, ho, hcl⟩ := hv
        exact ⟨ad, ev, e, hA _ hb hA', by rw [hw]; exact hb, ih x x' ev hr hm hx, ho, by rw [hw]; exact hcl⟩
      · rename_i f p q
        simp only [Option.bind_eq_some_iff, Option.map_eq_some_iff] at h
        obtain ⟨p', hp, q', hq, rfl⟩ := h
        simp only [RV] at hv ⊢
        obtain ⟨x, y, e, h1, h2⟩ := hv
        exact ⟨x, y, e, mapO_rvs (ihl p (fun k hk => hr k (List.mem_append_left _ hk))) hp h1, mapO_rvs (ihl q (fun k hk => hr k (List.mem_append_right _ hk))) hq h2⟩
      · rename_i t x
        simp only [Option.map_eq_some_iff] at h
        obtain ⟨x', hm, rfl⟩ := h
        simp only [RV] at hv ⊢
        obtain ⟨y, e, hx⟩ := hv
        exact ⟨y, e, ih x x' y hr hm hx⟩
      · rename_i es
        simp only [Option.map_eq_some_iff] at h
        obtain ⟨cs', hm, rfl⟩ := h
        simp only [RV] at hv ⊢
        obtain ⟨b, mes, clk, e, hA', hmm, hre⟩ := hv
        exact ⟨b, mes, clk, e, hA _ (Array.getElem?_eq_some_iff.mp hmm.1).1 hA', by rw [hw]; exact hmm, mapO_res (ihl es hr) hm hre⟩
      · simp at h
end Go.Proofs.AM
namespace Go.Proofs.AM
open Go Go.RowKit
def noLoc : Nat → Value := fun _ => Go.undef
def Spec (P : Program) (G : World → Prop) (f : Nat) (args : List D) (r : D) : Prop :=
  ∀ (w : World) (S : Nat → Prop) (vs : Array Value), G w → RVs ⟨w, S, bx0, noLoc⟩ args vs.toList →
    Calls P f vs w fun e w' => ∃ v, e = .returned v ∧ Below w.heap.size w w' ∧ RV ⟨w', fun b => S b ∨ w.heap.size ≤ b, bx0, noLoc⟩ r v
def Aof (B0 : Nat) (S : Nat → Prop) (bx : Nat → Box) (lc : Nat → Value) : Nat → Prop :=
  fun b => (b < B0 ∧ S b) ∨ (B0 ≤ b ∧ ∀ k, (bx k).st = .rw → blockOf (lc k) ≠ some b)
def cxOf (B0 : Nat) (S : Nat → Prop) (bx : Nat → Box) (lc : Nat → Value) (w : World) : Cx := ⟨w, Aof B0 S bx lc, bx, lc⟩
structure Rel (B0 N : Nat) (S : Nat → Prop) (w0 : World) (lc : Nat → Value) (s : St) (a : Act) (w : World) : Prop where
  hB0 : B0 = w0.heap.size
  nt : a.tmps.size = N
  df : a.defers = []
  below : Below B0 w0 w
  tm : Tms (cxOf B0 S s.bx lc w) s.tm a
  bx : ∀ k, BR (cxOf B0 S s.bx lc w) B0 k
  sep : ∀ k k' b, (s.bx k).st ≠ .dead → (s.bx k').st ≠ .dead → blockOf (lc k) = some b → blockOf (lc k') = some b → k = k'
section
variable {P : Program} {B0 N : Nat} {S : Nat → Prop} {w0 : World} {lc : Nat → Value} {s : St} {a : Act} {w : World}
theorem put_size (a : Act) (dst : Option Nat) (v : Value) : (a.put dst v).tmps.size = a.tmps.size := by
  unfold Act.put; cases dst <;> simp
theorem put_defers (a : Act) (dst : Option Nat) (v : Value) : (a.put dst v).defers = a.defers := by
  unfold Act.put; cases dst <;> rfl
theorem put_get (a : Act) (t : Nat) (v : Value) (i : Nat) (h : t < a.tmps.size) : (a.put (some t) v).tmps.getD i undef = if i = t then v else a.tmps.getD i undef := by
  unfold Act.put
  simp only [Array.getD_eq_getD_getElem?, Array.getElem?_setIfInBounds]
  by_cases e : i = t
  · subst e; simp [h]
  · rw [if_neg (fun e' => e e'.symm), if_neg e]
theorem Tms.put {c c' : Cx} {tm : Nat → D} (h : Tms c tm a) (hk : Keeps c c') {t : Nat} (ht : t < a.tmps.size) {d : D} {v : Value} (hv : RV c' d v) : Tms c' (upd tm t d) (a.put (some t) v) := by
  intro i
  rw [put_get a t v i ht]
  unfold upd
  split
  · exact hv
  · exact (h i).keep hk
theorem Tms.keep {c c' : Cx} {tm : Nat → D} (h : Tms c tm a) (hk : Keeps c c') : Tms c' tm a := fun i => (h i).keep hk
theorem Tms.putD {c c' : Cx} {s : St} (h : Tms c s.tm a) (hk : Keeps c c') {dst : Option Nat} (ht : ∀ t, dst = some t → t < a.tmps.size) {d : D} {v : Value} (hv : RV c' d v) : Tms c' (putD s dst d).tm (a.put dst v) := by
  cases dst with
  | none => exact h.keep hk
  | some t => exact h.put hk (ht t rfl) hv
theorem putD_bx (s : St) (dst : Option Nat) (d : D) : (putD s dst d).bx = s.bx := by cases dst <;> rfl
theorem BR.block {c : Cx} {k b : Nat} (h : BR c B0 k) (hst : (c.bx k).st ≠ .dead) (hb : blockOf (c.lc k) = some b) : B0 ≤ b ∧ b < c.w.heap.size := by
  have := h hst
  split at this
  · obtain ⟨b', cs, e, h1, h2, h3, _⟩ := this
    rw [h1] at hb
    simp only [blockOf, Option.some.injEq] at hb
    subst hb
    exact ⟨h2, (Array.getElem?_eq_some_iff.mp h3).1⟩
  · obtain ⟨xs, _, hown, _⟩ := this
    refine hown.lt b ?_
    rcases hown.2 with ⟨h1, _⟩ | ⟨g, cap, cur, h1, _⟩
    · rw [h1] at hb; simp [blockOf] at hb
    · rw [h1] at hb ⊢; simpa [blockOf, Value.ownBlock] using hb
  · obtain ⟨b', mes, clk, h1, h2, h3, _⟩ := this
    rw [h1] at hb
    simp only [blockOf, Option.some.injEq] at hb
    subst hb
    exact ⟨h2, (Array.getElem?_eq_some_iff.mp h3).1⟩
  · obtain ⟨b', m, since, seen, last, h1, h2, h3, _⟩ := this
    rw [h1] at hb
    simp only [blockOf, Option.some.injEq] at hb
    subst hb
    exact ⟨h2, (Array.getElem?_eq_some_iff.mp h3).1⟩
theorem BR.keep {c c' : Cx} {k : Nat} (h : BR c B0 k) (hk : Keeps c c') (hbx : c'.bx k = c.bx k) (hlc : c'.lc k = c.lc k) (hm : ∀ b, (c.bx k).st ≠ .dead → blockOf (c.lc k) = some b → c'.w.heap[b]? = c.w.heap[b]?) : BR c' B0 k := by
  intro hst
  rw [hbx] at hst ⊢
  have hb := h hst
  cases hkd : (c.bx k).kd with
  | var =>
    rw [hkd] at hb
    obtain ⟨b, cs, e, h1, h2, h3, h4, h5⟩ := hb
    exact ⟨b, cs, e, by rw [hlc]; exact h1, h2, by rw [hm b hst (by rw [h1]; rfl)]; exact h3, h4.keep hk _ _, h5⟩
  | arr sz e =>
    rw [hkd] at hb
    obtain ⟨xs, h0, hown, hrel⟩ := hb
    refine ⟨xs, h0, ?_, hrel.keep hk _ _ _⟩
    rw [hlc]
    refine ⟨hown.1, ?_⟩
    rcases hown.2 with h1 | ⟨g, cap, cur, h1, h2, h3, h4⟩
    · exact .inl h1
    · exact .inr ⟨g, cap, cur, h1, h2, by rw [hm g hst (by rw [h1]; rfl)]; exact h3, h4⟩
  | map =>
    rw [hkd] at hb
    obtain ⟨b, mes, clk, h1, h2, h3, h4, h5⟩ := hb
    exact ⟨b, mes, clk, by rw [hlc]; exact h1, h2, by rw [hm b hst (by rw [h1]; rfl)]; exact h3, h4.keep hk _ _, h5⟩
  | iter =>
    rw [hkd] at hb
    obtain ⟨b, m, since, seen, last, h1, h2, h3, h4⟩ := hb
    exact ⟨b, m, since, seen, last, by rw [hlc]; exact h1, h2, by rw [hm b hst (by rw [h1]; rfl)]; exact h3, h4.keep hk⟩
theorem keeps_world {w' : World} (h : Below w.heap.size w w') : Keeps (cxOf B0 S s.bx lc w) (cxOf B0 S s.bx lc w') :=
  ⟨h.size, fun b hb hA => ⟨hA, h.block b hb⟩, fun _ _ hg => ⟨hg, fun e => ⟨e, rfl, rfl⟩⟩, MapsOld.of_same fun b hb _ => h.block b hb⟩
theorem Rel.world (h : Rel B0 N S w0 lc s a w) {w' : World} (hw : Below w.heap.size w w') : Rel B0 N S w0 lc s a w' where
  hB0 := h.hB0
  nt := h.nt
  df := h.df
  below := h.below.trans (hw.mono h.below.size |> fun k => ⟨k.os, k.tape, k.output, k.size, fun i hi => k.block i (by rw [h.hB0] at hi; exact hi)⟩)
  tm := h.tm.keep (keeps_world hw)
  bx := fun k => (h.bx k).keep (keeps_world hw) rfl rfl fun b hst hb => hw.block b ((h.bx k).block hst hb).2
  sep := h.sep
theorem Rel.put (h : Rel B0 N S w0 lc s a w) {dst : Option Nat} (ht : ∀ t, dst = some t → t < N) {d : D} {v : Value} (hv : RV (cxOf B0 S s.bx lc w) d v) : Rel B0 N S w0 lc (putD s dst d) (a.put dst v) w where
  hB0 := h.hB0
  nt := by rw [put_size]; exact h.nt
  df := by rw [put_defers]; exact h.df
  below := h.below
  tm := by
    have := h.tm.putD (Keeps.refl _) (dst := dst) (fun t e => by rw [h.nt]; exact ht t e) hv
    rw [putD_bx]; exact this
  bx := by rw [putD_bx]; exact h.bx
  sep := by rw [putD_bx]; exact h.sep
theorem upd_same {α : Type} (f : Nat → α) (i : Nat) (v : α) : upd f i v i = v := by simp [upd]
theorem upd_ne {α : Type} {f : Nat → α} {i j : Nat} {v : α} (h : j ≠ i) : upd f i v j = f j := by simp [upd, h]
theorem Rel.newbox (h : Rel B0 N S w0 lc s a w) {t q : Nat} (ht : t < N) {w' : World} {old : Nat → Prop} (nb : Box) (loc v : Value) (d : D) (hg : nb.gen = (s.bx q).gen + 1)
    (bx1 : Nat → Box) (hb1 : ∀ k, bx1 k = s.bx k ∨ (old k ∧ bx1 k = ⟨(s.bx k).gen, .dead, (s.bx k).kd, (s.bx k).cs⟩)) (hold : ∀ k, old k → (s.bx k).st = .rw ∧ bx1 k = ⟨(s.bx k).gen, .dead, (s.bx k).kd, (s.bx k).cs⟩) (hkd : ∀ k, old k → ∃ sz e, (s.bx k).kd = .arr sz e)
    (hos : w'.os = w.os ∧ w'.tape = w.tape ∧ w'.output = w.output) (hsz : w.heap.size ≤ w'.heap.size) (hmem : ∀ b, b < w.heap.size → (∀ k, old k → blockOf (lc k) ≠ some b) → w'.heap[b]? = w.heap[b]?)
    (hblk : ∀ b, blockOf loc = some b → w.heap.size ≤ b ∨ ∃ k, old k ∧ blockOf (lc k) = some b)
    (hv : ∀ c : Cx, c.w = w' → c.bx q = nb → c.lc q = loc → RV c d v)
    (hbr : Keeps (cxOf B0 S s.bx lc w) (cxOf B0 S (upd bx1 q nb) (upd lc q loc) w') → BR (cxOf B0 S (upd bx1 q nb) (upd lc q loc) w') B0 q) :
    Rel B0 N S w0 (upd lc q loc) ⟨upd s.tm t d, upd bx1 q nb⟩ (a.put (some t) v) w' ∧ Keeps (cxOf B0 S s.bx lc w) (cxOf B0 S (upd bx1 q nb) (upd lc q loc) w') := by
  have hlt : ∀ k b, (s.bx k).st ≠ .dead → blockOf (lc k) = some b → B0 ≤ b ∧ b < w.heap.size := fun k b h1 h2 => (h.bx k).block (by exact h1) (by exact h2)
  have hst1 : ∀ k, (bx1 k).gen = (s.bx k).gen ∧ (bx1 k).kd = (s.bx k).kd ∧ ((bx1 k).st ≠ .dead → bx1 k = s.bx k) := by
    intro k
    rcases hb1 k with e | ⟨_, e⟩
    · rw [e]; exact ⟨rfl, rfl, fun _ => rfl⟩
    · rw [e]; exact ⟨rfl, rfl, fun hh => absurd rfl hh⟩
  have hk : Keeps (cxOf B0 S s.bx lc w) (cxOf B0 S (upd bx1 q nb) (upd lc q loc) w') := by
    refine ⟨hsz, fun b hb hA => ⟨?_, ?_⟩, fun k g hgk => ?_, MapsOld.of_same fun b hb hm => hmem b hb fun k hok hbl => ?_⟩
    · rcases hA with hA | ⟨h1, h2⟩
      · exact .inl hA
      · refine .inr ⟨h1, fun k hrwk => ?_⟩
        by_cases e : k = q
        · subst e
          simp only [upd_same] at hrwk ⊢
          intro hbl
          rcases hblk b hbl with h3 | ⟨k', h4, h5⟩
          · have : b < w.heap.size := hb
            omega
          · exact h2 k' (hold k' h4).1 h5
        · rw [upd_ne e] at hrwk ⊢
          have := (hst1 k).2.2 (by rw [hrwk]; decide)
          rw [this] at hrwk
          exact h2 k hrwk
    · refine hmem b hb fun k hok hbl => ?_
      rcases hA with ⟨h1, _⟩ | ⟨_, h2⟩
      · have := (hlt k b (by rw [(hold k hok).1]; decide) hbl).1
        omega
      · exact h2 k (hold k hok).1 hbl
    · show g ≤ (upd bx1 q nb k).gen ∧ ((upd bx1 q nb k).gen = g → (s.bx k).gen = g ∧ upd lc q loc k = lc k ∧ (upd bx1 q nb k).kd = (s.bx k).kd)
      have hgk' : g ≤ (s.bx k).gen := hgk
      by_cases e : k = q
      · subst e
        simp only [upd_same, hg]
        exact ⟨by omega, fun e' => by omega⟩
      · rw [upd_ne e, upd_ne e, (hst1 k).1, (hst1 k).2.1]
        exact ⟨hgk', fun e' => ⟨e', rfl, rfl⟩⟩
    · obtain ⟨sz, e, hk⟩ := hkd k hok
      have hb' := h.bx k (by show (s.bx k).st ≠ _; rw [(hold k hok).1]; decide)
      rw [show (cxOf B0 S s.bx lc w).bx k = s.bx k from rfl, hk] at hb'
      obtain ⟨xs, _, hown, _⟩ := hb'
      obtain ⟨mes, clk, hm⟩ := hm
      rcases hown.2 with ⟨h1, _⟩ | ⟨g, cap, cur, h1, _, h3, _⟩
      · have h1' : lc k = _ := h1
        rw [h1'] at hbl; simp [blockOf] at hbl
      · have h1' : lc k = _ := h1
        rw [h1'] at hbl
        simp only [blockOf, Option.some.injEq] at hbl
        subst hbl
        have h3' : w.heap[g]? = _ := h3
        have hm' : w.heap[g]? = _ := hm
        rw [hm'] at h3'
        simp at h3'
  have hB : B0 ≤ w.heap.size := by rw [h.hB0]; exact h.below.size
  refine ⟨⟨h.hB0, by rw [put_size]; exact h.nt, by rw [put_defers]; exact h.df, ?_, ?_, ?_, ?_⟩, hk⟩
  · refine ⟨hos.1.trans h.below.os, hos.2.1.trans h.below.tape, hos.2.2.trans h.below.output, Nat.le_trans h.below.size hsz, fun b hb => ?_⟩
    rw [← h.below.block b hb]
    refine hmem b (by omega) fun k hok hbl => ?_
    have := (hlt k b (by rw [(hold k hok).1]; decide) hbl).1
    omega
  · exact h.tm.put hk (by rw [h.nt]; exact ht) (hv _ rfl (by simp [cxOf, upd_same]) (by simp [cxOf, upd_same]))
  · intro k
    by_cases e : k = q
    · subst e; exact hbr hk
    · rcases hb1 k with e1 | ⟨_, e1⟩
      · refine (h.bx k).keep hk (by simp only [cxOf]; rw [upd_ne e]; exact e1) (by simp only [cxOf]; rw [upd_ne e]) fun b hst hbl => ?_
        refine hmem b (hlt k b hst hbl).2 fun k' hok hbl' => ?_
        have : k' = k := h.sep k' k b (by rw [(hold k' hok).1]; decide) hst hbl' hbl
        subst this
        have h3 := (hold k' hok).2
        rw [e1] at h3
        have h4 : (s.bx k').st = .dead := by rw [h3]
        exact hst h4
      · intro hst
        exact absurd (by simp only [cxOf]; rw [upd_ne e, e1]) hst
  · intro k k' b hst hst' hbl hbl'
    simp only at hst hst'
    by_cases e : k = q <;> by_cases e' : k' = q
    · rw [e, e']
    · exfalso
      subst e
      rw [upd_same] at hbl
      rw [upd_ne e'] at hst' hbl'
      have h3 := (hst1 k').2.2 hst'
      rw [h3] at hst'
      rcases hblk b hbl with h4 | ⟨k1, h4, h5⟩
      · have := (hlt k' b hst' hbl').2
        omega
      · have : k1 = k' := h.sep k1 k' b (by rw [(hold k1 h4).1]; decide) hst' h5 hbl'
        subst this
        have h6 := (hold k1 h4).2
        rw [h3] at h6
        exact hst' (by rw [h6])
    · exfalso
      subst e'
      rw [upd_same] at hbl'
      rw [upd_ne e] at hst hbl
      have h3 := (hst1 k).2.2 hst
      rw [h3] at hst
      rcases hblk b hbl' with h4 | ⟨k1, h4, h5⟩
      · have := (hlt k b hst hbl).2
        omega
      · have : k1 = k := h.sep k1 k b (by rw [(hold k1 h4).1]; decide) hst h5 hbl
        subst this
        have h6 := (hold k1 h4).2
        rw [h3] at h6
        exact hst (by rw [h6])
    · rw [upd_ne e] at hst hbl
      rw [upd_ne e'] at hst' hbl'
      have h3 := (hst1 k).2.2 hst
      have h4 := (hst1 k').2.2 hst'
      rw [h3] at hst
      rw [h4] at hst'
      exact h.sep k k' b hst hst' hbl hbl'
end
end Go.Proofs.AM
namespace Go.Proofs.AM
open Go Go.RowKit
section
variable {P : Program} {B0 N : Nat} {S : Nat → Prop} {w0 : World} {lc : Nat → Value} {s : St} {a : Act} {w : World} {C : Nat → List D → Option D} {T : Sh}
theorem BR.var {c : Cx} {k : Nat} (hkd : (c.bx k).kd = .var) {b : Nat} {cs : Array Value} {e : TypeId} (h1 : c.lc k = .pointer (some ⟨b, 0, none⟩)) (h2 : B0 ≤ b) (h3 : c.w.heap[b]? = some (.cells cs e (0, 0))) (h4 : RVs c (c.bx k).cs cs.toList) (h5 : ∀ u ∈ cs.toList, u.oneCell' = true) : BR c B0 k := by
  intro _; rw [hkd]; exact ⟨b, cs, e, h1, h2, h3, h4, h5⟩
theorem BR.arr {c : Cx} {k sz e : Nat} (hkd : (c.bx k).kd = .arr sz e) {xs : List Value} (h0 : 0 < sz) (h1 : c.w.ownsRow B0 e sz (c.lc k) (c.bx k).cs.length xs) (h2 : REl c sz (c.bx k).cs xs) : BR c B0 k := by
  intro _; rw [hkd]; exact ⟨xs, h0, h1, h2⟩
theorem Rel.turned (h : Rel B0 N S w0 lc s a w) {k : Nat} (hk : (s.bx k).st = .rw) (nb : Box) (hn : nb.gen = (s.bx k).gen ∧ nb.kd = (s.bx k).kd ∧ nb.st = .rw) {w' : World}
    (hos : w'.os = w.os ∧ w'.tape = w.tape ∧ w'.output = w.output) (hsz : w'.heap.size = w.heap.size) (hmem : ∀ b, blockOf (lc k) ≠ some b → w'.heap[b]? = w.heap[b]?) (hmo : MapsOld w w')
    (hbr : Keeps (cxOf B0 S s.bx lc w) (cxOf B0 S (upd s.bx k nb) lc w') → BR (cxOf B0 S (upd s.bx k nb) lc w') B0 k) :
    Rel B0 N S w0 lc ⟨s.tm, upd s.bx k nb⟩ a w' ∧ Keeps (cxOf B0 S s.bx lc w) (cxOf B0 S (upd s.bx k nb) lc w') := by
  have hlt : ∀ k b, (s.bx k).st ≠ .dead → blockOf (lc k) = some b → B0 ≤ b ∧ b < w.heap.size := fun k b h1 h2 => (h.bx k).block (by exact h1) (by exact h2)
  have hst : ∀ i, (upd s.bx k nb i).gen = (s.bx i).gen ∧ (upd s.bx k nb i).kd = (s.bx i).kd ∧ (upd s.bx k nb i).st = (s.bx i).st := by
    intro i
    by_cases e : i = k
    · subst e; rw [upd_same]; exact ⟨hn.1, hn.2.1, hn.2.2.trans hk.symm⟩
    · rw [upd_ne e]; exact ⟨rfl, rfl, rfl⟩
  have hkp : Keeps (cxOf B0 S s.bx lc w) (cxOf B0 S (upd s.bx k nb) lc w') := by
    refine ⟨Nat.le_of_eq hsz.symm, fun b _ hA => ⟨?_, ?_⟩, fun i g hg => ?_, hmo⟩
    · rcases hA with hA | ⟨h1, h2⟩
      · exact .inl hA
      · exact .inr ⟨h1, fun i hi => h2 i ((hst i).2.2 ▸ hi)⟩
    · refine hmem b fun hbl => ?_
      rcases hA with ⟨h1, _⟩ | ⟨_, h2⟩
      · have := (hlt k b (by rw [hk]; decide) hbl).1; omega
      · exact h2 k hk hbl
    · show g ≤ (upd s.bx k nb i).gen ∧ ((upd s.bx k nb i).gen = g → (s.bx i).gen = g ∧ lc i = lc i ∧ (upd s.bx k nb i).kd = (s.bx i).kd)
      rw [(hst i).1, (hst i).2.1]
      exact ⟨hg, fun e => ⟨e, rfl, rfl⟩⟩
  refine ⟨⟨h.hB0, h.nt, h.df, ?_, h.tm.keep hkp, ?_, ?_⟩, hkp⟩
  · refine ⟨hos.1.trans h.below.os, hos.2.1.trans h.below.tape, hos.2.2.trans h.below.output, by rw [hsz]; exact h.below.size, fun b hb => ?_⟩
    rw [← h.below.block b hb]
    refine hmem b fun hbl => ?_
    have := (hlt k b (by rw [hk]; decide) hbl).1; omega
  · intro i
    by_cases e : i = k
    · subst e; exact hbr hkp
    · refine (h.bx i).keep hkp (by simp only [cxOf]; rw [upd_ne e]) rfl fun b hst' hbl => hmem b fun hbl' => e (h.sep i k b hst' (by rw [hk]; decide) hbl hbl')
  · intro i j b hi hj hbi hbj
    exact h.sep i j b (by rw [← (hst i).2.2]; exact hi) (by rw [← (hst j).2.2]; exact hj) hbi hbj
theorem Rel.freeze (h : Rel B0 N S w0 lc s a w) (l : List Nat) : Rel B0 N S w0 lc ⟨s.tm, freeze s.bx l⟩ a w ∧ Keeps (cxOf B0 S s.bx lc w) (cxOf B0 S (freeze s.bx l) lc w) := by
  have hst : ∀ i, (AM.freeze s.bx l i).gen = (s.bx i).gen ∧ (AM.freeze s.bx l i).kd = (s.bx i).kd ∧ (AM.freeze s.bx l i).cs = (s.bx i).cs ∧ ((AM.freeze s.bx l i).st = .rw → (s.bx i).st = .rw) ∧ ((AM.freeze s.bx l i).st ≠ .dead → (s.bx i).st ≠ .dead) := by
    intro i
    unfold AM.freeze
    split
    · rename_i hh; exact ⟨rfl, rfl, rfl, fun _ => hh.2, fun _ => by rw [hh.2]; decide⟩
    · exact ⟨rfl, rfl, rfl, id, id⟩
  have hkp : Keeps (cxOf B0 S s.bx lc w) (cxOf B0 S (AM.freeze s.bx l) lc w) := by
    refine ⟨Nat.le_refl _, fun b _ hA => ⟨?_, rfl⟩, fun i g hg => ?_, MapsOld.refl _⟩
    · rcases hA with hA | ⟨h1, h2⟩
      · exact .inl hA
      · exact .inr ⟨h1, fun i hi => h2 i ((hst i).2.2.2.1 hi)⟩
    · show g ≤ (AM.freeze s.bx l i).gen ∧ _
      rw [(hst i).1]
      exact ⟨hg, fun e => ⟨by simpa [cxOf, (hst i).1] using e, rfl, (hst i).2.1⟩⟩
  refine ⟨⟨h.hB0, h.nt, h.df, h.below, h.tm.keep hkp, fun i hi => ?_, fun i j b hi hj => h.sep i j b ((hst i).2.2.2.2 hi) ((hst j).2.2.2.2 hj)⟩, hkp⟩
  have hi' := (hst i).2.2.2.2 hi
  have hb := h.bx i hi'
  simp only [cxOf] at hb ⊢
  rw [(hst i).2.1, (hst i).2.2.1]
  cases hkd : (s.bx i).kd with
  | var =>
    rw [hkd] at hb
    obtain ⟨b, cs, e, h1, h2, h3, h4, h5⟩ := hb
    exact ⟨b, cs, e, h1, h2, h3, h4.keep hkp _ _, h5⟩
  | arr sz e =>
    rw [hkd] at hb
    obtain ⟨xs, h0, hown, hrel⟩ := hb
    exact ⟨xs, h0, hown, hrel.keep hkp _ _ _⟩
  | map =>
    rw [hkd] at hb
    obtain ⟨b, mes, clk, h1, h2, h3, h4, h5⟩ := hb
    exact ⟨b, mes, clk, h1, h2, h3, h4.keep hkp _ _, h5⟩
  | iter =>
    rw [hkd] at hb
    obtain ⟨b, m, since, seen, last, h1, h2, h3, h4⟩ := hb
    exact ⟨b, m, since, seen, last, h1, h2, h3, h4.keep hkp⟩
def Steps1 (P : Program) (B0 N : Nat) (S : Nat → Prop) (w0 : World) (lc : Nat → Value) (bx : Nat → Box) (o : Oper) (a : Act) (w : World) (s' : St) : Prop :=
  ∀ (K : Act → World → Prop) (Q : Exit → Act → World → Prop), (∀ lc' a' w', Rel B0 N S w0 lc' s' a' w' → Keeps (cxOf B0 S bx lc w) (cxOf B0 S s'.bx lc' w') → K a' w') → o.wp P a w K Q
theorem steps_of_yields (h : Rel B0 N S w0 lc s a w) {o : Oper} {d : D} (hd : ∀ t, o.dst = some t → t < N) (hy : Yields P (cxOf B0 S s.bx lc w) a o d) : Steps1 P B0 N S w0 lc s.bx o a w (putD s o.dst d) := by
  intro K Q hK
  obtain ⟨v, w', h1, h2, h3⟩ := hy
  unfold Oper.wp
  rw [show (execOp a.eval o).run P w = .ok (.value v) w' from h1]
  refine hK lc _ _ ((h.world h2).put hd h3) ?_
  rw [putD_bx]
  exact keeps_world h2
theorem stepsK {o : Oper} {s' : St} {v : Value} {w' : World} {lc' : Nat → Value} (h1 : (execOp a.eval o).run P w = .ok (.value v) w') (h2 : Rel B0 N S w0 lc' s' (a.put o.dst v) w' ∧ Keeps (cxOf B0 S s.bx lc w) (cxOf B0 S s'.bx lc' w')) : Steps1 P B0 N S w0 lc s.bx o a w s' := by
  intro K Q hK
  unfold Oper.wp
  rw [h1]
  exact hK _ _ _ h2.1 h2.2
theorem rv_ptr_new {c : Cx} {t : Nat} {nb : Box} {b : Nat} (h1 : c.bx t = nb) (h2 : c.lc t = .pointer (some ⟨b, 0, none⟩)) : RV c (.ptr t nb.gen 0) (.pointer (some ⟨b, 0, none⟩)) := by
  simp only [RV]
  rw [h1]
  exact ⟨rfl, Nat.le_refl _, fun _ => ⟨b, h2, rfl⟩⟩
theorem s_box (h : Rel B0 N S w0 lc s a w) {o : Oper} {t : Nat} (q : Nat) (hd : o.dst = some t) (ht : t < N) {e : TypeId} {v : Value} {cs : List D} (hrun : (execOp a.eval o).run P w = .ok (.value (.pointer (some ⟨w.heap.size, 0, none⟩))) (w.alloc (.cells v.cells e)))
    (hrv : RVs (cxOf B0 S s.bx lc w) cs v.cells.toList) (hone : ∀ u ∈ v.cells.toList, u.oneCell' = true) :
    Steps1 P B0 N S w0 lc s.bx o a w ⟨upd s.tm t (.ptr q ((s.bx q).gen + 1) 0), upd s.bx q ⟨(s.bx q).gen + 1, .rw, .var, cs⟩⟩ := by
  refine stepsK (lc' := upd lc q (.pointer (some ⟨w.heap.size, 0, none⟩))) hrun ?_
  rw [hd]
  refine h.newbox ht (old := fun _ => False) ⟨(s.bx q).gen + 1, .rw, .var, cs⟩ _ _ _ rfl s.bx (fun k => .inl rfl) (fun k hk => hk.elim) (fun k hk => hk.elim) ⟨rfl, rfl, rfl⟩ (by simp) (fun b hb _ => Below.heap_alloc w _ b hb) ?_ ?_ ?_
  · intro b hb
    simp only [blockOf, Option.some.injEq] at hb
    exact .inl (Nat.le_of_eq hb)
  · intro c hw hb hl
    have := rv_ptr_new (nb := ⟨(s.bx q).gen + 1, .rw, .var, cs⟩) hb hl
    exact this
  · intro hk _
    have hB : B0 ≤ w.heap.size := by rw [h.hB0]; exact h.below.size
    simp only [cxOf, upd_same]
    exact ⟨w.heap.size, v.cells, e, rfl, hB, heap_alloc_new w _, hrv.keep hk _ _, hone⟩
theorem s_alloc (h : Rel B0 N S w0 lc s a w) {o : Oper} {t : Nat} (q : Nat) (hd : o.dst = some t) (ht : t < N) {e : TypeId} {z : D} (ho : o.op = .alloc e) (hz : zeroT P e = some z) :
    Steps1 P B0 N S w0 lc s.bx o a w ⟨upd s.tm t (.ptr q ((s.bx q).gen + 1) 0), upd s.bx q ⟨(s.bx q).gen + 1, .rw, .var, z.cells⟩⟩ := by
  obtain ⟨zv, hzv, hzr, hz1⟩ := zeroT_rv hz (cxOf B0 S s.bx lc w)
  obtain ⟨h1, h2⟩ := hzr.cells hz1
  refine s_box h q hd ht (e := e) (v := zv) ?_ h1 h2
  unfold execOp
  simp only [ho]
  refine run_v ?_
  unfold Instr.alloc
  simp [run_zeroT hzv, Result.andThen, newVar, newRow]
theorem s_boxop (h : Rel B0 N S w0 lc s a w) {o : Oper} {t : Nat} (q : Nat) (hd : o.dst = some t) (ht : t < N) {e t1 : TypeId} {x : Operand} {x' : Opd} (ho : o.op = .box e x) (hx : opdT P t1 x = some x') (h1 : (x'.get s.tm).one = true) :
    Steps1 P B0 N S w0 lc s.bx o a w ⟨upd s.tm t (.ptr q ((s.bx q).gen + 1) 0), upd s.bx q ⟨(s.bx q).gen + 1, .rw, .var, (x'.get s.tm).cells⟩⟩ := by
  obtain ⟨k1, k2⟩ := (opdT_rv h.tm hx).cells h1
  refine s_box h q hd ht (e := e) (v := a.eval x) ?_ k1 k2
  unfold execOp
  simp only [ho]
  refine run_v ?_
  simp [Instr.box, newVar, newRow]
theorem s_mkSl (h : Rel B0 N S w0 lc s a w) {o : Oper} {t : Nat} (q : Nat) (hd : o.dst = some t) (ht : t < N) {ty e : TypeId} {len n : Nat} {parts : Array (Nat × Operand)} {z : D} {l : List (Nat × Opd)} {r : List D} (ho : o.op = .buildSlice ty len parts)
    (hu : P.underlying ty = some (.slice e)) (hn : szT P e = some n) (hz : zeroT P e = some z) (h0 : 0 < n) (hsm : len * n ≤ 16777216)
    (hp : mapO (fun p : Nat × Operand => (opdT P e p.2).map fun y => (p.1, y)) parts.toList = some l) (hzl : z.cells.length = n) (hr : elemsD n (List.replicate len z) (l.map fun p => (p.1, p.2.get s.tm)) = some r) :
    Steps1 P B0 N S w0 lc s.bx o a w ⟨upd s.tm t (.own q ((s.bx q).gen + 1)), upd s.bx q ⟨(s.bx q).gen + 1, .rw, .arr n e, r⟩⟩ := by
  obtain ⟨cells, k1, k2, k3⟩ := run_mkSl h.tm hu hn hz h0 hsm hp hzl hr
  have hB : B0 ≤ w.heap.size := by rw [h.hB0]; exact h.below.size
  refine stepsK (lc' := upd lc q (.slice (some ⟨w.heap.size, 0, none⟩) len len)) (v := .slice (some ⟨w.heap.size, 0, none⟩) len len) (w' := w.alloc (.cells cells e)) ?_ ?_
  · unfold execOp
    simp only [ho]
    exact run_v k1
  · rw [hd]
    refine h.newbox ht (old := fun _ => False) ⟨(s.bx q).gen + 1, .rw, .arr n e, r⟩ _ _ _ rfl s.bx (fun k => .inl rfl) (fun k hk => hk.elim) (fun k hk => hk.elim) ⟨rfl, rfl, rfl⟩ (by simp) (fun b hb _ => Below.heap_alloc w _ b hb) ?_ ?_ ?_
    · intro b hb
      simp only [blockOf, Option.some.injEq] at hb
      exact .inl (Nat.le_of_eq hb)
    · intro c hw hb hl
      simp only [RV]
      rw [hb, hl]
      exact ⟨rfl, Nat.le_refl _, fun _ => rfl⟩
    · intro hk _
      simp only [cxOf, upd_same]
      have hlen := rel_length k2
      simp only [Array.length_toList] at hlen
      rw [k3] at hlen
      refine ⟨cells.toList, h0, ⟨by simp [hlen, k3], .inr ⟨w.heap.size, len, cells, by rw [k3], hB, heap_alloc_new w _, by omega, ?_, hlen, ?_⟩⟩, k2.keep hk _ _ _⟩
      · have : len ≤ len * n := Nat.le_mul_of_pos_right _ h0
        simp only [maxLen]; omega
      · rw [k3]; exact List.take_of_length_le (by simp [hlen])
theorem run_store_at {t e : TypeId} {n b off : Nat} {cur : Array Value} {v : Value} (hn : szT P t = some n) (hh : w.heap[b]? = some (.cells cur e (0, 0))) (hs : v.cells.size = n) (hone : ∀ u ∈ v.cells.toList, u.oneCell' = true) (hl : off + n ≤ cur.size) :
    (Instr.storeAt t (.pointer (some ⟨b, off, none⟩)) v).run P w = .ok () (w.setRow b (cur.toList.take off ++ v.cells.toList ++ cur.toList.drop (off + n)).toArray) := by
  have := run_storeCells_at (P := P) b off e v.cells.toList 0 cur w hh (by simp; omega) hone
  unfold Instr.storeAt Instr.sureAddr storeVar
  simp only [Sem.run_bind, Sem.run_pure, Result.andThen, run_szT hn, hs]
  simp only [ne_eq, not_true_eq_false, if_false]
  simp only [Nat.add_zero, Array.length_toList, hs] at this
  simpa using this
theorem REl.over {c : Cx} {sz : Nat} : ∀ {ds : List D} {xs : List Value} {i off : Nat} {x : D} {us : List Value} {ucs : List D}, REl c sz ds xs → ds[i]? = some x → RVs c ucs us → (∀ u ∈ us, u.oneCell' = true) → off + us.length ≤ sz → (isAggD x = true ∨ (isAggD x = false ∧ us.length = 1)) →
    REl c sz (ds.set i (reD x (over x.cells off ucs))) (xs.take (i * sz + off) ++ us ++ xs.drop (i * sz + off + us.length))
  | [], _, _, _, _, _, _, _, hx, _, _, _, _ => by simp at hx
  | e :: ds, xs, 0, off, x, us, ucs, h, hx, hu, ho, hl, hag => by
    simp only [List.getElem?_cons_zero, Option.some.injEq] at hx
    subst hx
    simp only [REl] at h
    obtain ⟨e0, rest, rfl, h1, h2, h3, h4⟩ := h
    simp only [List.set_cons_zero, REl, Nat.zero_mul, Nat.zero_add]
    have hcs := h2.cells_of h3
    have hov := over_rv (off := off) hcs hu
    have hlen : e0.cells.toList.length = sz := by simp [h1]
    have hone := over_one (off := off) (n := off + us.length) h3 ho
    have hsplit : (e0.cells.toList ++ rest).take off ++ us ++ (e0.cells.toList ++ rest).drop (off + us.length) = (e0.cells.toList.take off ++ us ++ e0.cells.toList.drop (off + us.length)) ++ rest := by
      rw [List.take_append_of_le_length (by omega), List.drop_append_of_le_length (by omega)]
      simp only [List.append_assoc]
    have hnl : (e0.cells.toList.take off ++ us ++ e0.cells.toList.drop (off + us.length)).length = sz := by
      simp only [List.length_append, List.length_take, List.length_drop, hlen]; omega
    rcases hag with hag | ⟨hag, hu1⟩
    · cases e <;> simp [isAggD] at hag
      rename_i cs
      refine ⟨.agg (e0.cells.toList.take off ++ us ++ e0.cells.toList.drop (off + us.length)).toArray, rest, by rw [hsplit]; rfl, ?_, ?_, ?_, h4⟩
      · simpa [Value.cells] using hnl
      · simp only [reD, RV]
        exact ⟨_, rfl, by simpa [D.cells] using hov, by simpa using hone⟩
      · simpa [Value.cells] using hone
    · have h1e : e.one = true := by
        cases e <;> simp only [D.one]
        case junk => simp [RV] at h2
        case undef => simp only [RV] at h2; subst h2; simp [Go.undef, Value.cells, Value.oneCell'] at h3
        case tup => simp only [RV] at h2; obtain ⟨vs, rfl, _⟩ := h2; simp [Value.cells, Value.oneCell'] at h3
      have hec : e.cells = [e] := by cases e <;> simp [isAggD, D.cells] at hag ⊢
      have he0 : e0.cells = #[e0] := cells_one (one_cell h2 h1e hag)
      have hsz1 : sz = 1 := by rw [← h1, he0]; rfl
      have hoff : off = 0 := by omega
      subst hoff
      match us, hu1, hu, ho, hov, hsplit with
      | [u], _, hu, ho, _, hsplit =>
        match ucs, hu with
        | [uc], hu =>
          simp only [RVs] at hu
          obtain ⟨u', r', he, hur, rfl⟩ := hu
          simp only [List.cons.injEq, and_true] at he
          subst he
          have huo := ho u (by simp)
          refine ⟨u, rest, ?_, ?_, ?_, ?_, h4⟩
          · rw [hsplit, cells_one huo, he0]; simp
          · rw [cells_one huo]; simpa using hsz1.symm
          · rw [hec]
            have : reD e (AM.over [e] 0 [uc]) = uc := by
              cases e <;> simp [isAggD] at hag <;> simp [reD, AM.over]
            rw [this]; exact hur
          · rw [cells_one huo]; simpa using huo
        | [], hu => simp [RVs] at hu
        | _ :: _ :: _, hu => have := hu.length; simp at this
  | e :: ds, xs, i + 1, off, x, us, ucs, h, hx, hu, ho, hl, hag => by
    simp only [List.getElem?_cons_succ] at hx
    simp only [REl] at h
    obtain ⟨e0, rest, rfl, h1, h2, h3, h4⟩ := h
    simp only [List.set_cons_succ, REl]
    have := REl.over h4 hx hu ho hl hag
    refine ⟨e0, _, ?_, h1, h2, h3, this⟩
    have hl' : e0.cells.toList.length = sz := by simp [h1]
    rw [show (i + 1) * sz + off = e0.cells.toList.length + (i * sz + off) from by rw [hl', Nat.add_mul]; omega]
    rw [List.take_length_add_append, Nat.add_assoc, List.drop_length_add_append]
    simp only [List.append_assoc]
theorem splice_take {α : Type} (l us : List α) (o L : Nat) (h : o + us.length ≤ L) (hl : L ≤ l.length) :
    (l.take o ++ us ++ l.drop (o + us.length)).take L = (l.take L).take o ++ us ++ (l.take L).drop (o + us.length) := by
  have hA : (l.take o ++ us).length = o + us.length := by simp only [List.length_append, List.length_take]; omega
  rw [List.take_append, hA, List.take_of_length_le (by omega), List.drop_take, List.take_take, Nat.min_eq_left (by omega)]
theorem mapsOld_row {b : Nat} {cur : Array Value} {e : TypeId} {cs : Array Value} (hh : w.heap[b]? = some (.cells cur e (0, 0))) : MapsOld w (w.setRow b cs) :=
  MapsOld.of_same fun b2 _ hm => setRow_other w b b2 _ fun e2 => by
    subst e2
    obtain ⟨mes, clk, hm⟩ := hm
    rw [hm] at hh
    simp at hh
theorem s_store (h : Rel B0 N S w0 lc s a w) {o : Oper} (hd : o.dst = none) {t t1 t2 : TypeId} {n : Nat} {x v : Operand} {x' v' : Opd} {bx' : Nat → Box} (ho : o.op = .store t x v) (hn : szT P t = some n) (hx : opdT P t1 x = some x') (hv : opdT P t2 v = some v')
    (hs : storeD s.bx n (x'.get s.tm) (v'.get s.tm) = some bx') : Steps1 P B0 N S w0 lc s.bx o a w ⟨s.tm, bx'⟩ := by
  have hp := opdT_rv h.tm hx
  have hq := opdT_rv h.tm hv
  have hrunU : ∀ {w' : World}, (Instr.storeAt t (a.eval x) (a.eval v)).run P w = .ok () w' → (execOp a.eval o).run P w = .ok .skip w' := by
    intro w' hr
    unfold execOp
    simp only [ho, Sem.run_bind, hr, Result.andThen, Sem.run_pure]
  have fin : ∀ {w' : World}, (Instr.storeAt t (a.eval x) (a.eval v)).run P w = .ok () w' → (Rel B0 N S w0 lc ⟨s.tm, bx'⟩ a w' ∧ Keeps (cxOf B0 S s.bx lc w) (cxOf B0 S bx' lc w')) → Steps1 P B0 N S w0 lc s.bx o a w ⟨s.tm, bx'⟩ := by
    intro w' hr hrel K Q hK
    unfold Oper.wp
    rw [hrunU hr, Oper.upon_skip, hd]
    exact hK lc a w' hrel.1 hrel.2
  unfold storeD at hs
  split at hs
  · rename_i hc
    obtain ⟨hl, hone, hn0⟩ := hc
    obtain ⟨hcs, hco⟩ := hq.cells hone
    have hsz := hq.cells_size hone
    split at hs
    · rename_i k g off e1
      rw [e1] at hp
      split at hs
      · rename_i hc
        obtain ⟨hg, hst, hkd, hle⟩ := hc
        simp only [Option.some.injEq] at hs
        subst hs
        simp only [RV] at hp
        obtain ⟨b, hlc, hpv⟩ := hp.2.2 hg
        have hb := h.bx k (by rw [show (cxOf B0 S s.bx lc w).bx k = s.bx k from rfl, hst]; decide)
        simp only [cxOf, hkd] at hb
        obtain ⟨b', cs, e, hlc', hB0b, hh, hrv, hone'⟩ := hb
        have hbb : b = b' := by
          have : lc k = .pointer (some ⟨b, 0, none⟩) := hlc
          rw [this] at hlc'; simpa using hlc'
        subst hbb
        have hlen := hrv.length
        simp only [Array.length_toList] at hlen
        have hr := run_store_at (P := P) (off := off) hn hh (by omega) hco (by omega)
        rw [← hpv] at hr
        refine fin hr ?_
        refine h.turned hst ⟨g, .rw, .var, _⟩ ⟨hg.symm, hkd.symm, rfl⟩ ⟨rfl, rfl, rfl⟩ (by simp) (fun b2 hb2 => setRow_other w b b2 _ (fun e2 => hb2 (by rw [hlc', e2]; rfl))) (mapsOld_row hh) ?_
        intro hk
        refine BR.var (b := b) (e := e) (by simp only [cxOf, upd_same]) hlc' hB0b (setRow_heap w b cs _ e _ hh) ?_ ?_
        · have := over_rv (off := off) hrv hcs
          simp only [Array.length_toList, hsz, hl] at this
          have := RVs.keep hk _ _ this
          simp only [cxOf, upd_same] at this ⊢
          exact this
        · exact over_one hone' hco
      · simp at hs
    · rename_i k g i off e1
      rw [e1] at hp
      split at hs
      · rename_i hc
        obtain ⟨hg, hst, hkd⟩ := hc
        cases hel : (s.bx k).cs[i]? with
        | none => rw [hel] at hs; simp at hs
        | some y =>
          rw [hel] at hs
          simp only at hs
          split at hs
          · rename_i hle
            simp only [Option.some.injEq] at hs
            subst hs
            simp only [RV] at hp
            obtain ⟨b, n', cap, sz, e, hk2, hlc, hpv⟩ := hp.2.2 hg
            have hk2' : (s.bx k).kd = .arr sz e := hk2
            have hlc' : lc k = .slice (some ⟨b, 0, none⟩) n' cap := hlc
            have hb := h.bx k (by rw [show (cxOf B0 S s.bx lc w).bx k = s.bx k from rfl, hst]; decide)
            simp only [cxOf, hk2'] at hb
            obtain ⟨xs, h0, hown, hrel⟩ := hb
            obtain ⟨ev, r1, r2, r3, r4⟩ := rel_get hrel hel
            have hyl := (r1.cells_of r3).length
            simp only [Array.length_toList, r2] at hyl
            rcases hown.2 with ⟨q1, _⟩ | ⟨b', cap', cur, q1, q2, q3, q4, q5, q6, q7⟩
            · rw [hlc'] at q1; simp at q1
            · rw [hlc'] at q1
              simp only [Value.slice.injEq, Option.some.injEq, Addr.mk.injEq, and_true] at q1
              obtain ⟨rfl, hn', rfl⟩ := q1
              have hilt : i < (s.bx k).cs.length := (List.getElem?_eq_some_iff.1 hel).1
              have hm1 : i * sz + sz ≤ (s.bx k).cs.length * sz := by have := Nat.mul_le_mul_right sz hilt; rwa [Nat.succ_mul] at this
              have hm2 : (s.bx k).cs.length * sz ≤ cap * sz := Nat.mul_le_mul_right sz q4
              have hr := run_store_at (P := P) (off := i * sz + off) hn q3 (by omega) hco (by omega)
              rw [← hpv] at hr
              refine fin hr ?_
              refine h.turned hst ⟨g, .rw, (s.bx k).kd, _⟩ ⟨hg.symm, rfl, rfl⟩ ⟨rfl, rfl, rfl⟩ (by simp) (fun b2 hb2 => setRow_other w b b2 _ (fun e2 => hb2 (by rw [hlc', e2]; rfl))) (mapsOld_row q3) ?_
              intro hk
              have hus : (a.eval v).cells.toList.length = n := by simp; omega
              have hov := REl.over (off := off) hrel hel hcs hco (by omega) (by
                cases hag : isAggD y with
                | true => exact .inl rfl
                | false =>
                  refine .inr ⟨rfl, ?_⟩
                  have : y.cells.length = 1 := by cases y <;> simp [isAggD, D.cells] at hag ⊢
                  omega)
              have hxl := rel_length hrel
              rw [hus] at hov
              refine BR.arr (sz := sz) (e := e) (xs := xs.take (i * sz + off) ++ (a.eval v).cells.toList ++ xs.drop (i * sz + off + n)) (by simp only [cxOf, upd_same]; exact hk2') h0 ⟨?_, .inr ⟨b, cap, _, hlc'.trans (by rw [hn']; simp only [cxOf, upd_same, List.length_set]), q2, setRow_heap w b cur _ e _ q3, ?_, q5, ?_, ?_⟩⟩ ?_
              · simp only [cxOf, upd_same, List.length_set, List.length_append, List.length_take, List.length_drop, hus, hxl]; omega
              · simp only [cxOf, upd_same, List.length_set]; exact q4
              · simp only [List.size_toArray, List.length_append, List.length_take, List.length_drop, hus, Array.length_toList]; omega
              · simp only [cxOf, upd_same, List.length_set]
                rw [← q7, ← hus]
                exact splice_take _ _ _ _ (by omega) (by simp only [Array.length_toList]; omega)
              · have := REl.keep hk _ _ _ hov
                simp only [cxOf, upd_same] at this ⊢
                exact this
          · simp at hs
      · simp at hs
    · simp at hs
  · simp at hs
theorem freeze_eq (bx : Nat → Box) (l : List Nat) (i : Nat) : (AM.freeze bx l i).gen = (bx i).gen ∧ (AM.freeze bx l i).kd = (bx i).kd ∧ (AM.freeze bx l i).cs = (bx i).cs ∧ ((AM.freeze bx l i).st = .rw → (bx i).st = .rw) ∧ ((AM.freeze bx l i).st ≠ .dead → (bx i).st ≠ .dead) := by
  unfold AM.freeze
  split
  · rename_i hh; exact ⟨rfl, rfl, rfl, fun _ => hh.2, fun _ => by rw [hh.2]; decide⟩
  · exact ⟨rfl, rfl, rfl, id, id⟩
theorem upd_upd {α : Type} (f : Nat → α) (i : Nat) (v u : α) : upd (upd f i v) i u = upd f i u := by
  funext k
  unfold upd
  split <;> rfl
theorem tell_frozen (h : Rel B0 N S w0 lc s a w) {ds : List D} {d d' : D} {v : Value} (hm : d ∈ ds) (ht : tell s.bx depth d = some d') (hv : RV (cxOf B0 S s.bx lc w) d v) :
    RV (cxOf B0 S (AM.freeze s.bx (ds.flatMap (refs s.bx depth))) lc w) d' v := by
  refine tell_rv (c' := cxOf B0 S (AM.freeze s.bx (ds.flatMap (refs s.bx depth))) lc w) h.bx rfl ?_ depth d d' v ?_ ht hv
  · intro b hb hA
    exact ((h.freeze (ds.flatMap (refs s.bx depth))).2.mem b hb hA).1
  · intro k hk hst b hbl
    refine .inr ⟨((h.bx k).block hst hbl).1, fun i hi hbi => ?_⟩
    unfold AM.freeze at hi
    split at hi
    · simp at hi
    · rename_i hn
      have : i = k := h.sep i k b (by rw [hi]; decide) hst hbi hbl
      subst this
      exact hn ⟨List.mem_flatMap.2 ⟨d, hm, hk⟩, hi⟩
theorem mapO_rell {c c' : Cx} {f : D → Option D} {sz : Nat} : ∀ {ds ds' : List D} {xs : List Value}, (∀ d ∈ ds, ∀ d' v, f d = some d' → RV c d v → RV c' d' v) → mapO f ds = some ds' → REl c sz ds xs → REl c' sz ds' xs
  | [], ds', xs, _, hm, h => by
    simp only [mapO, Option.some.injEq] at hm
    subst hm
    simpa [REl] using h
  | d :: ds, ds', xs, hf, hm, h => by
    simp only [mapO, Option.bind_eq_some_iff, Option.map_eq_some_iff] at hm
    obtain ⟨d1, h1, r, h2, rfl⟩ := hm
    simp only [REl] at h ⊢
    obtain ⟨ev, rest, rfl, h3, h4, h5, h6⟩ := h
    exact ⟨ev, rest, rfl, h3, hf d (by simp) d1 ev h1 h4, h5, mapO_rell (fun d hd => hf d (by simp [hd])) h2 h6⟩
theorem s_app (h : Rel B0 N S w0 lc s a w) {o : Oper} {t : Nat} (hd : o.dst = some t) (ht : t < N) {ty e t1 t2 : TypeId} {sz bytes : Nat} {x y : Operand} {x' y' : Opd} {s' : St} (ho : o.op = .call { callee := .builtin .append, args := #[x, y], argTypes := #[ty, ty] })
    (hu : P.underlying ty = some (.slice e)) (hn : szT P e = some sz) (hb : bytesT P e = some bytes) (h0 : 0 < sz) (hb0 : 0 < bytes) (hz : (P.info? e).bind (·.zero) ≠ none) (hzs : ∀ z, (P.info? e).bind (·.zero) = some z → z.cells.size = sz) (hx : opdT P t1 x = some x') (hy : opdT P t2 y = some y')
    (hs : step C T ⟨some t, .app sz e bytes x' y', none⟩ s = some s') : Steps1 P B0 N S w0 lc s.bx o a w s' := by
  have hp := opdT_rv h.tm hx
  have hq := opdT_rv h.tm hy
  have hB : B0 ≤ w.heap.size := by rw [h.hB0]; exact h.below.size
  obtain ⟨ie, hie, hsz⟩ := szT_info hn
  have hby : ie.bytes = bytes := by
    unfold bytesT at hb; rw [hie] at hb; simpa using hb
  cases hzz : ie.zero with
  | none => rw [hie] at hz; simp [hzz] at hz
  | some z =>
    have hzsz := hzs z (by rw [hie]; exact hzz)
    simp only [step, Option.bind_eq_some_iff] at hs
    obtain ⟨⟨ysz, ys⟩, hel, zs, hzs2, hs⟩ := hs
    simp only at hzs2 hs
    obtain ⟨ad, ycap, news, y1, y2, y3, y4⟩ := elems_flat h.bx hq hel
    have hzl := mapO_length hzs2
    generalize hfl : ys.flatMap (refs s.bx depth) = fl at hs
    have hy2' : REl (cxOf B0 S (AM.freeze s.bx fl) lc w) ysz zs news := mapO_rell (fun d hm d' v ht hv => by rw [← hfl]; exact tell_frozen h hm ht hv) hzs2 y2
    obtain ⟨h2, hkp⟩ := h.freeze fl
    have hfr := freeze_eq s.bx fl
    have key : ∀ (q : Nat) (base : List D) (xs : List Value) (bx1 : Nat → Box) (old : Nat → Prop), ysz = sz → (base.length + ys.length) * bytes ≤ 140737488355328 →
        w.ownsRow B0 e sz (a.eval x) base.length xs → REl (cxOf B0 S (AM.freeze s.bx fl) lc w) sz base xs →
        (∀ k, bx1 k = AM.freeze s.bx fl k ∨ (old k ∧ bx1 k = ⟨(AM.freeze s.bx fl k).gen, .dead, (AM.freeze s.bx fl k).kd, (AM.freeze s.bx fl k).cs⟩)) → (∀ k, old k → (AM.freeze s.bx fl k).st = .rw ∧ bx1 k = ⟨(AM.freeze s.bx fl k).gen, .dead, (AM.freeze s.bx fl k).kd, (AM.freeze s.bx fl k).cs⟩) →
        (∀ b, blockOf (a.eval x) = some b → ∃ k, old k ∧ blockOf (lc k) = some b) → (∀ k, old k → lc k = a.eval x) → (∀ k, old k → ∃ sz e, (AM.freeze s.bx fl k).kd = .arr sz e) →
        Steps1 P B0 N S w0 lc s.bx o a w ⟨upd s.tm t (.own q ((s.bx q).gen + 1)), upd bx1 q ⟨(s.bx q).gen + 1, .rw, .arr sz e, base ++ zs⟩⟩ := by
      intro q base xs bx1 old hys hroom hown hrel hb1 hold hblk hlold hokd
      subst hys
      have hyl := rel_length y2
      have h63 : base.length + ys.length ≤ maxLen := by
        have := Nat.le_mul_of_pos_right (base.length + ys.length) hb0
        simp only [maxLen]; omega
      have main : ∃ v' w', (Builtin.append_ #[ty, ty] o.type #[a.eval x, a.eval y]).run P w = .ok v' w' ∧ w'.ownsRow B0 e ysz v' (base.length + ys.length) (xs ++ news) ∧ w.grownBy w' (a.eval x).ownBlock ∧ (v'.ownBlock = (a.eval x).ownBlock ∨ v'.ownBlock = some w.heap.size) := by
        rw [y1]
        cases ad with
        | some ad =>
          obtain ⟨v', w', k1, k2, k3, _, k5⟩ := run_append_own_at (P := P) (w := w) B0 ty o.type e ie z ysz bytes hu hie hzz hsz hby hzsz h0 (a.eval x) base.length xs hown ad ys.length ycap news hyl (y4 ad rfl) y2.one h63 hroom hB
          exact ⟨v', w', k1, k2, k3, k5⟩
        | none =>
          obtain ⟨h1, h2⟩ := y3 rfl
          subst h1
          subst h2
          have hne : news = [] := List.eq_nil_of_length_eq_zero (by simpa using hyl)
          subst hne
          exact ⟨a.eval x, w, run_append_owned_none (P := P) (w := w) B0 ty o.type e ie ysz hu hie (a.eval x) base.length xs hown, by simpa using hown, World.grownBy.refl _ _, .inl rfl⟩
      obtain ⟨v', w', k1, k2, k3, k4⟩ := main
      have hob : ∀ v : Value, (∃ n c, v = .slice none n c) ∨ (∃ ad n c, v = .slice (some ad) n c) → blockOf v = v.ownBlock := by
        intro v hv
        rcases hv with ⟨n, c, rfl⟩ | ⟨ad, n, c, rfl⟩ <;> rfl
      have hform : ∀ {W : World} {v : Value} {n : Nat} {l : List Value}, W.ownsRow B0 e ysz v n l → blockOf v = v.ownBlock := by
        intro W v n l ho'
        rcases ho'.2 with ⟨h1, _⟩ | ⟨g, cap, cur, h1, _⟩
        · exact hob v (.inl ⟨_, _, h1⟩)
        · exact hob v (.inr ⟨_, _, _, h1⟩)
      refine stepsK (lc' := upd lc q v') (v := v') (w' := w') ?_ ?_
      · unfold execOp
        simp only [ho, resolve, invoke, Go.builtin, Sem.run_bind, Sem.run_pure, Result.andThen, List.map_toArray, List.map_cons, List.map_nil, k1]
      · rw [hd]
        have hnb := h2.newbox (t := t) (q := q) ht (w' := w') (old := old) ⟨(s.bx q).gen + 1, .rw, .arr ysz e, base ++ zs⟩ v' v' (.own q ((s.bx q).gen + 1)) (by simp only [(hfr q).1]) bx1 hb1 hold hokd ⟨k3.os, k3.tape, k3.output⟩ k3.size ?_ ?_ ?_ ?_
        · exact ⟨hnb.1, hkp.trans hnb.2⟩
        · intro b hb hno
          refine k3.block b hb fun he => ?_
          have h1 : blockOf (a.eval x) = some b := by rw [hform hown, ← he]
          obtain ⟨k, h2, h3⟩ := hblk b h1
          exact hno k h2 h3
        · intro b hbl
          rw [hform k2] at hbl
          rcases k4 with k4 | k4
          · rw [k4, ← hform hown] at hbl
            exact .inr (hblk b hbl)
          · rw [k4] at hbl
            simp only [Option.some.injEq] at hbl
            exact .inl (Nat.le_of_eq hbl)
        · intro c hw hb hl
          simp only [RV]
          rw [hb, hl]
          refine ⟨?_, Nat.le_refl _, fun _ => rfl⟩
          rcases k2.2 with ⟨h1, _⟩ | ⟨g, cap, cur, h1, _⟩ <;> rw [h1] <;> rfl
        · intro hk
          refine BR.arr (sz := ysz) (e := e) (xs := xs ++ news) (by simp only [cxOf, upd_same]) h0 ?_ ?_
          · simp only [cxOf, upd_same, List.length_append, hzl]; exact k2
          · have := (hrel.keep hk _ _ _).append (hy2'.keep hk _ _ _)
            simp only [cxOf, upd_same] at this ⊢
            exact this
    split at hs
    · rename_i k g e1
      rw [e1] at hp
      split at hs
      · rename_i hc
        obtain ⟨hg, hst, hkd, hys, hroom⟩ := hc
        simp only [Option.some.injEq] at hs
        subst hs
        have hb' := h2.bx k (by rw [show (cxOf B0 S (AM.freeze s.bx fl) lc w).bx k = AM.freeze s.bx fl k from rfl, hst]; decide)
        simp only [cxOf, (hfr k).2.1, (hfr k).2.2.1, hkd] at hb'
        obtain ⟨xs, _, hown, hrel⟩ := hb'
        simp only [RV] at hp
        have hpv : a.eval x = lc k := hp.2.2 hg
        rw [← hpv] at hown
        have := key k (s.bx k).cs xs (upd (AM.freeze s.bx fl) k ⟨(AM.freeze s.bx fl k).gen, .dead, (AM.freeze s.bx fl k).kd, (AM.freeze s.bx fl k).cs⟩) (fun i => i = k) hys hroom hown hrel (fun i => by
          by_cases hi : i = k
          · subst hi; exact .inr ⟨rfl, by rw [upd_same]⟩
          · exact .inl (upd_ne hi)) (fun i hi => by subst hi; exact ⟨hst, by rw [upd_same]⟩) (fun b hb => ⟨k, rfl, by rw [← hpv]; exact hb⟩) (fun i hi => by rw [hi]; exact hpv.symm) (fun i hi => by rw [hi, (hfr k).2.1]; exact ⟨_, _, hkd⟩)
        rw [upd_upd, hg] at this
        exact this
      · simp at hs
    · rename_i sz' e1
      rw [e1] at hp
      split at hs
      · rename_i hc
        obtain ⟨_, hys, hroom⟩ := hc
        simp only [Option.some.injEq] at hs
        subst hs
        simp only [RV] at hp
        obtain ⟨_, _, _, _, hnl, _⟩ := hp
        have hpv := hnl trivial
        have := key (T.base + t) [] [] (AM.freeze s.bx fl) (fun _ => False) hys (by simpa using hroom) (by rw [hpv]; exact World.ownsRow_nil _ _ _ _) (by simp [REl]) (fun k => .inl rfl) (fun k hk => hk.elim) (fun b hb => by rw [hpv] at hb; simp [blockOf] at hb) (fun k hk => hk.elim) (fun k hk => hk.elim)
        simpa using this
      · simp at hs
    · simp at hs
end
end Go.Proofs.AM
