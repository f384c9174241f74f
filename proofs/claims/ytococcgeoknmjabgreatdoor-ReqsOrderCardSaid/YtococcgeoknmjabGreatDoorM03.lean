/- Part 3 of the lemmas: AMCall. -/
import Derived.Test.YtococcgeoknmjabGreatDoorM02
namespace Go.Proofs.AM
open Go Go.RowKit
mutual
theorem RV.scalar {c c' : Cx} : ∀ (d : D) (v : Value), scalar d = true → RV c d v → RV c' d v
  | .junk, _, _, hv => by simp [RV] at hv
  | .undef, _, _, hv => by simpa [RV] using hv
  | .int _ _, _, _, hv => by simpa [RV] using hv
  | .bool _, _, _, hv => by simpa [RV] using hv
  | .str _, _, _, hv => by simpa [RV] using hv
  | .agg cs, v, hc, hv => by
    simp only [RV, AM.scalar] at hv hc ⊢
    obtain ⟨vs, e, hs, ho⟩ := hv
    exact ⟨vs, e, RVs.scalar cs _ hc hs, ho⟩
  | .tup cs, v, hc, hv => by
    simp only [RV, AM.scalar] at hv hc ⊢
    obtain ⟨vs, e, hs⟩ := hv
    exact ⟨vs, e, RVs.scalar cs _ hc hs⟩
  | .sl _ _ _, v, hc, hv => by simp [AM.scalar] at hc
  | .own _ _, v, hc, hv => by simp [AM.scalar] at hc
  | .mapr _ _, v, hc, hv => by simp [AM.scalar] at hc
  | .ptr _ _ _, v, hc, hv => by simp [AM.scalar] at hc
  | .eptr _ _ _ _, v, hc, hv => by simp [AM.scalar] at hc
  | .vptr _ _, v, hc, hv => by simp [AM.scalar] at hc
  | .nilp, _, _, hv => by simpa [RV] using hv
  | .fn _ _ _, v, hc, hv => by simp [AM.scalar] at hc
  | .nilf, _, _, hv => by simpa [RV] using hv
  | .iface t d, v, hc, hv => by
    simp only [RV, AM.scalar] at hv hc ⊢
    obtain ⟨x, e, hx⟩ := hv
    exact ⟨x, e, RV.scalar d x hc hx⟩
  | .nili, _, _, hv => by simpa [RV] using hv
  | .opq, _, _, hv => by simpa [RV] using hv
  | .mapv es, v, hc, hv => by simp [AM.scalar] at hc
  | .nilm, _, _, hv => by simpa [RV] using hv
theorem RVs.scalar {c c' : Cx} : ∀ (ds : List D) (vs : List Value), scalarL ds = true → RVs c ds vs → RVs c' ds vs
  | [], _, _, hv => by simpa [RVs] using hv
  | d :: ds, _, hc, hv => by
    simp only [RVs, scalarL, Bool.and_eq_true] at hv hc ⊢
    obtain ⟨v, r, e, h1, h2⟩ := hv
    exact ⟨v, r, e, RV.scalar d v hc.1 h1, RVs.scalar ds r hc.2 h2⟩
end
theorem refs_closed {bx : Nat → Box} (n : Nat) {d : D} (h : closed d = true) : refs bx n d = [] := by
  cases n <;> simp [refs, h]
theorem refs_closedL {bx : Nat → Box} (n : Nat) : ∀ {l : List D}, closedL l = true → l.flatMap (refs bx n) = []
  | [], _ => rfl
  | d :: l, h => by
    simp only [closedL, Bool.and_eq_true] at h
    simp [refs_closed n h.1, refs_closedL n h.2]
def Enters (P : Program) (f : Nat) : Prop := ∀ args w, (callFunc f args).run P w = .ok (.enter f args) w
def Sound (P : Program) (G : World → Prop) (C : Nat → List D → Option D) : Prop := ∀ f args r, C f args = some r → Enters P f ∧ closed r = true ∧ Spec P G f args r
def SoundV (P : Program) (G : World → Prop) (v : Nat → List D → D → Prop) : Prop := ∀ f args r, v f args r → Enters P f ∧ closed r = true ∧ Spec P G f args r
def Grows (G : World → Prop) : Prop := ∀ w w', G w → Below w.heap.size w w' → G w'
structure Mem (B0 : Nat) (S : Nat → Prop) (w0 : World) (lc : Nat → Value) (bx : Nat → Box) (w : World) : Prop where
  hB0 : B0 = w0.heap.size
  below : Below B0 w0 w
  hbx : ∀ k, BR (cxOf B0 S bx lc w) B0 k
  sep : ∀ k k' b, (bx k).st ≠ .dead → (bx k').st ≠ .dead → blockOf (lc k) = some b → blockOf (lc k') = some b → k = k'
def SpecS (P : Program) (G : World → Prop) (f : Nat) (args : List D) (bx : Nat → Box) (post : D → (Nat → Box) → Prop) : Prop :=
  ∀ (B0 : Nat) (S : Nat → Prop) (w0 : World) (lc : Nat → Value) (w : World) (vs : Array Value), G w0 → Mem B0 S w0 lc bx w → RVs (cxOf B0 S bx lc w) args vs.toList →
    Calls P f vs w fun e w' => ∃ r bx' v lc', post r bx' ∧ e = .returned v ∧ Mem B0 S w0 lc' bx' w' ∧ Keeps (cxOf B0 S bx lc w) (cxOf B0 S bx' lc' w') ∧ RV (cxOf B0 S bx' lc' w') r v
def SoundR (P : Program) (G : World → Prop) (R : Ans) : Prop :=
  SoundV P G R.v ∧ ∀ f args bx post, R.s f args bx post → Enters P f ∧ SpecS P G f args bx post
theorem Tells.sound {P : Program} {G : World → Prop} {R : Ans} (h : SoundR P G R) {base : Nat} {C : Nat → List D → Option D} {T : Sh} (ht : Tells R base C T) : Sound P G C :=
  fun f args r hr => h.1 f args r (ht.1 f args r hr)
section
variable {P : Program} {B0 N : Nat} {S : Nat → Prop} {w0 : World} {lc : Nat → Value} {s : St} {a : Act} {w : World} {C : Nat → List D → Option D} {T : Sh} {G : World → Prop}
theorem Rel.good (h : Rel B0 N S w0 lc s a w) (hGG : Grows G) (hG : G w0) : G w := hGG w0 w hG (by have := h.below; rw [h.hB0] at this; exact this)
theorem Rel.mem (h : Rel B0 N S w0 lc s a w) : Mem B0 S w0 lc s.bx w := ⟨h.hB0, h.below, h.bx, h.sep⟩
theorem Rel.back (h : Rel B0 N S w0 lc s a w) {lc' : Nat → Value} {bx' : Nat → Box} {w' : World} (hm : Mem B0 S w0 lc' bx' w') (hk : Keeps (cxOf B0 S s.bx lc w) (cxOf B0 S bx' lc' w')) : Rel B0 N S w0 lc' ⟨s.tm, bx'⟩ a w' where
  hB0 := h.hB0
  nt := h.nt
  df := h.df
  below := hm.below
  tm := h.tm.keep hk
  bx := hm.hbx
  sep := hm.sep
theorem s_icall {R : Ans} {base : Nat} (h : Rel B0 N S w0 lc s a w) (hG : G w0) (hR : SoundR P G R) {o : Oper} (hd : ∀ t, o.dst = some t → t < N) {cl : Call} {f : Operand} (ho : o.op = .call cl) (hcl : cl.callee = .value f) {t1 : TypeId} {f' : Opd} {ats : List TypeId} {l' : List Opd}
    (hf : opdT P t1 f = some f') (hargs : argsT P ats cl.args.toList = some l') {Kd : St → Prop} (hcw : callW R base f' l' o.dst s Kd)
    {K : Act → World → Prop} {Q : Exit → Act → World → Prop} (hK : ∀ s' lc' a' w', Kd s' → Rel B0 N S w0 lc' s' a' w' → Keeps (cxOf B0 S s.bx lc w) (cxOf B0 S s'.bx lc' w') → K a' w') : o.wp P a w K Q := by
  obtain ⟨g, first, caps, post, hfn, hr, _, hpost⟩ := hcw
  obtain ⟨hent, hspec⟩ := hR.2 _ _ _ _ hr
  have hfv := opdT_rv h.tm hf
  rw [hfn] at hfv
  simp only [RV] at hfv
  obtain ⟨xs, ys, hfe, hxs, hys⟩ := hfv
  have has := argsT_rv h.tm hargs
  have hall : RVs (cxOf B0 S s.bx lc w) (first ++ l'.map (·.get s.tm) ++ caps) (xs.toList ++ cl.args.toList.map a.eval ++ ys.toList) := (hxs.append has).append hys
  have hcall := hspec B0 S w0 lc w (xs.toList ++ cl.args.toList.map a.eval ++ ys.toList).toArray hG h.mem (by simpa using hall)
  unfold Oper.wp
  have hrun : (execOp a.eval o).run P w = .ok (.enter g (xs.toList ++ cl.args.toList.map a.eval ++ ys.toList).toArray) w := by
    obtain ⟨callee, args, at2⟩ := cl
    simp only at hcl
    subst hcl
    unfold execOp
    simp only [ho, resolve, hfe, Deferred.ofValue, Sem.run_bind, Sem.run_pure, Result.andThen, invoke]
    have : (xs ++ args.map a.eval) ++ ys = (xs.toList ++ args.toList.map a.eval ++ ys.toList).toArray := by
      apply Array.toList_inj.mp; simp
    rw [this]
    exact hent _ _
  rw [hrun, Oper.upon_enter]
  refine hcall.mono fun e w' hq => ?_
  obtain ⟨r, bx', v, lc', hp, he, hmem, hkp, hrv⟩ := hq
  subst he
  refine hK _ lc' _ _ (hpost r bx' hp) ((h.back hmem hkp).put hd hrv) ?_
  rw [putD_bx]
  exact hkp
theorem s_call (h : Rel B0 N S w0 lc s a w) (hG : G w) (hC : Sound P G C) {o : Oper} (hd : ∀ t, o.dst = some t → t < N) {cl : Call} {f : Operand} (ho : o.op = .call cl) (hcl : cl.callee = .value f) {t1 : TypeId} {f' : Opd} {ats : List TypeId} {l' : List Opd}
    (hf : opdT P t1 f = some f') (hargs : argsT P ats cl.args.toList = some l') {g : Nat} {first caps l : List D} {r : D} (hfn : f'.get s.tm = .fn g first caps)
    (hl : mapO (tell s.bx depth) (first ++ l'.map (·.get s.tm) ++ caps) = some l) (hr : C g (stripL l) = some r) {bx2 : Nat → Box}
    (hb : (bx2 = s.bx ∧ (closedL (first ++ l'.map (·.get s.tm) ++ caps) = true ∨ scalar r = true)) ∨ bx2 = freeze s.bx ((first ++ l'.map (·.get s.tm) ++ caps).flatMap (refs s.bx depth))) :
    Steps1 P B0 N S w0 lc s.bx o a w (putD ⟨s.tm, bx2⟩ o.dst r) := by
  obtain ⟨hent, hcr, hspec⟩ := hC _ _ _ hr
  obtain ⟨h2, hkp⟩ : Rel B0 N S w0 lc ⟨s.tm, bx2⟩ a w ∧ Keeps (cxOf B0 S s.bx lc w) (cxOf B0 S bx2 lc w) := by
    rcases hb with ⟨e, _⟩ | e
    · subst e; exact ⟨h, Keeps.refl _⟩
    · subst e; exact h.freeze _
  have hfv := opdT_rv h.tm hf
  rw [hfn] at hfv
  simp only [RV] at hfv
  obtain ⟨xs, ys, hfe, hxs, hys⟩ := hfv
  have has := argsT_rv h.tm hargs
  have hall : RVs (cxOf B0 S s.bx lc w) (first ++ l'.map (·.get s.tm) ++ caps) (xs.toList ++ cl.args.toList.map a.eval ++ ys.toList) := (hxs.append has).append hys
  have hS : ∃ S' : Nat → Prop, (∀ b, b < w.heap.size → (cxOf B0 S s.bx lc w).A b → S' b) ∧ (∀ k ∈ (first ++ l'.map (·.get s.tm) ++ caps).flatMap (refs s.bx depth), (s.bx k).st ≠ .dead → ∀ b, blockOf (lc k) = some b → S' b) ∧
      (scalar r = true ∨ ∀ b, S' b → (cxOf B0 S bx2 lc w).A b) := by
    rcases hb with ⟨e, hcs⟩ | e
    · subst e
      rcases hcs with hcs | hcs
      · exact ⟨(cxOf B0 S s.bx lc w).A, fun b _ hA => hA, by rw [refs_closedL _ hcs]; simp, .inr fun b hA => hA⟩
      · exact ⟨fun _ => True, fun _ _ _ => trivial, fun _ _ _ _ _ => trivial, .inl hcs⟩
    · subst e
      refine ⟨(cxOf B0 S (freeze s.bx _) lc w).A, fun b hb hA => ?_, fun k hk hst b hbl => ?_, .inr fun b hA => hA⟩
      · rcases hA with hA | ⟨h1, h3⟩
        · exact .inl hA
        · refine .inr ⟨h1, fun i hi => h3 i ?_⟩
          unfold freeze at hi
          split at hi
          · simp at hi
          · exact hi
      · refine .inr ⟨((h.bx k).block hst hbl).1, fun i hi hbi => ?_⟩
        unfold freeze at hi
        split at hi
        · simp at hi
        · rename_i hn
          have : i = k := h.sep i k b (by rw [hi]; decide) hst hbi hbl
          subst this
          exact hn ⟨hk, hi⟩
  obtain ⟨S', hS1, hS2, hS3⟩ := hS
  have hvs : RVs ⟨w, S', bx0, noLoc⟩ (stripL l) (xs.toList ++ cl.args.toList.map a.eval ++ ys.toList) := by
    refine RVs.strip _ _ (mapO_rvs ?_ hl hall)
    intro d hdm d' v ht hv
    exact tell_rv (c' := ⟨w, S', bx0, noLoc⟩) h.bx rfl hS1 depth d d' v (fun k hk hst b hbl => hS2 k (List.mem_flatMap.2 ⟨d, hdm, hk⟩) hst b hbl) ht hv
  have hcall := hspec w S' (xs.toList ++ cl.args.toList.map a.eval ++ ys.toList).toArray hG (by simpa using hvs)
  intro K Q hK
  unfold Oper.wp
  have hrun : (execOp a.eval o).run P w = .ok (.enter g (xs.toList ++ cl.args.toList.map a.eval ++ ys.toList).toArray) w := by
    obtain ⟨callee, args, at2⟩ := cl
    simp only at hcl
    subst hcl
    unfold execOp
    simp only [ho, resolve, hfe, Deferred.ofValue, Sem.run_bind, Sem.run_pure, Result.andThen, invoke]
    have : (xs ++ args.map a.eval) ++ ys = (xs.toList ++ args.toList.map a.eval ++ ys.toList).toArray := by
      apply Array.toList_inj.mp; simp
    rw [this]
    exact hent _ _
  rw [hrun, Oper.upon_enter]
  refine hcall.mono fun e w' hpost => ?_
  obtain ⟨v, he, hbel, hrv⟩ := hpost
  subst he
  have h3 := h2.world hbel
  refine hK lc _ _ (h3.put hd ?_) (by rw [putD_bx]; exact hkp.trans (keeps_world (s := ⟨s.tm, bx2⟩) hbel))
  rcases hS3 with hsc | hS3
  · exact RV.scalar r v hsc hrv
  · have hwd : Wider ⟨w', fun b => S' b ∨ w.heap.size ≤ b, bx0, noLoc⟩ (cxOf B0 S bx2 lc w') := by
      refine ⟨rfl, fun b _ hA => ?_⟩
      rcases hA with hA | hA
      · exact hS3 b hA
      · have hB : B0 ≤ w.heap.size := by rw [h.hB0]; exact h.below.size
        refine .inr ⟨Nat.le_trans hB hA, fun i hi hbi => ?_⟩
        have := (h2.bx i).block (by rw [show (cxOf B0 S bx2 lc w).bx i = bx2 i from rfl, hi]; decide) hbi
        have h4 : b < w.heap.size := this.2
        omega
    exact RV.closed hwd r v hcr hrv
end
end Go.Proofs.AM
