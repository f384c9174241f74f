/- Part 16 of the lemmas: PXb. -/
import Derived.Test.YtococcgeoknmjaaGreatDoorM15
namespace Go.Proofs.AM
open Go Go.Lib
structure KeyV where
  k : Str
  s : SetV
  deriving DecidableEq
def keyC (x : KeyV) : List D := [mkS x.k, .bool x.s.m, .bool x.s.n, .bool x.s.u, .sl 1 false (x.s.l.map mkS), .int .i64 x.s.lo, .int .i64 x.s.hi]
def keyedD (x : KeyV) : D := .agg (keyC x)
def OrdK (l : List KeyV) : Prop := l.Pairwise fun a b => a.k < b.k
def insK (x : KeyV) : List KeyV → List KeyV
  | [] => [x]
  | y :: r => if y.k < x.k then y :: insK x r else x :: y :: r
def setK (k : Str) (s : SetV) (l : List KeyV) : List KeyV := l.map fun y => if y.k = k then ⟨k, s⟩ else y
noncomputable def setsF : List KeyV → List ReqV → List KeyV × Int
  | out, [] => (out, 0)
  | out, r :: l => match out.find? (fun x => decide (x.k = r.key)) with
    | some x => if (meetS x.s (ofSet r)).2 = 0 then setsF (setK r.key (meetS x.s (ofSet r)).1 out) l else ([], (meetS x.s (ofSet r)).2)
    | none => setsF (insK ⟨r.key, ofSet r⟩ out) l
noncomputable def setsE (l : List ReqV) : List KeyV × Int := if reqsE 16 l ≠ 0 then ([], reqsE 16 l) else setsF [] l
theorem str_asymm {a b : Str} (h : a < b) (h2 : b < a) : False := List.lt_irrefl a (List.lt_trans h h2)
theorem insK_perm (x : KeyV) : ∀ l, (insK x l).Perm (x :: l)
  | [] => .refl _
  | y :: r => by
    unfold insK
    split
    · exact ((insK_perm x r).cons y).trans (.swap x y r)
    · exact .refl _
theorem insK_ord {x : KeyV} : ∀ {l : List KeyV}, OrdK l → (∀ y ∈ l, y.k ≠ x.k) → OrdK (insK x l)
  | [], _, _ => by simp [insK, OrdK]
  | y :: r, h, hn => by
    have h' := List.pairwise_cons.1 h
    unfold insK
    split
    · rename_i hlt
      refine List.pairwise_cons.2 ⟨fun z hz => ?_, insK_ord h'.2 fun z hz => hn z (by simp [hz])⟩
      rcases List.mem_cons.1 ((insK_perm x r).mem_iff.1 hz) with rfl | hz
      · exact hlt
      · exact h'.1 z hz
    · rename_i hge
      have hxy : x.k < y.k := by
        rcases lt_total x.k y.k with h1 | h1 | h1
        · exact h1
        · exact absurd h1.symm (hn y (by simp))
        · exact absurd h1 hge
      refine List.pairwise_cons.2 ⟨fun z hz => ?_, h⟩
      rcases List.mem_cons.1 hz with rfl | hz
      · exact hxy
      · exact List.lt_trans hxy (h'.1 z hz)
theorem setK_keys (k : Str) (s : SetV) (l : List KeyV) : (setK k s l).map (·.k) = l.map (·.k) := by
  unfold setK
  rw [List.map_map]
  refine List.map_congr_left fun x _ => ?_
  simp only [Function.comp]
  split
  · rename_i h; exact h.symm
  · rfl
theorem ordK_keys {l : List KeyV} : OrdK l ↔ (l.map (·.k)).Pairwise (· < ·) := by
  unfold OrdK
  rw [List.pairwise_map]
theorem setK_ord {k : Str} {s : SetV} {l : List KeyV} (h : OrdK l) : OrdK (setK k s l) := by
  rw [ordK_keys, setK_keys, ← ordK_keys]; exact h
theorem ordK_nodup {l : List KeyV} (h : OrdK l) : (l.map (·.k)).Nodup := by
  rw [ordK_keys] at h
  exact h.imp fun hab e => by subst e; exact List.lt_irrefl _ hab
theorem ordK_eq : ∀ {a b : List KeyV}, a.Perm b → OrdK a → OrdK b → a = b
  | [], b, h, _, _ => by simpa using h.symm
  | x :: a, [], h, _, _ => by simp at h
  | x :: a, y :: b, h, ha, hb => by
    have ha' := List.pairwise_cons.1 ha
    have hb' := List.pairwise_cons.1 hb
    have hxy : x = y := by
      refine Classical.byContradiction fun hn => ?_
      have h1 : x ∈ b := by
        rcases List.mem_cons.1 (h.mem_iff.1 (List.mem_cons_self)) with e | e
        · exact absurd e hn
        · exact e
      have h2 : y ∈ a := by
        rcases List.mem_cons.1 (h.mem_iff.2 (List.mem_cons_self)) with e | e
        · exact absurd e.symm hn
        · exact e
      exact str_asymm (ha'.1 y h2) (hb'.1 x h1)
    subst hxy
    rw [ordK_eq (List.Perm.cons_inv h) ha'.2 hb'.2]
theorem key_one {l : List KeyV} (h : (l.map (·.k)).Nodup) {x y : KeyV} (hx : x ∈ l) (hy : y ∈ l) (e : x.k = y.k) : x = y := by
  induction l with
  | nil => simp at hx
  | cons z l ih =>
    simp only [List.map_cons, List.nodup_cons] at h
    rcases List.mem_cons.1 hx with h1 | h1 <;> rcases List.mem_cons.1 hy with h2 | h2
    · rw [h1, h2]
    · exact absurd (List.mem_map.2 ⟨y, h2, by rw [← e, h1]⟩) h.1
    · exact absurd (List.mem_map.2 ⟨x, h1, by rw [e, h2]⟩) h.1
    · exact ih h.2 h1 h2
theorem find_key {l : List KeyV} (h : (l.map (·.k)).Nodup) {x : KeyV} (hx : x ∈ l) : l.find? (fun y => decide (y.k = x.k)) = some x := by
  cases hf : l.find? (fun y => decide (y.k = x.k)) with
  | none => have := List.find?_eq_none.1 hf x hx; simp at this
  | some y =>
    have h1 := List.mem_of_find?_eq_some hf
    have h2 := List.find?_some hf
    rw [key_one h h1 hx (by simpa using h2)]
theorem find_perm {l l' : List KeyV} (h : l.Perm l') (hn : (l.map (·.k)).Nodup) (k : Str) : l.find? (fun y => decide (y.k = k)) = l'.find? (fun y => decide (y.k = k)) := by
  have hn' : (l'.map (·.k)).Nodup := (h.map _).nodup_iff.1 hn
  cases hf : l.find? (fun y => decide (y.k = k)) with
  | none =>
    symm
    rw [List.find?_eq_none] at hf ⊢
    exact fun x hx => hf x (h.mem_iff.2 hx)
  | some y =>
    have h1 := List.mem_of_find?_eq_some hf
    have h2 : y.k = k := by simpa using List.find?_some hf
    subst h2
    rw [find_key hn' (h.mem_iff.1 h1)]
abbrev entS : KeyV → D := entK (fun x : KeyV => x.k) (fun x => setD x.s)
theorem mput_set (k : Str) (s : SetV) : ∀ {l : List KeyV}, (l.map (·.k)).Nodup → (∃ x ∈ l, x.k = k) → mputD kS (mkS k) (setD s) (l.map entS) = some ((setK k s l).map entS)
  | [], _, h => by obtain ⟨x, hx, _⟩ := h; simp at hx
  | y :: r, hn, h => by
    simp only [List.map_cons, List.nodup_cons] at hn
    simp only [List.map_cons, entS, entK, mputD, keyEq_S, Option.bind_some, setK]
    by_cases hy : y.k = k
    · subst hy
      simp only [decide_true, if_true]
      congr 2
      have : r.map (fun y_1 => if y_1.k = y.k then (⟨y.k, s⟩ : KeyV) else y_1) = r := by
        conv => rhs; rw [← List.map_id r]
        refine List.map_congr_left fun z hz => ?_
        rw [if_neg (fun e => hn.1 (List.mem_map.2 ⟨z, hz, e⟩))]
        rfl
      rw [this]
    · have h2 : ¬ k = y.k := fun e => hy e.symm
      simp only [h2, hy, decide_false, Bool.false_eq_true, if_false]
      have hr : ∃ x ∈ r, x.k = k := by
        obtain ⟨x, hx, e⟩ := h
        rcases List.mem_cons.1 hx with rfl | hx
        · exact absurd e hy
        · exact ⟨x, hx, e⟩
      rw [show mputD kS (mkS k) (setD s) (r.map (entK (fun x : KeyV => x.k) fun x => setD x.s)) = _ from mput_set k s hn.2 hr]
      rfl
noncomputable def canE (l : List ReqV) : Bool × Int := if (setsE l).2 ≠ 0 then (false, (setsE l).2) else (!((setsE l).1.any fun x => emptyB x.s), 0)
noncomputable def meetsE (a b : List ReqV) : Bool × Int := if reqsE 8 a ≠ 0 then (false, reqsE 8 a) else if reqsE 8 b ≠ 0 then (false, reqsE 8 b) else canE (a ++ b)
end Go.Proofs.AM
