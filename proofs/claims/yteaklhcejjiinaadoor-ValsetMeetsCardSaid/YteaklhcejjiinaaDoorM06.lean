/- Part 6 of the lemmas: AML, AMLaw, PVa, PVb, PVd, PVe, PVf. -/
import Derived.Test.YteaklhcejjiinaaDoorM03
import Derived.Test.YteaklhcejjiinaaDoorM05
import Derived.IntWalk
import Derived.Laws.Strings
import Derived.Sort.Walk0
import Derived.ProofKit
import Derived.OpenShut
import Derived.SizedLaws
import Derived.Lib.ItoaMem
import Derived.Lib.ParseIntB
namespace Go.Proofs.AM
open Go
abbrev Str := List UInt8
def mkS (s : Str) : D := .str ⟨⟨s⟩⟩
def mkI (n : Int) : D := .int .i64 n
section
variable {O : Ops} (hO : O = Ops.std)
include hO
theorem o_add (k : IntKind) (a b : Int) : O .iop .add k a b = k.wrap (a + b) := by subst hO; simp [Ops.std, intOfO, binD, Go.binOp, Op.intArith, ofPure, pure]
theorem o_sub (k : IntKind) (a b : Int) : O .iop .sub k a b = k.wrap (a - b) := by subst hO; simp [Ops.std, intOfO, binD, Go.binOp, Op.intArith, ofPure, pure]
theorem o_mul (k : IntKind) (a b : Int) : O .iop .mul k a b = k.wrap (a * b) := by subst hO; simp [Ops.std, intOfO, binD, Go.binOp, Op.intArith, ofPure, pure]
theorem o_quo (k : IntKind) (a b : Int) (hb : b ≠ 0) : O .iop .quo k a b = k.wrap (a.tdiv b) := by subst hO; simp [Ops.std, intOfO, binD, Go.binOp, Op.intDiv, ofPure, pure, hb]
theorem o_rem (k : IntKind) (a b : Int) (hb : b ≠ 0) : O .iop .rem k a b = a.tmod b := by subst hO; simp [Ops.std, intOfO, binD, Go.binOp, Op.intDiv, ofPure, pure, hb]
theorem o_eql (a b : Int) : O .icmp .eql a b = decide (a = b) := by
  subst hO; simp [Ops.std, boolOfO, binD, Go.binOp, Op.intCmp, ofPure, pure]
  by_cases h : a = b <;> simp [h]
theorem o_neq (a b : Int) : O .icmp .neq a b = decide (a ≠ b) := by
  subst hO; simp [Ops.std, boolOfO, binD, Go.binOp, Op.intCmp, ofPure, pure]
  by_cases h : a = b <;> simp [h]
theorem o_lss (a b : Int) : O .icmp .lss a b = decide (a < b) := by subst hO; simp [Ops.std, boolOfO, binD, Go.binOp, Op.intCmp, ofPure, pure]
theorem o_leq (a b : Int) : O .icmp .leq a b = decide (a ≤ b) := by subst hO; simp [Ops.std, boolOfO, binD, Go.binOp, Op.intCmp, ofPure, pure]
theorem o_gtr (a b : Int) : O .icmp .gtr a b = decide (b < a) := by subst hO; simp [Ops.std, boolOfO, binD, Go.binOp, Op.intCmp, ofPure, pure]
theorem o_geq (a b : Int) : O .icmp .geq a b = decide (b ≤ a) := by subst hO; simp [Ops.std, boolOfO, binD, Go.binOp, Op.intCmp, ofPure, pure]
theorem o_seql (a b : Str) : O .scmp .eql ⟨⟨a⟩⟩ ⟨⟨b⟩⟩ = decide (a = b) := by
  subst hO; simp [Ops.std, boolOfO, binD, Go.binOp, Op.stringOp, ofPure, pure, ByteArray.toList_eq]
  by_cases h : a = b <;> simp [h]
theorem o_sneq (a b : Str) : O .scmp .neq ⟨⟨a⟩⟩ ⟨⟨b⟩⟩ = decide (a ≠ b) := by
  subst hO; simp [Ops.std, boolOfO, binD, Go.binOp, Op.stringOp, ofPure, pure, ByteArray.toList_eq]
  by_cases h : a = b <;> simp [h]
theorem o_slss (a b : Str) : O .scmp .lss ⟨⟨a⟩⟩ ⟨⟨b⟩⟩ = decide (a < b) := by
  subst hO; simp [Ops.std, boolOfO, binD, Go.binOp, Op.stringOp, ofPure, pure, ByteArray.toList_eq, bytesLess_eq]
theorem o_sgeq (a b : Str) : O .scmp .geq ⟨⟨a⟩⟩ ⟨⟨b⟩⟩ = decide (¬ a < b) := by
  subst hO; simp [Ops.std, boolOfO, binD, Go.binOp, Op.stringOp, ofPure, pure, ByteArray.toList_eq, bytesLess_eq, -List.not_lt]
theorem o_sleq (a b : Str) : O .scmp .leq ⟨⟨a⟩⟩ ⟨⟨b⟩⟩ = decide (a < b ∨ a = b) := by
  subst hO; simp [Ops.std, boolOfO, binD, Go.binOp, Op.stringOp, ofPure, pure, ByteArray.toList_eq, bytesLess_eq]
  by_cases h : a = b <;> simp [h]
theorem o_sgtr (a b : Str) : O .scmp .gtr ⟨⟨a⟩⟩ ⟨⟨b⟩⟩ = decide (¬ (a < b ∨ a = b)) := by
  subst hO; simp [Ops.std, boolOfO, binD, Go.binOp, Op.stringOp, ofPure, pure, ByteArray.toList_eq, bytesLess_eq, -List.not_lt]
  by_cases h : a = b <;> simp [h, -List.not_lt]
theorem o_cat (a b : Str) : O .cat ⟨⟨a⟩⟩ ⟨⟨b⟩⟩ = ⟨⟨a ++ b⟩⟩ := by
  subst hO
  apply ByteArray.ext
  simp [Ops.std]
theorem o_beq (neg a b : Bool) : O .beq neg a b = ((a == b) != neg) := by subst hO; rfl
theorem o_not (a : Bool) : O .bnot a = !a := by subst hO; rfl
theorem o_neg (k : IntKind) (a : Int) : O .neg .neg k a = k.wrap (0 - a) := by subst hO; simp [Ops.std, intOfO, unD, Op.unary, Op.intArith, ofPure, pure]
theorem o_wrap (k : IntKind) (a : Int) : O .wrap k a = k.wrap a := by subst hO; rfl
theorem o_nat (a : Int) : O .nat a = a.toNat := by subst hO; rfl
theorem o_len (l : List D) : O .len l = l.length := by subst hO; rfl
theorem o_slen (s : Str) : O .slen ⟨⟨s⟩⟩ = s.length := by subst hO; rfl
theorem o_app (a b : List D) : O .app a b = a ++ b := by subst hO; rfl
theorem o_subS (s : Str) (a b : Int) : O .subS ⟨⟨s⟩⟩ a b = ⟨⟨(s.take b.toNat).drop a.toNat⟩⟩ := by
  subst hO
  show ByteArray.extract ⟨⟨s⟩⟩ a.toNat b.toNat = _
  apply ByteArray.ext
  simp [ByteArray.data_extract, List.drop_take]
theorem o_subL (l : List D) (a b : Int) : O .subL l a b = (l.take b.toNat).drop a.toNat := by subst hO; rfl
theorem o_u8 (b : UInt8) : O .u8 b = b.toNat := by subst hO; rfl
theorem o_bytes (s : Str) : O .bytes ⟨⟨s⟩⟩ = s.map fun b => .int .u8 b.toNat := by subst hO; rfl
theorem o_set (l : List D) (i : Nat) (d : D) : O .set l i d = l.set i d := by subst hO; rfl
theorem o_max (a b : Int) : O .mx true a b = max a b := by
  subst hO
  show (if b > a then b else a) = max a b
  split <;> omega
theorem o_min (a b : Int) : O .mx false a b = min a b := by
  subst hO
  show (if b < a then b else a) = min a b
  split <;> omega
end
theorem wrap_i64 {n : Int} (h1 : -9223372036854775808 ≤ n) (h2 : n < 9223372036854775808) : IntKind.i64.wrap n = n := IntWalk.i64_in n ⟨h1, by omega⟩
theorem wrap_u8 {n : Int} (h1 : 0 ≤ n) (h2 : n < 256) : IntKind.u8.wrap n = n := IntWalk.u8_in n ⟨h1, by omega⟩
section
variable {O : Ops} (hO : O = Ops.std)
include hO
theorem o_add64 {a b : Int} (h1 : -9223372036854775808 ≤ a + b) (h2 : a + b < 9223372036854775808) : O .iop .add .i64 a b = a + b := by rw [o_add hO, wrap_i64 h1 h2]
theorem o_sub64 {a b : Int} (h1 : -9223372036854775808 ≤ a - b) (h2 : a - b < 9223372036854775808) : O .iop .sub .i64 a b = a - b := by rw [o_sub hO, wrap_i64 h1 h2]
theorem o_mul64 {a b : Int} (h1 : -9223372036854775808 ≤ a * b) (h2 : a * b < 9223372036854775808) : O .iop .mul .i64 a b = a * b := by rw [o_mul hO, wrap_i64 h1 h2]
end
def cmpP : BinOp → Int → Int → Prop
  | .eql, a, b => a = b
  | .neq, a, b => a ≠ b
  | .lss, a, b => a < b
  | .leq, a, b => a ≤ b
  | .gtr, a, b => b < a
  | .geq, a, b => b ≤ a
  | _, _, _ => True
def scmpP : BinOp → Str → Str → Prop
  | .eql, a, b => a = b
  | .neq, a, b => a ≠ b
  | .lss, a, b => a < b
  | .leq, a, b => a < b ∨ a = b
  | .gtr, a, b => ¬ (a < b ∨ a = b)
  | .geq, a, b => ¬ a < b
  | _, _, _ => True
def nocmp : BinOp → Bool
  | .eql | .neq | .lss | .leq | .gtr | .geq => false
  | _ => true
section
variable {O : Ops} (hO : O = Ops.std)
include hO
theorem ct {op : BinOp} {a b : Int} (h : true = O .icmp op a b) : cmpP op a b := by
  cases op <;> first | exact trivial | (simp only [o_eql hO, o_neq hO, o_lss hO, o_leq hO, o_gtr hO, o_geq hO] at h; simpa [cmpP] using h.symm)
theorem cf {op : BinOp} {a b : Int} (h : false = O .icmp op a b) : nocmp op = true ∨ ¬ cmpP op a b := by
  cases op <;> first | exact .inl rfl | (simp only [o_eql hO, o_neq hO, o_lss hO, o_leq hO, o_gtr hO, o_geq hO] at h; right; simpa [cmpP] using h.symm)
theorem f_eql {a b : Int} (h : false = O .icmp .eql a b) : a ≠ b := (cf hO h).resolve_left (by decide)
theorem f_neq {a b : Int} (h : false = O .icmp .neq a b) : a = b := Classical.byContradiction ((cf hO h).resolve_left (by decide))
theorem f_lss {a b : Int} (h : false = O .icmp .lss a b) : b ≤ a := Int.not_lt.1 ((cf hO h).resolve_left (by decide))
theorem f_leq {a b : Int} (h : false = O .icmp .leq a b) : b < a := Int.not_le.1 ((cf hO h).resolve_left (by decide))
theorem f_gtr {a b : Int} (h : false = O .icmp .gtr a b) : a ≤ b := Int.not_lt.1 ((cf hO h).resolve_left (by decide))
theorem f_geq {a b : Int} (h : false = O .icmp .geq a b) : a < b := Int.not_le.1 ((cf hO h).resolve_left (by decide))
theorem t_eql {a b : Int} (h : true = O .icmp .eql a b) : a = b := ct hO h
theorem t_neq {a b : Int} (h : true = O .icmp .neq a b) : a ≠ b := ct hO h
theorem t_lss {a b : Int} (h : true = O .icmp .lss a b) : a < b := ct hO h
theorem t_leq {a b : Int} (h : true = O .icmp .leq a b) : a ≤ b := ct hO h
theorem t_gtr {a b : Int} (h : true = O .icmp .gtr a b) : b < a := ct hO h
theorem t_geq {a b : Int} (h : true = O .icmp .geq a b) : b ≤ a := ct hO h
theorem t_seql {a b : Str} (h : true = O .scmp .eql ⟨⟨a⟩⟩ ⟨⟨b⟩⟩) : a = b := by rw [o_seql hO] at h; simpa using h.symm
theorem f_seql {a b : Str} (h : false = O .scmp .eql ⟨⟨a⟩⟩ ⟨⟨b⟩⟩) : a ≠ b := by rw [o_seql hO] at h; simpa using h.symm
theorem t_sneq {a b : Str} (h : true = O .scmp .neq ⟨⟨a⟩⟩ ⟨⟨b⟩⟩) : a ≠ b := by rw [o_sneq hO] at h; simpa using h.symm
theorem f_sneq {a b : Str} (h : false = O .scmp .neq ⟨⟨a⟩⟩ ⟨⟨b⟩⟩) : a = b := by rw [o_sneq hO] at h; simpa using h.symm
theorem t_slss {a b : Str} (h : true = O .scmp .lss ⟨⟨a⟩⟩ ⟨⟨b⟩⟩) : a < b := by rw [o_slss hO] at h; simpa using h.symm
theorem f_slss {a b : Str} (h : false = O .scmp .lss ⟨⟨a⟩⟩ ⟨⟨b⟩⟩) : ¬ a < b := by rw [o_slss hO] at h; simpa using h.symm
theorem t_sgeq {a b : Str} (h : true = O .scmp .geq ⟨⟨a⟩⟩ ⟨⟨b⟩⟩) : ¬ a < b := by rw [o_sgeq hO] at h; simpa [-List.not_lt] using h.symm
theorem f_sgeq {a b : Str} (h : false = O .scmp .geq ⟨⟨a⟩⟩ ⟨⟨b⟩⟩) : a < b := by rw [o_sgeq hO] at h; simpa [-List.not_lt] using h.symm
theorem b_eq {a b t : Bool} (h : t = O .beq false a b) : t = (a == b) := by rw [o_beq hO] at h; simpa using h
theorem b_ne {a b t : Bool} (h : t = O .beq true a b) : t = (a != b) := by rw [o_beq hO] at h; rw [h]; cases a <;> cases b <;> rfl
end
theorem ite_i {t : Bool} {p : Prop} [Decidable p] {A B : Prop} (ht : t = decide p) (ha : p → A) (hb : ¬ p → B) : if t = true then A else B := by
  subst ht
  by_cases h : p
  · rw [if_pos (by simpa using h)]; exact ha h
  · rw [if_neg (by simpa using h)]; exact hb h
theorem ite_i' {t : Bool} {p : Prop} [Decidable p] {A B : Prop} (ht : t = decide p) (ha : p → A) (hb : ¬ p → B) : if t = false then B else A := by
  subst ht
  by_cases h : p
  · rw [if_neg (by simpa using h)]; exact ha h
  · rw [if_pos (by simpa using h)]; exact hb h
theorem ite_b {t : Bool} {A B : Prop} (ha : t = true → A) (hb : t = false → B) : if t = true then A else B := by
  cases t with
  | true => rw [if_pos rfl]; exact ha rfl
  | false => rw [if_neg (by decide)]; exact hb rfl
theorem loop_of {f : DS → (Ex → DS → Prop) → Prop} {s : DS} {Q : Ex → DS → Prop} (J : Nat → DS → Prop) (h0 : ∃ n d, J n d ∧ s.le d)
    (h : ∀ J' : Nat → DS → Prop, (∀ n d, J n d → J' n d) → ∀ n d, J n d → f d (thenX (fun s' => ∃ m d', J' m d' ∧ s'.le d' ∧ m < n) Q)) : loopX f s Q :=
  ⟨J, h0, h J fun _ _ h => h⟩
theorem join_of {f g : DS → (Ex → DS → Prop) → Prop} {s : DS} {Q : Ex → DS → Prop} (M : DS → Prop) (h1 : ∀ M' : DS → Prop, (∀ d, M d → M' d) → f s (thenX (fun s' => ∃ d, M' d ∧ s'.le d) Q)) (h2 : ∀ d, M d → g d Q) : joinX f g s Q := ⟨M, h1 M fun _ h => h, h2⟩
theorem atX_map {α : Type} {l : List α} {f : α → D} {k : Nat} {y : α} (h : l[k]? = some y) {xs : List D} (hx : xs = l.map f) {i : Int} (hi : i = k) : atX xs i (f y) := by
  subst hi hx
  exact ⟨by omega, by simp [h]⟩
theorem cleanL_map {α : Type} {f : α → D} (hf : ∀ a, Clean (f a)) {l : List α} {xs : List D} (hx : xs = l.map f) : CleanL xs := by
  subst hx
  induction l with
  | nil => exact ⟨rfl, rfl⟩
  | cons a l ih =>
    obtain ⟨h1, h2⟩ := hf a
    obtain ⟨h3, h4⟩ := ih
    exact ⟨by simp [closedL, h1, h3], by simp [stripL, h2, h4]⟩
theorem CleanL.x {xs : List D} (h : CleanL xs) : ClosedX xs := ⟨h.c⟩
theorem CleanL.app {xs ys : List D} (h : CleanL xs) (k : CleanL ys) : CleanL (xs ++ ys) := by
  induction xs with
  | nil => exact k
  | cons x xs ih =>
    have h1 := h.c
    have h2 := h.s
    simp only [closedL, Bool.and_eq_true, stripL, List.cons.injEq] at h1 h2
    have := ih ⟨h1.2, h2.2⟩
    exact ⟨by simp [closedL, h1.1, this.c], by simp [stripL, h2.1, this.s]⟩
theorem clean_S (s : Str) : Clean (mkS s) := ⟨rfl, rfl⟩
theorem clean_I (n : Int) : Clean (mkI n) := ⟨rfl, rfl⟩
def SCall (V : Ans) (base : Nat) (g : Nat) (l : List D) (gv : List (Nat × Box)) (Q : D → List (Nat × Box) → Prop) : Prop :=
  ∀ bx : Nat → Box, (∀ k b, find gv k = some b → bx k = b) → ∃ post, V.s g l bx post ∧ (∃ r bx', post r bx') ∧ ∀ r bx', post r bx' →
    ∃ kn, Q r kn ∧ (∀ k b, find kn k = some b → bx' k = b) ∧ ∀ k, k < base → find gv k = none → bx' k = bx k ∧ find kn k = none
def keepX (base : Nat) (gv : List (Nat × Box)) : List (Nat × Box) → List (Nat × Box)
  | [] => []
  | (k, b) :: r => match Nat.blt k base, find gv k with | true, none => (k, b) :: keepX base gv r | _, _ => keepX base gv r
def appL : List (Nat × Box) → List (Nat × Box) → List (Nat × Box)
  | [], l => l
  | p :: r, l => p :: appL r l
theorem find_keepX (base : Nat) (gv : List (Nat × Box)) : ∀ (l : List (Nat × Box)) (k : Nat) (b : Box), find (keepX base gv l) k = some b → k < base ∧ find gv k = none ∧ find l k = some b
  | [], k, b, h => by simp [keepX, find] at h
  | (j, c) :: r, k, b, h => by
    simp only [keepX] at h
    split at h
    · rename_i h1 h2
      rw [Nat.blt_eq] at h1
      simp only [find] at h ⊢
      cases hb : Nat.beq k j with
      | true =>
        rw [hb] at h
        rw [Nat.beq_eq] at hb
        subst hb
        exact ⟨h1, h2, h⟩
      | false =>
        rw [hb] at h
        exact find_keepX base gv r k b h
    · rename_i hne
      obtain ⟨h1, h2, h3⟩ := find_keepX base gv r k b h
      refine ⟨h1, h2, ?_⟩
      simp only [find]
      cases hb : Nat.beq k j with
      | true =>
        rw [Nat.beq_eq] at hb
        subst hb
        exact absurd h2 (hne (by rw [Nat.blt_eq]; exact h1))
      | false => exact h3
theorem find_appL (l : List (Nat × Box)) (k : Nat) : ∀ (r : List (Nat × Box)), find (appL r l) k = match find r k with | some b => some b | none => find l k
  | [] => rfl
  | (j, c) :: r => by
    simp only [appL, find]
    cases Nat.beq k j with
    | true => rfl
    | false => exact find_appL l k r
theorem shared_of {V : Ans} {base cb g : Nat} {l : List D} {gv : List (Nat × Box)} {Q : D → List (Nat × Box) → Prop} {s : DS} {K : D → List (Nat × Box) → Prop} (hc : SCall V cb g l gv Q) (hb : base ≤ cb)
    (hgv : leB s.bx gv) (hK : ∀ r kn, Q r kn → K r (appL kn (keepX cb gv s.bx))) : sharedX V base s g l K := by
  refine ⟨fun bx hbx => ?_⟩
  obtain ⟨post, h1, h2, h3⟩ := hc bx fun k b h => hbx k b (leB_find hgv k b h)
  refine ⟨post, h1, h2, fun r bx' hp => ?_⟩
  obtain ⟨kn, h4, h5, h6⟩ := h3 r bx' hp
  refine ⟨_, fun k b h => ?_, fun k hk hn => ?_, hK r kn h4⟩
  · rw [find_appL] at h
    split at h
    · rename_i b' hb'
      simp only [Option.some.injEq] at h
      subst h
      exact h5 k _ hb'
    · obtain ⟨h7, h8, h9⟩ := find_keepX _ _ _ _ _ h
      rw [(h6 k h7 h8).1]
      exact hbx k b h9
  · have hg : find gv k = none := by
      cases hf : find gv k with
      | none => rfl
      | some b => have := leB_find hgv k b hf; rw [hn] at this; simp at this
    obtain ⟨h7, h8⟩ := h6 k (by omega) hg
    refine ⟨h7, ?_⟩
    rw [find_appL, h8]
    cases hf : find (keepX cb gv s.bx) k with
    | none => rfl
    | some b => have := (find_keepX _ _ _ _ _ hf).2.2; rw [hn] at this; simp at this
theorem shared_of0 {V : Ans} {base cb g : Nat} {l : List D} {gv : List (Nat × Box)} {Q : D → Prop} {s : DS} {K : D → List (Nat × Box) → Prop} (hc : SCall V cb g l gv fun r _ => Q r) (hb : base ≤ cb)
    (hgv : leB s.bx gv) (hK : ∀ r, Q r → K r (keepX cb gv s.bx)) : sharedX V base s g l K := by
  refine ⟨fun bx hbx => ?_⟩
  obtain ⟨post, h1, h2, h3⟩ := hc bx fun k b h => hbx k b (leB_find hgv k b h)
  refine ⟨post, h1, h2, fun r bx' hp => ?_⟩
  obtain ⟨kn, h4, h5, h6⟩ := h3 r bx' hp
  refine ⟨_, fun k b h => ?_, fun k hk hn => ?_, hK r h4⟩
  · obtain ⟨h7, h8, h9⟩ := find_keepX _ _ _ _ _ h
    rw [(h6 k h7 h8).1]
    exact hbx k b h9
  · have hg : find gv k = none := by
      cases hf : find gv k with
      | none => rfl
      | some b => have := leB_find hgv k b hf; rw [hn] at this; simp at this
    refine ⟨(h6 k (by omega) hg).1, ?_⟩
    cases hf : find (keepX cb gv s.bx) k with
    | none => rfl
    | some b => have := (find_keepX _ _ _ _ _ hf).2.2; rw [hn] at this; simp at this
theorem SCall.of {P : Program} {G : World → Prop} (hGG : Grows G) (hm : P.follows .mixedOrders = true) {sh : List Nat} {f : Nat} {fn : Go.Func} {af : Func} (he : Enters P f) (hf : P.funcs[f]? = some fn) (hT : funcT P sh fn = some af.erase) {base : Nat} {args : List D} {gv : List (Nat × Box)} {Q : D → List (Nat × Box) → Prop}
    (hn : args.length = af.params ∧ af.params ≤ af.ntmps) (h : ∀ O : Ops, O = Ops.std → ∀ V : Ans, V = PR P G → wpS O V base af args gv Q) : SCall (PR P G) base f args gv Q := by
  intro bx hbx
  have ha := wpS_sound (base := base) hn h bx hbx
  refine ⟨_, PRS_of hGG hm he hf hT ha, ?_, fun r bx' hp => hp⟩
  obtain ⟨e, s', hw⟩ := W_some ha.2
  cases e with
  | normal => obtain ⟨ds, _, hp⟩ := hw; exact ⟨_, _, hp⟩
  | ret => obtain ⟨ds, _, hp⟩ := hw; exact ⟨_, _, hp⟩
  | exit i => exact hw.elim
end Go.Proofs.AM
namespace Go.Proofs.AM
open Go Go.RowKit Go.ChangeShapes Go.WideShapes Go.ChangeAt
inductive Lf where
  | bool
  | int (k : IntKind)
  | str
  | sl (sz bytes : Nat) (ag : Bool) (ls : List Lf)
def lfFs (P : Program) (f : TypeId → Option (List Lf)) : List Field → Nat → Option (List Lf)
  | [], _ => some []
  | fd :: r, off => if fd.offset = off then (f fd.type).bind fun ls => if ls.length = P.cellsOf fd.type then (lfFs P f r (off + ls.length)).map fun l => ls ++ l else none else none
def lfT (P : Program) : Nat → TypeId → Option (List Lf)
  | 0, _ => none
  | n + 1, t =>
    match P.underlying t with
    | some .bool => some [.bool]
    | some (.int k) => some [.int k]
    | some .string => some [.str]
    | some (.slice e) => (aggT P e).bind fun g => (lfT P n e).bind fun ls => if 0 < ls.length ∧ ls.length = P.cellsOf e ∧ (g = false → ls.length = 1) then some [.sl ls.length (P.bytesOf e) g ls] else none
    | some (.struct fs) => (lfFs P (lfT P n) fs.toList 0).bind fun ls => if ls.length = P.cellsOf t then some ls else none
    | some (.array k e) => (lfT P n e).bind fun ls => if ls.length = P.cellsOf e ∧ P.cellsOf t = k * ls.length then some (List.replicate k ls).flatten else none
    | _ => none
mutual
def FitL : Lf → D → Prop
  | .bool, d => ∃ b, d = .bool b
  | .int k, d => ∃ n, d = .int k n ∧ (Lit.int k n).wf = true
  | .str, d => ∃ s : Str, d = mkS s ∧ s.length ≤ reachBytes
  | .sl sz bytes ag ls, d => ∃ xs : List D, d = .sl sz false xs ∧ xs.length * bytes ≤ reachBytes ∧ ∀ x ∈ xs, ∃ cs, mkD ag cs = some x ∧ FitLs ls cs
def FitLs : List Lf → List D → Prop
  | [], ds => ds = []
  | l :: r, ds => ∃ d r', ds = d :: r' ∧ FitL l d ∧ FitLs r r'
end
theorem FitLs.append : ∀ {l m : List Lf} {a b : List D}, FitLs l a → FitLs m b → FitLs (l ++ m) (a ++ b)
  | [], m, a, b, h, k => by simp only [FitLs] at h; subst h; simpa using k
  | x :: l, m, a, b, h, k => by
    simp only [FitLs] at h
    obtain ⟨d, r, rfl, h1, h2⟩ := h
    simp only [List.cons_append, FitLs]
    exact ⟨d, _, rfl, h1, h2.append k⟩
theorem FitLs.length : ∀ {l : List Lf} {a : List D}, FitLs l a → a.length = l.length
  | [], a, h => by simp only [FitLs] at h; subst h; rfl
  | x :: l, a, h => by
    simp only [FitLs] at h
    obtain ⟨d, r, rfl, h1, h2⟩ := h
    simp [h2.length]
section
variable {H : Type} {enc : TypeId × Value → H} {P : Program} {w : World}
def allCx (w : World) : Cx := ⟨w, fun _ => True, bx0, noLoc⟩
def Told (w : World) (ls : List Lf) (cs : List Value) : Prop :=
  ∃ ds, FitLs ls ds ∧ RVs (allCx w) ds cs ∧ ∀ u ∈ cs, u.oneCell' = true
theorem Told.append {l m : List Lf} {a b : List Value} (h : Told w l a) (k : Told w m b) : Told w (l ++ m) (a ++ b) := by
  obtain ⟨d1, h1, h2, h3⟩ := h
  obtain ⟨d2, k1, k2, k3⟩ := k
  refine ⟨d1 ++ d2, h1.append k1, h2.append k2, fun u hu => ?_⟩
  rcases List.mem_append.1 hu with hu | hu
  · exact h3 u hu
  · exact k3 u hu
theorem take_split {α : Type} (cs : List α) (o a b : Nat) : (cs.drop o).take (a + b) = (cs.drop o).take a ++ (cs.drop (o + a)).take b := by
  rw [List.take_add, List.drop_drop]
theorem cells?_get {base : Nat} {a : Addr} {n : Nat} {l : List Value} (h : w.cells? base a n = some l) : l.length = n ∧ ∀ j, j < n → w.cell? (a.add j) = l[j]? := by
  unfold World.cells? at h
  split at h
  · exact ⟨by simpa using mapM_some_length h, fun i hi => mapM_some_get h i i (by simp [hi])⟩
  · simp at h
theorem weights_mem_all {e : TypeId} {k : Nat} : ∀ {l : List (DataW H)} {x : DataW H}, x ∈ l → k ∈ x.weights P e → k ∈ DataW.weightsAll P e l
  | [], _, hx, _ => by simp at hx
  | y :: r, x, hx, hk => by
    simp only [DataW.weightsAll, List.mem_append]
    rcases List.mem_cons.1 hx with rfl | hx
    · exact .inl hk
    · exact .inr (weights_mem_all hx hk)
theorem mkD_of {ag : Bool} {ls : List Lf} {ds : List D} (h : FitLs ls ds) (h1 : ag = false → ls.length = 1) : ∃ x, mkD ag ds = some x := by
  cases ag with
  | true => exact ⟨_, rfl⟩
  | false =>
    have := h.length
    rw [h1 rfl] at this
    match ds, this with
    | [d], _ => exact ⟨d, rfl⟩
theorem lf_told : ∀ (n : Nat) (t : TypeId) (ls : List Lf), lfT P n t = some ls → ∀ (fuel : Nat) (cs : List Value) (d : DataW H) (ps : List MemPlace),
    DataW.trod enc P w 0 (fun _ => true) true fuel t cs = some (d, ps) → (∀ m ∈ d.weights P t, m ≤ reachBytes) → Told w ls cs
  | 0, _, _, h, _, _, _, _, _, _ => by simp [lfT] at h
  | n + 1, t, ls, h, fuel, cs, d, ps, ht, hw => by
    have ih := lf_told n
    unfold lfT at h
    split at h
    · rename_i hu
      simp only [Option.some.injEq] at h
      subst h
      obtain ⟨b, rfl, _⟩ := DataW.trod_bool hu ht
      exact ⟨[.bool b], by simp [FitLs, FitL], by simp [RVs, RV], by simp [Value.oneCell']⟩
    · rename_i k hu
      simp only [Option.some.injEq] at h
      subst h
      obtain ⟨m, rfl, _, hwf⟩ := DataW.trod_int hu ht
      exact ⟨[.int k m], by simp [FitLs, FitL, hwf], by simp [RVs, RV], by simp [Value.oneCell']⟩
    · rename_i hu
      simp only [Option.some.injEq] at h
      subst h
      obtain ⟨s, rfl, hx, hs⟩ := DataW.trod_string hu ht
      simp only [Prod.mk.injEq] at hx
      obtain ⟨rfl, rfl⟩ := hx
      refine ⟨[.str s], ?_, by simp [RVs, RV], by simp [Value.oneCell']⟩
      simp only [FitLs, FitL]
      exact ⟨_, [], rfl, ⟨s.data.toList, rfl, hw _ (by simp [DataW.weights])⟩, rfl⟩
    · rename_i e hu
      simp only [Option.bind_eq_some_iff] at h
      obtain ⟨g, hg, le, hle, h⟩ := h
      split at h
      · rename_i hc
        obtain ⟨h0, hsz, hag⟩ := hc
        simp only [Option.some.injEq] at h
        subst h
        rcases DataW.trod_slice hu ht with ⟨rfl, _⟩ | ⟨a, len, cap, elems, rest, m, _, rfl, hx, _, hlc, _, hlen, hel, _, _⟩
        · refine ⟨[.sl le.length false []], ?_, ?_, by simp [Value.oneCell']⟩
          · simp only [FitLs, FitL]
            exact ⟨_, [], rfl, ⟨[], rfl, by simp, by simp⟩, rfl⟩
          · simp only [RVs, RV, RSl]
            exact ⟨_, [], rfl, ⟨none, 0, rfl, by simp, by simp, by simp, trivial⟩, rfl⟩
        · simp only [Prod.mk.injEq] at hx
          obtain ⟨rfl, rfl⟩ := hx
          have helem : ∀ i, i < len → ∃ ccs, w.cells? 0 (a.add (i * P.cellsOf e)) (P.cellsOf e) = some ccs ∧ Told w le ccs := by
            intro i hi
            have h1 := hel i hi
            rw [List.getElem?_eq_getElem (by omega)] at h1
            simp only [Option.bind_eq_some_iff] at h1
            obtain ⟨ccs, h2, h3⟩ := h1
            refine ⟨ccs, h2, ih e le hle m ccs _ _ h3 fun k hk => hw k ?_⟩
            simp only [DataW.weights, hu]
            refine List.mem_cons_of_mem _ (List.mem_append_left _ ?_)
            exact weights_mem_all (List.mem_map.2 ⟨elems[i], List.getElem_mem _, rfl⟩) hk
          have hxs : ∀ k, k ≤ len → ∃ xs : List D, xs.length = len - k ∧ RSl (allCx w) le.length (some a) k xs ∧ ∀ x ∈ xs, ∃ cs, mkD g cs = some x ∧ FitLs le cs := by
            intro k hk
            induction hj : len - k generalizing k with
            | zero => exact ⟨[], rfl, by simp [RSl], by simp⟩
            | succ j ihj =>
              obtain ⟨xs, e1, e2, e3⟩ := ihj (k + 1) (by omega) (by omega)
              obtain ⟨ccs, c1, ds, f1, f2, f3⟩ := helem k (by omega)
              obtain ⟨c2, c3⟩ := cells?_get c1
              obtain ⟨x, hx⟩ := mkD_of f1 hag
              obtain ⟨hv, hag2⟩ := mk_val f2 f3 hx
              refine ⟨x :: xs, by simp [e1], ?_, fun y hy => ?_⟩
              · simp only [RSl]
                have hcc : (if g then Value.agg ccs.toArray else ccs.headD .nilIface).cells.toList = ccs := by
                  cases g with
                  | true => simp [Value.cells]
                  | false =>
                    have h1 := hag2 rfl
                    have h2 : (ccs.headD .nilIface).oneCell' = true := f3 _ (by rw [h1]; simp)
                    simp only [Bool.false_eq_true, if_false]
                    rw [cells_one h2]
                    exact h1.symm
                have hcs : (if g then Value.agg ccs.toArray else ccs.headD .nilIface).cells.size = le.length := by
                  rw [← Array.length_toList, hcc, c2, hsz]
                refine ⟨⟨a, _, rfl, trivial, ?_, hv, hcs, by rw [hcc]; exact f3, fun j hj => ?_⟩, e2⟩
                · have := c3 0 (by omega)
                  rw [List.getElem?_eq_getElem (by omega)] at this
                  have := World.block_lt_of_cell? _ _ this
                  show a.block < w.heap.size
                  simpa [add_block] using this
                · have := c3 j (by omega)
                  rw [add_add, ← hsz] at this
                  rw [show (allCx w).w = w from rfl, this, ← Array.getElem?_toList, hcc]
              · rcases List.mem_cons.1 hy with rfl | hy
                · exact ⟨ds, hx, f1⟩
                · exact e3 y hy
          obtain ⟨xs, e1, e2, e3⟩ := hxs 0 (Nat.zero_le _)
          refine ⟨[.sl le.length false xs], ?_, ?_, by simp [Value.oneCell']⟩
          · simp only [FitLs, FitL]
            refine ⟨_, [], rfl, ⟨xs, rfl, ?_, e3⟩, rfl⟩
            have := hw ((elems.map (·.1)).length + (rest.map (·.1)).length |> (· * P.bytesOf e)) (by simp only [DataW.weights, hu]; exact List.mem_cons_self ..)
            simp only [List.length_map] at this
            have h2 : xs.length * P.bytesOf e ≤ (elems.length + rest.length) * P.bytesOf e := Nat.mul_le_mul_right _ (by omega)
            omega
          · simp only [RVs, RV]
            refine ⟨_, [], rfl, ⟨some a, cap, by rw [e1, Nat.sub_zero], by omega, by simp, by simp, e2⟩, rfl⟩
      · simp at h
    · rename_i fs hu
      simp only [Option.bind_eq_some_iff] at h
      obtain ⟨l, hl, h⟩ := h
      split at h
      · rename_i hlen
        simp only [Option.some.injEq] at h
        subst h
        obtain ⟨xs, m, _, hx, hcl, hxl, hf⟩ := DataW.trod_struct hu ht
        simp only [Prod.mk.injEq] at hx
        obtain ⟨rfl, rfl⟩ := hx
        have key : ∀ (fl : List Field) (i0 off : Nat) (l : List Lf), (∀ j f, fl[j]? = some f → fs[i0 + j]? = some f) → lfFs P (lfT P n) fl off = some l → Told w l ((cs.drop off).take l.length) := by
          intro fl
          induction fl with
          | nil =>
            intro i0 off l _ hl
            simp only [lfFs, Option.some.injEq] at hl
            subst hl
            exact ⟨[], by simp [FitLs], by simp [RVs], by simp⟩
          | cons fd r ihr =>
            intro i0 off l hfl hl
            simp only [lfFs] at hl
            split at hl
            · rename_i hoff
              simp only [Option.bind_eq_some_iff] at hl
              obtain ⟨l1, hl1, hl⟩ := hl
              split at hl
              · rename_i hsz
                simp only [Option.map_eq_some_iff] at hl
                obtain ⟨l2, hl2, rfl⟩ := hl
                have h0 : fs[i0]? = some fd := by simpa using hfl 0 fd rfl
                have h1 := hf i0 fd h0
                have hi0 : i0 < xs.length := by rw [hxl]; exact (Array.getElem?_eq_some_iff.1 h0).1
                rw [List.getElem?_eq_getElem hi0] at h1
                rw [List.length_append, take_split]
                refine Told.append ?_ (ihr (i0 + 1) (off + l1.length) l2 (fun j f hj => by have := hfl (j + 1) f hj; rw [← this]; congr 1; omega) hl2)
                rw [hoff, ← hsz] at h1
                refine ih fd.type l1 hl1 m _ _ _ h1 fun k hk => hw k ?_
                simp only [DataW.weights, hu]
                exact DataW.weights_mem_each (j := i0) (t := fd.type) (d := xs[i0].1) (by simp [h0]) (by simp [List.getElem?_map, List.getElem?_eq_getElem hi0]) k hk
              · simp at hl
            · simp at hl
        have := key fs.toList 0 0 l (fun j f hj => by simpa using hj) hl
        rwa [List.drop_zero, List.take_of_length_le (by omega)] at this
      · simp at h
    · rename_i k e hu
      simp only [Option.bind_eq_some_iff] at h
      obtain ⟨le, hle, h⟩ := h
      split at h
      · rename_i hc
        obtain ⟨hsz, hct⟩ := hc
        simp only [Option.some.injEq] at h
        subst h
        obtain ⟨xs, m, _, hx, hcl, hxl, hf⟩ := DataW.trod_array hu ht
        simp only [Prod.mk.injEq] at hx
        obtain ⟨rfl, rfl⟩ := hx
        have key : ∀ j, j ≤ k → Told w (List.replicate j le).flatten (cs.take (j * le.length)) := by
          intro j
          induction j with
          | zero => intro _; exact ⟨[], by simp [FitLs], by simp [RVs], by simp⟩
          | succ j ihj =>
            intro hj
            have h1 := hf j (by omega)
            rw [List.getElem?_eq_getElem (by omega)] at h1
            rw [List.replicate_succ', List.flatten_append, Nat.add_mul, Nat.one_mul]
            have := take_split cs 0 (j * le.length) le.length
            simp only [List.drop_zero, Nat.zero_add] at this
            rw [this]
            refine Told.append (ihj (by omega)) ?_
            rw [← hsz] at h1
            simp only [List.flatten_cons, List.flatten_nil, List.append_nil]
            refine ih e le hle m _ _ _ h1 fun q hq => hw q ?_
            simp only [DataW.weights, hu]
            exact weights_mem_all (List.mem_map.2 ⟨xs[j], List.getElem_mem _, rfl⟩) hq
        have := key k (Nat.le_refl _)
        rwa [List.take_of_length_le (by omega)] at this
      · simp at h
    · simp at h
def ArgsFit (P : Program) : List TypeId → List D → Prop
  | [], xs => xs = []
  | t :: ts, xs => ∃ x r, xs = x :: r ∧ (∃ ls g cs, lfT P 20 t = some ls ∧ aggT P t = some g ∧ mkD g cs = some x ∧ FitLs ls cs) ∧ ArgsFit P ts r
def argsKnown (P : Program) (ts : List TypeId) : Bool := ts.all fun t =>
  match lfT P 20 t, aggT P t with
  | some ls, some g => g || ls.length == 1
  | _, _ => false
theorem okWide_agg {W : World} {base : Nat} {t : TypeId} {v : Value} {g : Bool} (hg : aggT P t = some g) (h : Value.okWide P W .any base t v) (hl : ∃ n ls, lfT P n t = some ls) : if g then ∃ cs, v = .agg cs else v.oneCell' = true := by
  unfold Value.okWide at h
  unfold aggT at hg
  split at hg
  · rename_i hu
    simp only [Option.some.injEq] at hg
    subst hg
    rw [hu] at h
    simp only at h
    obtain ⟨cs, h, _⟩ := h
    simpa using ⟨cs, h⟩
  · rename_i hu
    simp only [Option.some.injEq] at hg
    subst hg
    rw [hu] at h
    simp only at h
    obtain ⟨cs, h, _⟩ := h
    simpa using ⟨cs, h⟩
  · rename_i dd hns hna hu
    simp only [Option.some.injEq] at hg
    subst hg
    obtain ⟨n, ls, hl⟩ := hl
    cases n with
    | zero => simp [lfT] at hl
    | succ n =>
      unfold lfT at hl
      simp only [Bool.false_eq_true, if_false]
      have fin : ∀ {dsc : TypeDesc}, P.underlying t = some dsc → dsc = .bool ∨ (∃ k, dsc = .int k) ∨ dsc = .string ∨ (∃ e, dsc = .slice e) → v.oneCell' = true := by
        intro dsc hu hd
        rw [hu] at h
        rcases hd with rfl | ⟨k, rfl⟩ | rfl | ⟨e, rfl⟩ <;> simp only [Cell.okWide, Cell.ok, hu] at h <;> cases v <;> first | rfl | (simp at h; done)
      split at hl
      · rename_i hu2; exact fin hu2 (.inl rfl)
      · rename_i k hu2; exact fin hu2 (.inr (.inl ⟨k, rfl⟩))
      · rename_i hu2; exact fin hu2 (.inr (.inr (.inl rfl)))
      · rename_i e hu2; exact fin hu2 (.inr (.inr (.inr ⟨e, rfl⟩)))
      · rename_i fs hu2; exact (hns fs (by have := hu.symm.trans hu2; simpa using this)).elim
      · rename_i k e hu2; exact (hna k e (by have := hu.symm.trans hu2; simpa using this)).elim
      · simp at hl
  · simp at hg
theorem args_told {W : World} {base : Nat} : ∀ {ts : List TypeId} {vs : List Value} {ds : List (DataW H)} {ps : List MemPlace}, argsKnown P ts = true → DataW.TrodAll enc P W 0 (fun _ => true) true ts vs ds ps →
    (∀ (j : Nat) t v, ts[j]? = some t → vs[j]? = some v → Value.okWide P W .any base t v) → (∀ m ∈ DataW.weightsEach P ts ds, m ≤ reachBytes) → ∃ xs, ArgsFit P ts xs ∧ RVs (allCx W) xs vs
  | [], [], [], ps, _, _, _, _ => ⟨[], rfl, rfl⟩
  | [], _ :: _, _, _, _, h, _, _ => by simp [DataW.TrodAll] at h
  | [], [], _ :: _, _, _, h, _, _ => by simp [DataW.TrodAll] at h
  | _ :: _, [], _, _, _, h, _, _ => by simp [DataW.TrodAll] at h
  | _ :: _, _ :: _, [], _, _, h, _, _ => by simp [DataW.TrodAll] at h
  | t :: ts, v :: vs, d :: ds, ps, hk, h, hok, hw => by
    simp only [DataW.TrodAll] at h
    obtain ⟨p, q, ⟨fuel, h1⟩, h2, rfl⟩ := h
    simp only [argsKnown, List.all_cons, Bool.and_eq_true] at hk
    obtain ⟨hk1, hk2⟩ := hk
    obtain ⟨xs, h3, h4⟩ := args_told (ts := ts) hk2 h2 (fun j t v hj hv => hok (j + 1) t v hj hv) (fun m hm => hw m (by simp [DataW.weightsEach, hm]))
    split at hk1
    · rename_i ls g hls hg
      obtain ⟨cs, f1, f2, f3⟩ := lf_told 20 t ls hls fuel _ d p h1 fun m hm => hw m (by simp [DataW.weightsEach, hm])
      have hform := okWide_agg hg (hok 0 t v rfl rfl) ⟨20, ls, hls⟩
      have hag : g = false → ls.length = 1 := by
        intro e; subst e; simpa using hk1
      obtain ⟨x, hx⟩ := mkD_of f1 hag
      obtain ⟨hv, _⟩ := mk_val f2 f3 hx
      refine ⟨x :: xs, ⟨x, xs, rfl, ⟨ls, g, cs, hls, hg, hx, f1⟩, h3⟩, ?_⟩
      simp only [RVs]
      refine ⟨v, vs, rfl, ?_, h4⟩
      cases g with
      | true =>
        simp only [if_true] at hform hv
        obtain ⟨ws, rfl⟩ := hform
        simpa [Value.cells] using hv
      | false =>
        simp only [Bool.false_eq_true, if_false] at hform hv
        rw [cells_one hform] at hv
        simpa using hv
    · simp at hk1
theorem below_trodAll (hl : laidOutB P = true) {W W' : World} (hb : Below W.heap.size W W') : ∀ {ts : List TypeId} {vs : List Value} {ds : List (DataW H)} {ps : List MemPlace}, (ts.all fun t => P.readableRec t && decide (t < P.types.size)) = true →
    DataW.TrodAll enc P W 0 (fun _ => true) true ts vs ds ps → (∀ x ∈ ps, x.block < W.heap.size) → DataW.TrodAll enc P W' 0 (fun b => decide (b < W.heap.size)) true ts vs ds ps
  | [], [], [], ps, _, h, _ => h
  | [], _ :: _, _, _, _, h, _ => by simp [DataW.TrodAll] at h
  | [], [], _ :: _, _, _, h, _ => by simp [DataW.TrodAll] at h
  | _ :: _, [], _, _, _, h, _ => by simp [DataW.TrodAll] at h
  | _ :: _, _ :: _, [], _, _, h, _ => by simp [DataW.TrodAll] at h
  | t :: ts, v :: vs, d :: ds, ps, hk, h, hlt => by
    simp only [DataW.TrodAll] at h ⊢
    obtain ⟨p, q, h1, h2, rfl⟩ := h
    simp only [List.all_cons, Bool.and_eq_true, decide_eq_true_eq] at hk
    exact ⟨p, q, Below.trod hl hk.1.1 hk.1.2 h1 hb (fun x hx => hlt x (by simp [hx])), below_trodAll hl hb (by simpa using hk.2) h2 (fun x hx => hlt x (by simp [hx])), rfl⟩
theorem law_contract {G : World → Prop} {f : FuncId} {fn : Go.Func} {s : ChangeSpec} {conds : List PathCond} {X : World → Array Value → Prop} {bt : TypeId}
    (hl : laidOutB P = true) (hk : argsKnown P fn.params.toList = true) (hr : (fn.params.toList.all fun t => P.readableRec t && decide (t < P.types.size)) = true)
    (hres : fn.resultTypes = #[bt]) (hbt : P.underlying bt = some .bool) (hvars : s.vars = [])
    (hs : ∀ ds : List (DataW H), ds.length = fn.params.size → (s.fn H ds).results = [.lit (.bool true)] ∧ (s.fn H ds).args = ds ∧ (s.fn H ds).vars = [])
    (hX : ∀ W args, X W args → G W)
    (hcall : ∀ xs, ArgsFit P fn.params.toList xs → (PR P G).v f xs (.bool true)) :
    ∀ (W : World) (base : Nat) (args : Array Value) (ds gs : List (DataW H)) (before : List MemPlace),
      (∀ (j : Nat) t v, fn.params[j]? = some t → args[j]? = some v → Value.okWide P W .any base t v) →
      DataW.Whole enc P fn.params.toList s.vars false W args.toList ds gs before →
      conds.all (PathCond.test P ⟨fn.params.toList, ds, s.plain.varTypes P, gs⟩) = true →
      (DataW.weightsEach P (fn.params.toList ++ s.plain.varTypes P) (ds ++ gs)).all (· ≤ reachBytes) = true → X W args →
      Calls P f args W fun e W' => ∃ v, e = .returned v ∧ s.post enc P fn false true false false W args v W' := by
  intro W base args ds gs before hok hW _ hsz hXW
  have hW' := hW
  obtain ⟨p, q, hA, hV, rfl, hfz, hnd⟩ := hW
  rw [hvars] at hV
  obtain ⟨rfl, rfl⟩ := trodVars_none hV
  simp only [List.append_nil] at hsz hW' ⊢
  have hlen : ds.length = fn.params.size := by
    have : ∀ {ts : List TypeId} {vs : List Value} {ds : List (DataW H)} {ps : List MemPlace}, DataW.TrodAll enc P W 0 (fun _ => true) true ts vs ds ps → ds.length = ts.length := by
      intro ts
      induction ts with
      | nil => intro vs ds ps h; cases vs <;> cases ds <;> simp [DataW.TrodAll] at h ⊢
      | cons t ts ih =>
        intro vs ds ps h
        cases vs <;> cases ds <;> simp only [DataW.TrodAll] at h
        obtain ⟨_, _, _, h, _⟩ := h
        simp [ih h]
    have := this hA
    simpa using this
  obtain ⟨r1, r2, r3⟩ := hs ds hlen
  have hvt : s.plain.varTypes P = [] := by simp [DataSpec.varTypes, ChangeSpec.plain, hvars]
  rw [hvt, List.append_nil] at hsz
  obtain ⟨xs, h1, h2⟩ := args_told (base := base) hk hA (fun j t v hj hv => hok j t v (by simpa using hj) (by simpa using hv)) (by simpa using hsz)
  obtain ⟨_, _, hspec⟩ := hcall xs h1
  refine (hspec W (fun _ => True) args (hX _ _ hXW) h2).mono fun e W' hpost => ?_
  obtain ⟨v, rfl, hb, hv⟩ := hpost
  simp only [RV] at hv
  subst hv
  have hlt : ∀ x ∈ p, x.block < W.heap.size := fun x hx => hW'.lt x hx
  refine ⟨_, rfl, ds, [], p, [], p, [], hW', ?_, ?_, ?_, hb.frame _, fun h => by cases h⟩
  · rw [List.append_nil, r1, hres]
    exact trodAll_mk1 (shut_bool hbt _)
  · rw [List.append_nil, r2]
    exact below_trodAll hl hb hr hA hlt
  · rw [List.append_nil, r3, hvars]
    rfl
end
end Go.Proofs.AM
namespace Go.Proofs.AM
open Go Go.Lib
def least : Int := -2147483648
def most : Int := 2147483648
def digv (a : Nat) (c : UInt8) : Nat := if 48 ≤ c.toNat ∧ c.toNat ≤ 57 then a * 10 + (c.toNat - 48) else a
def dig (s : Str) : Nat := s.foldl digv 0
def valS (s : Str) : Int := if s[0]? = some 45 then -(dig s : Int) else dig s
theorem dg_byte {d : Nat} (h : d < 10) : (UInt8.ofNat (48 + d)).toNat = 48 + d := by
  rw [UInt8.toNat_ofNat']
  omega
theorem decDigits_small {u : Nat} (h : u < 10) : decDigits u = [UInt8.ofNat (48 + u)] := by rw [decDigits, dif_pos h]
theorem decDigits_big {u : Nat} (h : ¬ u < 10) : decDigits u = decDigits (u / 10) ++ [UInt8.ofNat (48 + u % 10)] := by rw [decDigits, dif_neg h]
theorem foldl_dec (u : Nat) : (decDigits u).foldl digv 0 = u := by
  induction u using Nat.strongRecOn with
  | _ u ih =>
    by_cases h : u < 10
    · rw [decDigits_small h]
      simp only [List.foldl_cons, List.foldl_nil, digv, dg_byte h]
      rw [if_pos (by omega)]
      omega
    · rw [decDigits_big h, List.foldl_append, ih (u / 10) (by omega)]
      simp only [List.foldl_cons, List.foldl_nil, digv, dg_byte (show u % 10 < 10 by omega)]
      rw [if_pos (by omega)]
      omega
theorem decDigits_mem (u : Nat) : ∀ c ∈ decDigits u, 48 ≤ c.toNat ∧ c.toNat ≤ 57 := by
  induction u using Nat.strongRecOn with
  | _ u ih =>
    intro c hc
    by_cases h : u < 10
    · rw [decDigits_small h] at hc
      simp only [List.mem_singleton] at hc
      subst hc
      rw [dg_byte h]; omega
    · rw [decDigits_big h] at hc
      rcases List.mem_append.1 hc with hc | hc
      · exact ih (u / 10) (by omega) c hc
      · simp only [List.mem_singleton] at hc
        subst hc
        rw [dg_byte (show u % 10 < 10 by omega)]; omega
theorem decDigits_ne (u : Nat) : decDigits u ≠ [] := by
  by_cases h : u < 10
  · rw [decDigits_small h]; simp
  · rw [decDigits_big h]; simp
theorem decDigits_le : ∀ (k u : Nat), u < 10 ^ (k + 1) → (decDigits u).length ≤ k + 1
  | 0, u, h => by rw [decDigits_small (by simpa using h)]; simp
  | k + 1, u, h => by
    by_cases h2 : u < 10
    · rw [decDigits_small h2]; simp
    · rw [decDigits_big h2]
      have := decDigits_le k (u / 10) (by rw [Nat.pow_succ] at h; omega)
      simp; omega
theorem decDigits_inj {a b : Nat} (h : decDigits a = decDigits b) : a = b := by rw [← foldl_dec a, ← foldl_dec b, h]
theorem itoa_neg' {n : Int} (h : n < 0) : itoa n = 45 :: decDigits n.natAbs := by unfold itoa; rw [if_pos h]
theorem itoa_pos' {n : Int} (h : 0 ≤ n) : itoa n = decDigits n.natAbs := by
  unfold itoa
  rw [if_neg (by omega), show n.toNat = n.natAbs by omega]
theorem itoa_le {n : Int} (h1 : least ≤ n) (h2 : n ≤ most) : (itoa n).length ≤ 11 := by
  unfold least at h1
  unfold most at h2
  have := decDigits_le 9 n.natAbs (by have : (10 : Nat) ^ 10 = 10000000000 := by decide
                                      omega)
  by_cases h : n < 0
  · rw [itoa_neg' h]; simp; omega
  · rw [itoa_pos' (by omega)]; omega
theorem head_dec (u : Nat) : (decDigits u)[0]? ≠ some 45 := by
  intro h
  have := decDigits_mem u 45 (List.mem_of_getElem? h)
  revert this
  decide
theorem valS_itoa (n : Int) : valS (itoa n) = n := by
  unfold valS
  by_cases h : n < 0
  · rw [itoa_neg' h]
    rw [if_pos (by simp)]
    have : dig (45 :: decDigits n.natAbs) = n.natAbs := by
      unfold dig
      rw [List.foldl_cons]
      have : digv 0 45 = 0 := by decide
      rw [this, foldl_dec]
    rw [this]
    omega
  · rw [itoa_pos' (by omega), if_neg (head_dec _)]
    unfold dig
    rw [foldl_dec]
    omega
theorem itoa_inj {a b : Int} (h : itoa a = itoa b) : a = b := by rw [← valS_itoa a, ← valS_itoa b, h]
def NumP (s : Str) (n : Int) : Prop := s = itoa n ∧ least ≤ n ∧ n ≤ most
def numS (s : Str) : Option Int := if itoa (valS s) = s ∧ least ≤ valS s ∧ valS s ≤ most then some (valS s) else none
theorem numS_iff {s : Str} {n : Int} : numS s = some n ↔ NumP s n := by
  unfold numS NumP
  constructor
  · intro h
    split at h
    · rename_i hc
      simp only [Option.some.injEq] at h
      subst h
      exact ⟨hc.1.symm, hc.2⟩
    · simp at h
  · rintro ⟨rfl, h1, h2⟩
    rw [valS_itoa, if_pos ⟨rfl, h1, h2⟩]
theorem numS_itoa {n : Int} (h1 : least ≤ n) (h2 : n ≤ most) : numS (itoa n) = some n := numS_iff.2 ⟨rfl, h1, h2⟩
theorem numS_len {s : Str} {n : Int} (h : numS s = some n) : s.length ≤ 11 := by
  obtain ⟨rfl, h1, h2⟩ := numS_iff.1 h
  exact itoa_le h1 h2
theorem parseUintM_digits : ∀ (l : List UInt8) (acc : Nat), (∀ c ∈ l, 48 ≤ c.toNat ∧ c.toNat ≤ 57) → (l.foldl digv acc < 1844674407370955162) → parseUintM 18446744073709551615 acc l = .ok (l.foldl digv acc)
  | [], acc, _, _ => rfl
  | c :: r, acc, hd, hlt => by
    have hc := hd c (by simp)
    have hmono : ∀ (l : List UInt8) (a : Nat), a ≤ l.foldl digv a := by
      intro l
      induction l with
      | nil => intro a; exact Nat.le_refl _
      | cons x r ih =>
        intro a
        rw [List.foldl_cons]
        refine Nat.le_trans ?_ (ih _)
        unfold digv
        split <;> omega
    rw [List.foldl_cons] at hlt ⊢
    have h1 : digv acc c = acc * 10 + (c.toNat - 48) := by unfold digv; rw [if_pos hc]
    have h2 := hmono r (digv acc c)
    rw [h1] at h2 hlt ⊢
    rw [parseUintM, if_pos hc, if_neg (by omega), if_neg (by omega)]
    rw [parseUintM_digits r _ (fun x hx => hd x (by simp [hx])) hlt]
theorem parse_itoa {n : Int} (h1 : least ≤ n) (h2 : n ≤ most) : parseIntB 64 (itoa n) = .ok n := by
  unfold least at h1
  unfold most at h2
  have hp : (2 : Nat) ^ 64 - 1 = 18446744073709551615 := by decide
  have hq : (2 : Nat) ^ (64 - 1) = 9223372036854775808 := by decide
  have hu : ∀ u : Nat, u < 1844674407370955162 → parseUintB 64 (decDigits u) = .ok u := by
    intro u hu
    unfold parseUintB
    rw [if_neg (decDigits_ne u), hp, parseUintM_digits _ _ (decDigits_mem u) (by rw [foldl_dec]; exact hu), foldl_dec]
  by_cases h : n < 0
  · rw [itoa_neg' h]
    unfold parseIntB
    simp only
    rw [if_pos (by decide), hu _ (by omega)]
    simp only
    rw [hq, if_neg (by simp), if_neg (by omega), if_pos (by decide)]
    congr 1
    omega
  · rw [itoa_pos' (by omega)]
    cases hd : decDigits n.natAbs with
    | nil => exact absurd hd (decDigits_ne _)
    | cons c r =>
      have hc := decDigits_mem n.natAbs c (by rw [hd]; simp)
      unfold parseIntB
      simp only
      rw [if_neg (by omega), ← hd, hu _ (by omega)]
      simp only
      rw [hq, if_neg (by omega), if_neg (by omega), if_neg (by omega)]
      congr 1
      omega
def small (c : UInt8) : Prop := 97 ≤ c.toNat ∧ c.toNat ≤ 122
def okc (c : UInt8) : Prop := small c ∨ (48 ≤ c.toNat ∧ c.toNat ≤ 57) ∨ c.toNat = 46 ∨ c.toNat = 45
instance (c : UInt8) : Decidable (small c) := by unfold small; exact inferInstance
instance (c : UInt8) : Decidable (okc c) := by unfold okc; exact inferInstance
def NameP (s : Str) : Prop := 1 ≤ s.length ∧ s.length ≤ 16 ∧ ∀ (i : Nat) (c : UInt8), s[i]? = some c → okc c ∧ (i = 0 → small c)
open Classical in
noncomputable def nameB (s : Str) : Bool := decide (NameP s)
open Classical in
noncomputable def valueB (s : Str) : Bool := decide (NameP s ∨ numS s ≠ none)
theorem valueB_or (s : Str) : valueB s = (nameB s || (numS s).isSome) := by
  unfold valueB nameB
  cases numS s <;> simp
theorem nameB_false {s : Str} {k : Nat} {c : UInt8} (hc : s[k]? = some c) (h : ¬ (okc c ∧ (k = 0 → small c))) : nameB s = false := by
  unfold nameB
  simp only [decide_eq_false_iff_not]
  exact fun hn => h (hn.2.2 k c hc)
theorem nameB_len {s : Str} (h : ¬ (1 ≤ s.length ∧ s.length ≤ 16)) : nameB s = false := by
  unfold nameB
  simp only [decide_eq_false_iff_not]
  exact fun hn => h ⟨hn.1, hn.2.1⟩
theorem nameB_true {s : Str} (h1 : 1 ≤ s.length) (h2 : s.length ≤ 16) (h : ∀ (i : Nat) (c : UInt8), s[i]? = some c → okc c ∧ (i = 0 → small c)) : nameB s = true := by
  unfold nameB
  simp only [decide_eq_true_eq]
  exact ⟨h1, h2, h⟩
theorem num_not_name {s : Str} {n : Int} (h : numS s = some n) : ¬ NameP s := by
  obtain ⟨rfl, _, _⟩ := numS_iff.1 h
  intro hn
  by_cases h0 : n < 0
  · rw [itoa_neg' h0] at hn
    have := (hn.2.2 0 45 (by simp)).2 rfl
    revert this
    decide
  · rw [itoa_pos' (by omega)] at hn
    cases hd : decDigits n.natAbs with
    | nil => exact absurd hd (decDigits_ne _)
    | cons c r =>
      have hc := decDigits_mem n.natAbs c (by rw [hd]; simp)
      have := (hn.2.2 0 c (by rw [hd]; simp)).2 rfl
      unfold small at this
      omega
theorem value_len {s : Str} (h : valueB s = true) : s.length ≤ 16 := by
  unfold valueB at h
  simp only [decide_eq_true_eq] at h
  rcases h with h | h
  · exact h.2.1
  · cases hn : numS s with
    | none => exact absurd hn h
    | some n => have := numS_len hn; omega
def SL (s : Str) : Prop := s.length ≤ 140737488355328
structure FL (l : List Str) : Prop where
  len : l.length ≤ 8796093022208
  all : ∀ s ∈ l, SL s
def FI (n : Int) : Prop := -9223372036854775808 ≤ n ∧ n ≤ 9223372036854775807
structure SetV where
  m : Bool
  n : Bool
  u : Bool
  l : List Str
  lo : Int
  hi : Int
  deriving DecidableEq
def setD (s : SetV) : D := .agg [.bool s.m, .bool s.n, .bool s.u, .sl 1 false (s.l.map mkS), .int .i64 s.lo, .int .i64 s.hi]
structure FS (s : SetV) : Prop where
  l : FL s.l
  lo : FI s.lo
  hi : FI s.hi
theorem SetV.eq_iff {a b : SetV} : a = b ↔ a.m = b.m ∧ a.n = b.n ∧ a.u = b.u ∧ a.lo = b.lo ∧ a.hi = b.hi ∧ a.l = b.l := by
  cases a; cases b; simp only [SetV.mk.injEq]; constructor <;> (rintro ⟨h1, h2, h3, h4, h5, h6⟩; exact ⟨h1, h2, h3, by assumption, by assumption, by assumption⟩)
end Go.Proofs.AM
namespace Go.Proofs.AM
open Go Go.Lib
def Rises (l : List Str) : Prop := l.Pairwise (· < ·)
def putS (x : Str) : List Str → List Str
  | [] => [x]
  | y :: r => if y < x then y :: putS x r else if y = x then y :: r else x :: y :: r
def risingS (l : List Str) : List Str := l.foldl (fun a x => putS x a) []
theorem putS_at (x : Str) : ∀ (l : List Str) (k : Nat), k ≤ l.length → (∀ j y, j < k → l[j]? = some y → y < x) → (∀ y, l[k]? = some y → ¬ y < x) →
    (l[k]? = some x → putS x l = l) ∧ (l[k]? ≠ some x → putS x l = l.take k ++ [x] ++ l.drop k)
  | [], k, hk, _, _ => by
    have : k = 0 := by simpa using hk
    subst this
    simp [putS]
  | y :: r, 0, _, _, h => by
    have hy := h y rfl
    simp only [putS, if_neg hy]
    constructor
    · intro e; simp at e; rw [if_pos e]
    · intro e; simp at e; rw [if_neg e]; simp
  | y :: r, k + 1, hk, hlt, h => by
    have hy := hlt 0 y (by omega) rfl
    obtain ⟨h1, h2⟩ := putS_at x r k (by simpa using hk) (fun j z hj hz => hlt (j + 1) z (by omega) (by simpa using hz)) (fun z hz => h z (by simpa using hz))
    simp only [putS, if_pos hy]
    constructor
    · intro e; rw [h1 (by simpa using e)]
    · intro e; rw [h2 (by simpa using e)]; simp
theorem putS_len (x : Str) : ∀ (l : List Str), (putS x l).length ≤ l.length + 1
  | [] => by simp [putS]
  | y :: r => by
    simp only [putS]
    split
    · have := putS_len x r; simp; omega
    · split <;> simp
theorem putS_mem {x z : Str} : ∀ {l : List Str}, z ∈ putS x l ↔ z = x ∨ z ∈ l
  | [] => by simp [putS]
  | y :: r => by
    simp only [putS]
    split
    · simp only [List.mem_cons, putS_mem (l := r)]
      constructor
      · rintro (h | h | h) <;> simp [h]
      · rintro (h | h | h) <;> simp [h]
    · split
      · rename_i e
        subst e
        simp only [List.mem_cons]
        constructor
        · intro h; exact .inr h
        · rintro (h | h)
          · exact .inl h
          · exact h
      · simp only [List.mem_cons]
theorem lt_irrefl (a : Str) : ¬ a < a := List.lt_irrefl a
theorem lt_trans' {a b c : Str} (h : a < b) (k : b < c) : a < c := List.lt_trans h k
theorem lt_total (a b : Str) : a < b ∨ a = b ∨ b < a := by
  rcases Classical.em (a < b) with h | h
  · exact .inl h
  · rcases Classical.em (b < a) with k | k
    · exact .inr (.inr k)
    · exact .inr (.inl (List.le_antisymm (List.not_lt.1 k) (List.not_lt.1 h)))
theorem putS_rises {x : Str} : ∀ {l : List Str}, Rises l → Rises (putS x l)
  | [], _ => by simp [putS, Rises]
  | y :: r, h => by
    unfold Rises at h ⊢
    rw [List.pairwise_cons] at h
    simp only [putS]
    split
    · rename_i hy
      rw [List.pairwise_cons]
      refine ⟨fun z hz => ?_, putS_rises h.2⟩
      rcases putS_mem.1 hz with rfl | hz
      · exact hy
      · exact h.1 z hz
    · rename_i hy
      split
      · rw [List.pairwise_cons]; exact h
      · rename_i hne
        have hxy : x < y := by
          rcases lt_total x y with k | k | k
          · exact k
          · exact absurd k.symm hne
          · exact absurd k hy
        rw [List.pairwise_cons, List.pairwise_cons]
        refine ⟨fun z hz => ?_, h⟩
        rcases List.mem_cons.1 hz with rfl | hz
        · exact hxy
        · exact lt_trans' hxy (h.1 z hz)
theorem rising_aux (l : List Str) : ∀ (a : List Str), Rises a → Rises (l.foldl (fun a x => putS x a) a) ∧ (∀ z, z ∈ l.foldl (fun a x => putS x a) a ↔ z ∈ l ∨ z ∈ a) ∧ (l.foldl (fun a x => putS x a) a).length ≤ l.length + a.length := by
  induction l with
  | nil => intro a h; simp [h]
  | cons x r ih =>
    intro a h
    obtain ⟨h1, h2, h3⟩ := ih (putS x a) (putS_rises h)
    refine ⟨h1, fun z => ?_, ?_⟩
    · rw [List.foldl_cons, h2 z, putS_mem, List.mem_cons]
      constructor
      · rintro (h | h | h) <;> simp [h]
      · rintro ((h | h) | h) <;> simp [h]
    · have := putS_len x a
      simp only [List.foldl_cons, List.length_cons]
      omega
theorem risingS_rises (l : List Str) : Rises (risingS l) := (rising_aux l [] (by simp [Rises])).1
theorem risingS_mem {l : List Str} {z : Str} : z ∈ risingS l ↔ z ∈ l := by
  have := (rising_aux l [] (by simp [Rises])).2.1 z
  unfold risingS
  simpa using this
theorem risingS_len (l : List Str) : (risingS l).length ≤ l.length := by
  have := (rising_aux l [] (by simp [Rises])).2.2
  unfold risingS
  simpa using this
theorem rises_ext : ∀ {a b : List Str}, Rises a → Rises b → (∀ z, z ∈ a ↔ z ∈ b) → a = b
  | [], [], _, _, _ => rfl
  | [], y :: b, _, _, h => by have := (h y).2 (by simp); simp at this
  | x :: a, [], _, _, h => by have := (h x).1 (by simp); simp at this
  | x :: a, y :: b, ha, hb, h => by
    unfold Rises at ha hb
    rw [List.pairwise_cons] at ha hb
    have hxy : x = y := by
      have h1 := (h x).1 (by simp)
      have h2 := (h y).2 (by simp)
      rcases List.mem_cons.1 h1 with e | h1
      · exact e
      · rcases List.mem_cons.1 h2 with e | h2
        · exact e.symm
        · exact absurd (lt_trans' (hb.1 x h1) (ha.1 y h2)) (lt_irrefl y)
    subst hxy
    congr 1
    refine rises_ext ha.2 hb.2 fun z => ?_
    constructor
    · intro hz
      rcases List.mem_cons.1 ((h z).1 (by simp [hz])) with e | hz'
      · subst e; exact absurd (ha.1 z hz) (lt_irrefl z)
      · exact hz'
    · intro hz
      rcases List.mem_cons.1 ((h z).2 (by simp [hz])) with e | hz'
      · subst e; exact absurd (hb.1 z hz) (lt_irrefl z)
      · exact hz'
theorem Rises.nodup {l : List Str} (h : Rises l) : l.Nodup := List.Pairwise.imp (fun h e => by subst e; exact lt_irrefl _ h) h
theorem FL.put {x : Str} {l : List Str} (hl : FL l) (hx : SL x) (h : l.length < 8796093022208) : FL (putS x l) :=
  ⟨by have := putS_len x l; omega, fun s hs => by
    rcases putS_mem.1 hs with rfl | hs
    · exact hx
    · exact hl.all s hs⟩
theorem FL.rising {l : List Str} (hl : FL l) : FL (risingS l) := ⟨Nat.le_trans (risingS_len l) hl.len, fun s hs => hl.all s (risingS_mem.1 hs)⟩
def AdjP (l : List Str) : Prop := ∀ (j : Nat) (x y : Str), l[j]? = some x → l[j + 1]? = some y → x < y
theorem rises_of_adj : ∀ {l : List Str}, AdjP l → Rises l
  | [], _ => by simp [Rises]
  | [x], _ => by simp [Rises]
  | x :: y :: r, h => by
    have ih : Rises (y :: r) := rises_of_adj fun j a b ha hb => h (j + 1) a b (by simpa using ha) (by simpa using hb)
    have hxy := h 0 x y rfl rfl
    unfold Rises at ih ⊢
    rw [List.pairwise_cons]
    refine ⟨fun z hz => ?_, ih⟩
    rcases List.mem_cons.1 hz with rfl | hz
    · exact hxy
    · rw [List.pairwise_cons] at ih
      exact lt_trans' hxy (ih.1 z hz)
theorem Rises.adj : ∀ {l : List Str}, Rises l → AdjP l
  | [], _ => fun j x y hx => by simp at hx
  | a :: r, h => by
    unfold Rises at h
    rw [List.pairwise_cons] at h
    intro j x y hx hy
    cases j with
    | zero =>
      simp at hx
      subst hx
      exact h.1 y (List.mem_of_getElem? (by simpa using hy))
    | succ j => exact Rises.adj h.2 j x y (by simpa using hx) (by simpa using hy)
def OrdP (l : List Str) : Prop := l.length ≤ 64 ∧ (∀ (j : Nat) x, l[j]? = some x → valueB x = true) ∧ AdjP l
structure CheckP (s : SetV) : Prop where
  ord : OrdP s.l
  un : s.u = true → s.n = true
  nu : s.u = false → s.lo = 0 ∧ s.hi = 0
  u : s.u = true → least ≤ s.lo ∧ s.hi ≤ most ∧ s.lo ≤ s.hi ∧ 64 < s.hi - s.lo + 1 - s.l.length ∧ ∀ (j : Nat) x, s.l[j]? = some x → ∃ n, numS x = some n ∧ s.lo < n ∧ n < s.hi
open Classical in
noncomputable def ordB (l : List Str) : Bool := decide (OrdP l)
open Classical in
noncomputable def checkE (s : SetV) : Int := if CheckP s then 0 else 1
theorem ordB_false {l : List Str} (h : ¬ OrdP l) : ordB l = false := by unfold ordB; simpa using h
theorem ordB_true {l : List Str} (h : OrdP l) : ordB l = true := by unfold ordB; simpa using h
theorem ordB_iff {l : List Str} : ordB l = true ↔ OrdP l := by unfold ordB; simp
theorem checkE_0 {s : SetV} (h : CheckP s) : checkE s = 0 := by unfold checkE; rw [if_pos h]
theorem checkE_1 {s : SetV} (h : ¬ CheckP s) : checkE s = 1 := by unfold checkE; rw [if_neg h]
theorem checkE_iff {s : SetV} : checkE s = 0 ↔ CheckP s := by
  unfold checkE
  split <;> simp_all
open Classical in
noncomputable def rangeB (s : SetV) (v : Str) : Bool := decide (∃ n, numS v = some n ∧ s.lo ≤ n ∧ n ≤ s.hi)
open Classical in
noncomputable def hasRaw (s : SetV) (v : Str) : Bool := (s.n != decide (v ∈ s.l)) && (!s.u || rangeB s v)
open Classical in
noncomputable def hasB (s : SetV) (v : Str) : Bool := decide (checkE s = 0) && valueB v && hasRaw s v
open Classical in
noncomputable def emptyB (s : SetV) : Bool := decide (checkE s = 0) && !s.n && !s.m && decide (s.l = [])
theorem rangeB_some {s : SetV} {v : Str} {n : Int} (h : numS v = some n) : rangeB s v = decide (s.lo ≤ n ∧ n ≤ s.hi) := by
  unfold rangeB
  rw [h]
  simp
theorem rangeB_none {s : SetV} {v : Str} (h : numS v = none) : rangeB s v = false := by
  unfold rangeB
  rw [h]
  simp
end Go.Proofs.AM
namespace Go.Proofs.AM
open Go Go.Lib
def kS : Bool × List (Nat × EqT) := (false, [(0, .str)])
def ent (s : Str) : D := .tup [mkS s, .bool true]
def insS (l : List Str) (s : Str) : List Str := if s ∈ l then l else l ++ [s]
def groupS (L : List (List Str)) : List Str := L.flatten.foldl insS []
theorem keyEq_S (a b : Str) : keyEq kS (mkS a) (mkS b) = some (decide (a = b)) := by
  unfold keyEq
  rw [if_pos ⟨rfl, rfl⟩]
  have hb : (({ data := { toList := a } } : ByteArray) == { data := { toList := b } }) = decide (a = b) := by
    show (({ toList := a } : Array UInt8) == { toList := b }) = _
    rw [Bool.eq_iff_iff]
    simp
  show (some (_ == _)).bind _ = _
  simp only [Option.bind_some, eqCells, Option.map_some, Bool.and_true]
  rw [hb]
theorem keyOk_S (a : Str) : keyOk kS (mkS a) = true := by unfold keyOk; rw [keyEq_S]; rfl
theorem look_ent (s : Str) : ∀ (l : List Str), lookD kS (mkS s) (l.map ent) = some (if s ∈ l then some (.bool true) else none)
  | [] => rfl
  | x :: r => by
    simp only [List.map_cons, ent, lookD, keyEq_S, Option.bind_some]
    by_cases h : s = x
    · subst h; simp
    · have := look_ent s r
      simp only [h, decide_false, Bool.false_eq_true, if_false, List.mem_cons, false_or]
      exact this
theorem mput_ent (s : Str) : ∀ (l : List Str), mputD kS (mkS s) (.bool true) (l.map ent) = some ((insS l s).map ent)
  | [] => rfl
  | x :: r => by
    simp only [List.map_cons, ent, mputD, keyEq_S, Option.bind_some]
    by_cases h : s = x
    · subst h; simp [insS, ent]
    · have := mput_ent s r
      simp only [h, decide_false, Bool.false_eq_true, if_false]
      change Option.map _ (mputD kS (mkS s) (.bool true) (r.map ent)) = _
      rw [this]
      unfold insS
      by_cases hm : s ∈ r
      · simp [hm, ent]
      · simp [hm, h, ent]
theorem mdel_ent (s : Str) : ∀ (l : List Str), mdelD kS (mkS s) (l.map ent) = some ((l.erase s).map ent)
  | [] => rfl
  | x :: r => by
    simp only [List.map_cons, ent, mdelD, keyEq_S, Option.bind_some]
    by_cases h : s = x
    · subst h; simp
    · have := mdel_ent s r
      simp only [h, decide_false, Bool.false_eq_true, if_false]
      change Option.map _ (mdelD kS (mkS s) (r.map ent)) = _
      rw [this]
      have hx : (x == s) = false := by simpa using Ne.symm h
      simp [hx, ent]
theorem clean_ent (s : Str) : Clean (ent s) := ⟨rfl, rfl⟩
theorem insS_mem {l : List Str} {s z : Str} : z ∈ insS l s ↔ z ∈ l ∨ z = s := by
  unfold insS
  by_cases h : s ∈ l
  · simp only [h, if_true]
    constructor
    · exact .inl
    · rintro (h' | rfl)
      · exact h'
      · exact h
  · simp [h]
theorem insS_nodup {l : List Str} {s : Str} (h : l.Nodup) : (insS l s).Nodup := by
  unfold insS
  by_cases hs : s ∈ l
  · simpa [hs] using h
  · simp only [hs, if_false]
    rw [List.nodup_append]
    refine ⟨h, by simp, fun a ha b hb => ?_⟩
    simp only [List.mem_singleton] at hb
    subst hb
    exact fun e => hs (e ▸ ha)
theorem insS_len (l : List Str) (s : Str) : (insS l s).length ≤ l.length + 1 := by
  unfold insS
  split <;> simp
theorem ins_aux : ∀ (m l : List Str), l.Nodup → (m.foldl insS l).Nodup ∧ (∀ z, z ∈ m.foldl insS l ↔ z ∈ m ∨ z ∈ l) ∧ (m.foldl insS l).length ≤ m.length + l.length
  | [], l, h => by simp [h]
  | x :: r, l, h => by
    obtain ⟨h1, h2, h3⟩ := ins_aux r (insS l x) (insS_nodup h)
    refine ⟨h1, fun z => ?_, ?_⟩
    · rw [List.foldl_cons, h2 z, insS_mem, List.mem_cons]
      constructor
      · rintro (h | h | h) <;> simp [h]
      · rintro ((h | h) | h) <;> simp [h]
    · have := insS_len l x
      simp only [List.foldl_cons, List.length_cons]
      omega
theorem groupS_nodup (L : List (List Str)) : (groupS L).Nodup := (ins_aux L.flatten [] List.nodup_nil).1
theorem groupS_mem {L : List (List Str)} {z : Str} : z ∈ groupS L ↔ z ∈ L.flatten := by
  have := (ins_aux L.flatten [] List.nodup_nil).2.1 z
  unfold groupS
  simpa using this
theorem groupS_len (L : List (List Str)) : (groupS L).length ≤ L.flatten.length := by
  have := (ins_aux L.flatten [] List.nodup_nil).2.2
  unfold groupS
  simpa using this
theorem nodup_len : ∀ {a b : List Str}, a.Nodup → (∀ z ∈ a, z ∈ b) → a.length ≤ b.length
  | [], _, _, _ => by simp
  | x :: r, b, h, hm => by
    rw [List.nodup_cons] at h
    have hx := hm x (by simp)
    have := nodup_len (a := r) (b := b.erase x) h.2 fun z hz => (List.mem_erase_of_ne (fun e => h.1 (by rw [← e]; exact hz))).2 (hm z (by simp [hz]))
    rw [List.length_erase_of_mem hx] at this
    have := List.length_pos_of_mem hx
    simp
    omega
theorem nodup_len_eq {a b : List Str} (ha : a.Nodup) (hb : b.Nodup) (h : ∀ z, z ∈ a ↔ z ∈ b) : a.length = b.length :=
  Nat.le_antisymm (nodup_len ha fun z hz => (h z).1 hz) (nodup_len hb fun z hz => (h z).2 hz)
theorem risingS_len_eq {l : List Str} (h : l.Nodup) : (risingS l).length = l.length := nodup_len_eq (risingS_rises l).nodup h fun _ => risingS_mem
theorem risingS_congr {a b : List Str} (h : ∀ z, z ∈ a ↔ z ∈ b) : risingS a = risingS b :=
  rises_ext (risingS_rises a) (risingS_rises b) fun z => by rw [risingS_mem, risingS_mem, h z]
theorem risingS_self {l : List Str} (h : Rises l) : risingS l = l := rises_ext (risingS_rises l) h fun _ => risingS_mem
def upS (hi : Int) (K : List Str) (lo : Int) : Int := if _h : lo ≤ hi ∧ itoa lo ∈ K then upS hi K (lo + 1) else lo
termination_by (hi + 1 - lo).toNat
def dnS (lo : Int) (K : List Str) (hi : Int) : Int := if _h : lo ≤ hi ∧ itoa hi ∈ K then dnS lo K (hi - 1) else hi
termination_by (hi + 1 - lo).toNat
theorem upS_step {hi lo : Int} {K : List Str} (h : lo ≤ hi ∧ itoa lo ∈ K) : upS hi K lo = upS hi K (lo + 1) := by rw [upS, dif_pos h]
theorem upS_stop {hi lo : Int} {K : List Str} (h : ¬ (lo ≤ hi ∧ itoa lo ∈ K)) : upS hi K lo = lo := by rw [upS, dif_neg h]
theorem dnS_step {hi lo : Int} {K : List Str} (h : lo ≤ hi ∧ itoa hi ∈ K) : dnS lo K hi = dnS lo K (hi - 1) := by rw [dnS, dif_pos h]
theorem dnS_stop {hi lo : Int} {K : List Str} (h : ¬ (lo ≤ hi ∧ itoa hi ∈ K)) : dnS lo K hi = hi := by rw [dnS, dif_neg h]
theorem upS_congr {K K' : List Str} (hK : ∀ z, z ∈ K ↔ z ∈ K') (hi : Int) : ∀ (n : Nat) (lo : Int), (hi + 1 - lo).toNat ≤ n → upS hi K lo = upS hi K' lo := by
  intro n
  induction n with
  | zero =>
    intro lo h
    rw [upS_stop (fun h' => by omega), upS_stop (fun h' => by omega)]
  | succ n ih =>
    intro lo h
    by_cases hc : lo ≤ hi ∧ itoa lo ∈ K
    · rw [upS_step hc, upS_step ⟨hc.1, (hK _).1 hc.2⟩, ih (lo + 1) (by omega)]
    · rw [upS_stop hc, upS_stop fun h' => hc ⟨h'.1, (hK _).2 h'.2⟩]
theorem dnS_congr {K K' : List Str} (hK : ∀ z, z ∈ K ↔ z ∈ K') (lo : Int) : ∀ (n : Nat) (hi : Int), (hi + 1 - lo).toNat ≤ n → dnS lo K hi = dnS lo K' hi := by
  intro n
  induction n with
  | zero =>
    intro hi h
    rw [dnS_stop (fun h' => by omega), dnS_stop (fun h' => by omega)]
  | succ n ih =>
    intro hi h
    by_cases hc : lo ≤ hi ∧ itoa hi ∈ K
    · rw [dnS_step hc, dnS_step ⟨hc.1, (hK _).1 hc.2⟩, ih (hi - 1) (by omega)]
    · rw [dnS_stop hc, dnS_stop fun h' => hc ⟨h'.1, (hK _).2 h'.2⟩]
open Classical in
noncomputable def inR (lo hi : Int) (s : Str) : Bool := decide (∃ n, numS s = some n ∧ lo < n ∧ n < hi)
theorem inR_iff {lo hi : Int} {s : Str} : inR lo hi s = true ↔ ∃ n, numS s = some n ∧ lo < n ∧ n < hi := by unfold inR; simp
def upTo (lo : Int) : Nat → List Str
  | 0 => []
  | n + 1 => itoa lo :: upTo (lo + 1) n
def listN (lo hi : Int) (V : List Str) : List Str := (upTo lo (hi + 1 - lo).toNat).filter fun s => decide (s ∉ V)
noncomputable def valsN (lo hi : Int) (K : List Str) : List Str := risingS (K.filter (inR lo hi))
noncomputable def numbersN (lo hi : Int) (K : List Str) : Option SetV :=
  if hi - lo + 1 - (valsN lo hi K).length ≤ 64 then some ⟨false, false, false, risingS (listN lo hi (valsN lo hi K)), 0, 0⟩
  else if 64 < (valsN lo hi K).length then none else some ⟨false, true, true, valsN lo hi K, lo, hi⟩
noncomputable def numbersS (lo hi : Int) (K : List Str) : Option SetV := numbersN (upS hi K lo) (dnS (upS hi K lo) K hi) K
theorem valsN_congr {K K' : List Str} (hK : ∀ z, z ∈ K ↔ z ∈ K') (lo hi : Int) : valsN lo hi K = valsN lo hi K' :=
  risingS_congr fun z => by simp [hK z]
theorem numbersS_congr {K K' : List Str} (hK : ∀ z, z ∈ K ↔ z ∈ K') (lo hi : Int) : numbersS lo hi K = numbersS lo hi K' := by
  unfold numbersS
  rw [upS_congr hK hi _ lo (Nat.le_refl _), dnS_congr hK _ _ hi (Nat.le_refl _)]
  unfold numbersN
  rw [valsN_congr hK]
end Go.Proofs.AM
namespace Go.Proofs.AM
open Go Go.Lib
structure ReqV where
  key : Str
  op : Int
  l : List Str
  n : Int
def reqD (r : ReqV) : D := .agg [mkS r.key, .int .i64 r.op, .sl 1 false (r.l.map mkS), .int .i64 r.n]
structure FR (r : ReqV) : Prop where
  key : SL r.key
  l : FL r.l
  op : FI r.op
  n : FI r.n
def BadOp (r : ReqV) : Prop := r.op < 1 ∨ 6 < r.op ∨ ((r.op = 1 ∨ r.op = 2) ∧ r.l.length = 0) ∨ (¬ (r.op = 1 ∨ r.op = 2) ∧ 0 < r.l.length) ∨ (¬ (r.op = 5 ∨ r.op = 6) ∧ r.n ≠ 0) ∨ r.n < -2147483648 ∨ 2147483648 < r.n
instance (r : ReqV) : Decidable (BadOp r) := by unfold BadOp; exact inferInstance
open Classical in
noncomputable def wrongE (r : ReqV) : Int :=
  if nameB r.key = false then 7
  else if BadOp r then 30
  else if 8 < r.l.length then 3
  else if ∃ v ∈ r.l, valueB v = false then 20
  else if ¬ r.l.Nodup then 6
  else 0
theorem wrongE_0 {r : ReqV} (h : wrongE r = 0) : nameB r.key = true ∧ ¬ BadOp r ∧ r.l.length ≤ 8 ∧ (∀ v ∈ r.l, valueB v = true) ∧ r.l.Nodup := by
  unfold wrongE at h
  split at h
  · simp at h
  · rename_i h1
    split at h
    · simp at h
    · rename_i h2
      split at h
      · simp at h
      · rename_i h3
        split at h
        · simp at h
        · rename_i h4
          split at h
          · simp at h
          · rename_i h5
            refine ⟨by simpa using h1, h2, by omega, fun v hv => ?_, Classical.byContradiction h5⟩
            cases hb : valueB v with
            | true => rfl
            | false => exact absurd ⟨v, hv, hb⟩ h4
theorem nodup_at : ∀ {l : List Str}, (∀ (k : Nat) y, l[k]? = some y → y ∉ l.take k) → l.Nodup
  | [], _ => List.nodup_nil
  | x :: r, h => by
    rw [List.nodup_cons]
    refine ⟨fun hx => ?_, nodup_at fun k y hy hm => ?_⟩
    · obtain ⟨j, hj⟩ := List.getElem?_of_mem hx
      exact h (j + 1) x (by simpa using hj) (by simp)
    · exact h (k + 1) y (by simpa using hy) (by simp [hm])
theorem not_nodup_at {l : List Str} {k : Nat} {y : Str} (h : l[k]? = some y) (hm : y ∈ l.take k) : ¬ l.Nodup := by
  intro hn
  obtain ⟨j, hj⟩ := List.getElem?_of_mem hm
  have hjk : j < k := by
    have := (List.getElem?_eq_some_iff.1 hj).1
    simp at this
    omega
  rw [List.getElem?_take_of_lt hjk] at hj
  obtain ⟨a1, h1⟩ := List.getElem?_eq_some_iff.1 hj
  obtain ⟨a2, h2⟩ := List.getElem?_eq_some_iff.1 h
  exact (List.pairwise_iff_getElem.1 hn j k a1 a2 hjk) (h1.trans h2.symm)
theorem shorter : ∀ {l : List Str}, ¬ l.Nodup → ∃ l' : List Str, l'.length < l.length ∧ ∀ z ∈ l, z ∈ l'
  | [], h => absurd List.nodup_nil h
  | x :: r, h => by
    by_cases hx : x ∈ r
    · exact ⟨r, by simp, fun z hz => by
        rcases List.mem_cons.1 hz with rfl | hz
        · exact hx
        · exact hz⟩
    · have : ¬ r.Nodup := fun hn => h (List.nodup_cons.2 ⟨hx, hn⟩)
      obtain ⟨l', h1, h2⟩ := shorter this
      exact ⟨x :: l', by simp; omega, fun z hz => by
        rcases List.mem_cons.1 hz with rfl | hz
        · simp
        · simp [h2 z hz]⟩
theorem group_lt {l : List Str} : (groupS [l]).length < l.length ↔ ¬ l.Nodup := by
  have hm : ∀ z, z ∈ groupS [l] ↔ z ∈ l := fun z => by rw [groupS_mem]; simp
  constructor
  · intro h hn
    have := nodup_len_eq (groupS_nodup [l]) hn hm
    omega
  · intro h
    obtain ⟨l', h1, h2⟩ := shorter h
    have := nodup_len (groupS_nodup [l]) fun z hz => h2 z ((hm z).1 hz)
    omega
def zeroS : SetV := ⟨false, false, false, [], 0, 0⟩
theorem numbersS_nil (lo hi : Int) : ∃ S, numbersS lo hi [] = some S := by
  unfold numbersS numbersN
  have hv : ∀ a b, (valsN a b []).length = 0 := fun a b => by simp [valsN, risingS]
  rw [hv]
  split
  · exact ⟨_, rfl⟩
  · rw [if_neg (by omega)]; exact ⟨_, rfl⟩
noncomputable def ofS (r : ReqV) : SetV :=
  if r.op = 1 then ⟨false, false, false, risingS r.l, 0, 0⟩
  else if r.op = 2 then ⟨true, true, false, risingS r.l, 0, 0⟩
  else if r.op = 3 then ⟨false, true, false, [], 0, 0⟩
  else if r.op = 4 then ⟨true, false, false, [], 0, 0⟩
  else if r.op = 5 then (numbersS (r.n + 1) most []).getD zeroS
  else (numbersS least (r.n - 1) []).getD zeroS
noncomputable def ofSet (r : ReqV) : SetV := if wrongE r = 0 then ofS r else zeroS
end Go.Proofs.AM
namespace Go.Proofs.AM
open Go Go.Lib
noncomputable def meetN (a b : SetV) : Option SetV :=
  if a.n = false then some ⟨false, false, false, a.l.filter (hasB b), 0, 0⟩
  else if b.n = false then some ⟨false, false, false, b.l.filter (hasB a), 0, 0⟩
  else if a.u = false ∧ b.u = false then (if (risingS (a.l ++ b.l)).length ≤ 64 then some ⟨false, true, false, risingS (a.l ++ b.l), 0, 0⟩ else none)
  else if a.u = false then numbersS b.lo b.hi (risingS (a.l ++ b.l))
  else if b.u = false then numbersS a.lo a.hi (risingS (a.l ++ b.l))
  else numbersS (max a.lo b.lo) (min a.hi b.hi) (risingS (a.l ++ b.l))
noncomputable def meetS (a b : SetV) : SetV × Int :=
  if checkE a ≠ 0 then (zeroS, checkE a)
  else if checkE b ≠ 0 then (zeroS, checkE b)
  else match meetN a b with
    | none => (zeroS, 3)
    | some S => (⟨a.m && b.m, S.n, S.u, S.l, S.lo, S.hi⟩, 0)
def swB (a b : SetV) : Bool := (a.n && !b.n) || (a.u && b.n && !b.u)
theorem has_raw {A B : SetV} (ca : CheckP A) (cb : CheckP B) : A.l.filter (hasB B) = A.l.filter (hasRaw B) := by
  apply List.filter_congr
  intro v hv
  obtain ⟨j, hj⟩ := List.getElem?_of_mem hv
  have h1 := ca.ord.2.1 j v hj
  unfold hasB
  rw [checkE_0 cb, h1]
  simp
theorem meetN_prog {a b A B : SetV} (ca : CheckP a) (cb : CheckP b) (h : (swB a b = false ∧ A = a ∧ B = b) ∨ (swB a b = true ∧ A = b ∧ B = a)) :
    meetN a b = if A.n = false then some ⟨false, false, false, A.l.filter (hasRaw B), 0, 0⟩
      else if B.u = false then (if (groupS [A.l, B.l]).length ≤ 64 then some ⟨false, true, false, risingS (groupS [A.l, B.l]), 0, 0⟩ else none)
      else if A.u = false then numbersS B.lo B.hi (groupS [A.l, B.l]) else numbersS (max A.lo B.lo) (min A.hi B.hi) (groupS [A.l, B.l]) := by
  have hg : ∀ z, z ∈ risingS (a.l ++ b.l) ↔ z ∈ groupS [A.l, B.l] := fun z => by
    rw [risingS_mem, groupS_mem]
    rcases h with ⟨_, rfl, rfl⟩ | ⟨_, rfl, rfl⟩ <;> simp [or_comm]
  have hr : risingS (a.l ++ b.l) = risingS (groupS [A.l, B.l]) := rises_ext (risingS_rises _) (risingS_rises _) fun z => by rw [hg z, risingS_mem]
  have hl : (risingS (a.l ++ b.l)).length = (groupS [A.l, B.l]).length := by rw [hr, risingS_len_eq (groupS_nodup _)]
  have hn : ∀ lo hi, numbersS lo hi (risingS (a.l ++ b.l)) = numbersS lo hi (groupS [A.l, B.l]) := fun lo hi => numbersS_congr hg lo hi
  unfold meetN
  rw [hl, hr]
  simp only [← hr, hn]
  have ua := ca.un
  have ub := cb.un
  unfold swB at h
  rcases h with ⟨hs, rfl, rfl⟩ | ⟨hs, rfl, rfl⟩
  · rw [has_raw ca cb]
    cases h1 : A.n <;> cases h2 : B.n <;> cases h3 : A.u <;> cases h4 : B.u <;> simp_all
  · rw [has_raw cb ca]
    have e1 : max B.lo A.lo = max A.lo B.lo := by omega
    have e2 : min B.hi A.hi = min A.hi B.hi := by omega
    cases h1 : A.n <;> cases h2 : B.n <;> cases h3 : A.u <;> cases h4 : B.u <;> simp_all
end Go.Proofs.AM
