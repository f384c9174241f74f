/- Part 11 of the lemmas: PVh, VWa. -/
import Derived.Test.YteaklhcejjiinaaDoorM08
import Derived.Test.YteaklhcejjiinaaDoorM10
namespace Go.Proofs.AM
open Go Go.Lib
theorem value_num {v : Str} {n : Int} (h : numS v = some n) : valueB v = true := by rw [valueB_or, h]; simp
theorem hasRaw_iff {s : SetV} {v : Str} : hasRaw s v = true ↔ (s.n = true ↔ v ∉ s.l) ∧ (s.u = true → ∃ n, numS v = some n ∧ s.lo ≤ n ∧ n ≤ s.hi) := by
  unfold hasRaw rangeB
  cases s.n <;> cases s.u <;> simp
theorem bool_eq {a b : Bool} (h : a = true ↔ b = true) : a = b := by cases a <;> cases b <;> simp_all
theorem itoa_num {n : Int} (h1 : least ≤ n) (h2 : n ≤ most) {v : Str} (h : v = itoa n) : numS v = some n := by rw [h]; exact numS_itoa h1 h2
theorem num_itoa {v : Str} {n : Int} (h : numS v = some n) : v = itoa n := (numS_iff.1 h).1
theorem filter_len {U V : List Str} (hU : U.Nodup) (hV : V.Nodup) (h : ∀ z ∈ V, z ∈ U) : (U.filter fun s => decide (s ∉ V)).length + V.length = U.length := by
  have h1 : (U.filter fun s => decide (s ∈ V)).length = V.length := nodup_len_eq (hU.filter _) hV fun z => by
    simp only [List.mem_filter, decide_eq_true_eq]
    exact ⟨fun h => h.2, fun hz => ⟨h z hz, hz⟩⟩
  rw [← h1]
  clear h1 hU hV h
  induction U with
  | nil => rfl
  | cons x U ih =>
    by_cases hx : x ∈ V <;> simp [hx] <;> simp at ih <;> omega
theorem up_spec {hi : Int} {K : List Str} : ∀ (n : Nat) (lo : Int), (hi + 1 - lo).toNat ≤ n → (∀ i, lo ≤ i → i < upS hi K lo → itoa i ∈ K) ∧ ¬ (upS hi K lo ≤ hi ∧ itoa (upS hi K lo) ∈ K) := by
  intro n
  induction n with
  | zero =>
    intro lo h
    have hc : ¬ (lo ≤ hi ∧ itoa lo ∈ K) := fun h' => by omega
    rw [upS_stop hc]
    exact ⟨fun i h1 h2 => by omega, hc⟩
  | succ n ih =>
    intro lo h
    by_cases hc : lo ≤ hi ∧ itoa lo ∈ K
    · rw [upS_step hc]
      obtain ⟨h1, h2⟩ := ih (lo + 1) (by omega)
      refine ⟨fun i hi1 hi2 => ?_, h2⟩
      by_cases e : i = lo
      · subst e; exact hc.2
      · exact h1 i (by omega) hi2
    · rw [upS_stop hc]
      exact ⟨fun i h1 h2 => by omega, hc⟩
theorem dn_spec {lo : Int} {K : List Str} : ∀ (n : Nat) (hi : Int), (hi + 1 - lo).toNat ≤ n → (∀ i, dnS lo K hi < i → i ≤ hi → itoa i ∈ K) ∧ ¬ (lo ≤ dnS lo K hi ∧ itoa (dnS lo K hi) ∈ K) := by
  intro n
  induction n with
  | zero =>
    intro hi h
    have hc : ¬ (lo ≤ hi ∧ itoa hi ∈ K) := fun h' => by omega
    rw [dnS_stop hc]
    exact ⟨fun i h1 h2 => by omega, hc⟩
  | succ n ih =>
    intro hi h
    by_cases hc : lo ≤ hi ∧ itoa hi ∈ K
    · rw [dnS_step hc]
      obtain ⟨h1, h2⟩ := ih (hi - 1) (by omega)
      refine ⟨fun i hi1 hi2 => ?_, h2⟩
      by_cases e : i = hi
      · subst e; exact hc.2
      · exact h1 i hi1 (by omega)
    · rw [dnS_stop hc]
      exact ⟨fun i h1 h2 => by omega, hc⟩
theorem valsN_mem {x y : Int} {K : List Str} {z : Str} : z ∈ valsN x y K ↔ z ∈ K ∧ ∃ n, numS z = some n ∧ x < n ∧ n < y := by
  unfold valsN
  rw [risingS_mem, List.mem_filter, inR_iff]
theorem num_upTo {x y : Int} (h1 : least ≤ x) (h2 : y ≤ most) {z : Str} : z ∈ upTo x (y + 1 - x).toNat ↔ ∃ n, numS z = some n ∧ x ≤ n ∧ n ≤ y := by
  rw [upTo_mem]
  constructor
  · rintro ⟨i, hi, e⟩
    exact ⟨x + i, itoa_num (by omega) (by omega) e, by omega, by omega⟩
  · rintro ⟨n, hn, h3, h4⟩
    refine ⟨(n - x).toNat, by omega, ?_⟩
    rw [num_itoa hn]
    congr 1
    omega
theorem numbersN_spec {x y : Int} {K : List Str} {S : SetV} (h1 : least ≤ x) (h2 : y ≤ most) (hx : x ≤ y → itoa x ∉ K) (hy : x ≤ y → itoa y ∉ K) (h : numbersN x y K = some S) :
    CheckP S ∧ S.m = false ∧ ∀ v, hasRaw S v = true ↔ v ∉ K ∧ ∃ n, numS v = some n ∧ x ≤ n ∧ n ≤ y := by
  have hin : ∀ v n, numS v = some n → x ≤ n → n ≤ y → (v ∈ valsN x y K ↔ v ∈ K) := fun v n hv h3 h4 => by
    rw [valsN_mem]
    refine ⟨fun h => h.1, fun hk => ⟨hk, n, hv, ?_, ?_⟩⟩
    · have : n ≠ x := fun e => hx (by omega) (by rw [← e, ← num_itoa hv]; exact hk)
      omega
    · have : n ≠ y := fun e => hy (by omega) (by rw [← e, ← num_itoa hv]; exact hk)
      omega
  have hVn : (valsN x y K).Nodup := (risingS_rises _).nodup
  have hVr : Rises (valsN x y K) := risingS_rises _
  have hVm : ∀ z ∈ valsN x y K, ∃ n, numS z = some n ∧ x < n ∧ n < y := fun z hz => (valsN_mem.1 hz).2
  unfold numbersN at h
  split at h
  · rename_i hc
    simp only [Option.some.injEq] at h
    subst h
    have hmem : ∀ z, z ∈ risingS (listN x y (valsN x y K)) ↔ z ∉ valsN x y K ∧ ∃ n, numS z = some n ∧ x ≤ n ∧ n ≤ y := fun z => by
      unfold listN
      rw [risingS_mem, List.mem_filter, num_upTo h1 h2]
      simp only [decide_eq_true_eq]
      exact and_comm
    have hln : (listN x y (valsN x y K)).Nodup := (upTo_nodup _ _).filter _
    have hlen : (risingS (listN x y (valsN x y K))).length ≤ 64 := by
      rw [risingS_len_eq hln]
      have := filter_len (upTo_nodup x (y + 1 - x).toNat) hVn fun z hz => by
        obtain ⟨n, h3, h4, h5⟩ := hVm z hz
        exact (num_upTo h1 h2).2 ⟨n, h3, by omega, by omega⟩
      rw [upTo_len] at this
      unfold listN
      omega
    refine ⟨⟨⟨hlen, fun j z hz => ?_, (risingS_rises _).adj⟩, by simp, by simp, by simp⟩, rfl, fun v => ?_⟩
    · obtain ⟨_, n, hn, _⟩ := (hmem z).1 (List.mem_of_getElem? hz)
      exact value_num hn
    · rw [hasRaw_iff]
      simp only [Bool.false_eq_true, false_iff, Decidable.not_not, false_imp_iff, and_true]
      rw [hmem]
      constructor
      · rintro ⟨h3, n, h4, h5, h6⟩
        exact ⟨fun hk => h3 ((hin v n h4 h5 h6).2 hk), n, h4, h5, h6⟩
      · rintro ⟨h3, n, h4, h5, h6⟩
        exact ⟨fun hk => h3 ((hin v n h4 h5 h6).1 hk), n, h4, h5, h6⟩
  · rename_i hc
    split at h
    · simp at h
    · rename_i hv
      simp only [Option.some.injEq] at h
      subst h
      refine ⟨⟨⟨by show (valsN x y K).length ≤ 64; omega, fun j z hz => ?_, hVr.adj⟩, by simp, by simp, fun _ => ⟨h1, h2, by show x ≤ y; omega, by show 64 < y - x + 1 - ((valsN x y K).length : Int); omega, fun j z hz => hVm z (List.mem_of_getElem? hz)⟩⟩, rfl, fun v => ?_⟩
      · obtain ⟨n, hn, _⟩ := hVm z (List.mem_of_getElem? hz)
        exact value_num hn
      · rw [hasRaw_iff]
        simp only [true_iff, true_imp_iff]
        constructor
        · rintro ⟨h3, n, h4, h5, h6⟩
          exact ⟨fun hk => h3 ((hin v n h4 h5 h6).2 hk), n, h4, h5, h6⟩
        · rintro ⟨h3, n, h4, h5, h6⟩
          exact ⟨fun hk => h3 ((hin v n h4 h5 h6).1 hk), n, h4, h5, h6⟩
theorem numbersS_spec {lo hi : Int} {K : List Str} {S : SetV} (h1 : least ≤ lo) (h2 : hi ≤ most) (h : numbersS lo hi K = some S) :
    CheckP S ∧ S.m = false ∧ ∀ v, hasRaw S v = true ↔ v ∉ K ∧ ∃ n, numS v = some n ∧ lo ≤ n ∧ n ≤ hi := by
  unfold numbersS at h
  obtain ⟨u1, u2⟩ := up_spec (hi := hi) (K := K) _ lo (Nat.le_refl _)
  obtain ⟨u3, _, _⟩ := upS_ge (hi := hi) (K := K) _ lo (Nat.le_refl _)
  obtain ⟨x, hx⟩ : ∃ x, x = upS hi K lo := ⟨_, rfl⟩
  rw [← hx] at h u1 u2 u3
  obtain ⟨d1, d2⟩ := dn_spec (lo := x) (K := K) _ hi (Nat.le_refl _)
  obtain ⟨d3, _, _⟩ := dnS_le (lo := x) (K := K) _ hi (Nat.le_refl _)
  obtain ⟨y, hy⟩ : ∃ y, y = dnS x K hi := ⟨_, rfl⟩
  rw [← hy] at h d1 d2 d3
  obtain ⟨c, m, r⟩ := numbersN_spec (by omega) (by omega) (fun hxy hk => u2 ⟨by omega, hk⟩) (fun hxy hk => d2 ⟨hxy, hk⟩) h
  refine ⟨c, m, fun v => ?_⟩
  rw [r]
  refine and_congr_right fun hv => ?_
  constructor
  · rintro ⟨n, h3, h4, h5⟩; exact ⟨n, h3, by omega, by omega⟩
  · rintro ⟨n, h3, h4, h5⟩
    refine ⟨n, h3, ?_, ?_⟩
    · refine Classical.byContradiction fun hlt => hv ?_
      rw [num_itoa h3]
      exact u1 n h4 (by omega)
    · refine Classical.byContradiction fun hlt => hv ?_
      rw [num_itoa h3]
      exact d1 n (by omega) h5
theorem numbersS_ne {lo hi : Int} {K : List Str} (h : K.length ≤ 64) : ∃ S, numbersS lo hi K = some S := by
  unfold numbersS numbersN
  split
  · exact ⟨_, rfl⟩
  · rw [if_neg]
    · exact ⟨_, rfl⟩
    · have h1 : (valsN (upS hi K lo) (dnS (upS hi K lo) K hi) K).length ≤ _ := risingS_len _
      have h2 := List.length_filter_le (inR (upS hi K lo) (dnS (upS hi K lo) K hi)) K
      omega
theorem CheckP.rises {s : SetV} (h : CheckP s) : Rises s.l := rises_of_adj h.ord.2.2
theorem CheckP.val {s : SetV} (h : CheckP s) {z : Str} (hz : z ∈ s.l) : valueB z = true := by
  obtain ⟨j, hj⟩ := List.getElem?_of_mem hz
  exact h.ord.2.1 j z hj
theorem CheckP.inr {s : SetV} (h : CheckP s) (hu : s.u = true) {z : Str} (hz : z ∈ s.l) : ∃ n, numS z = some n ∧ s.lo < n ∧ n < s.hi := by
  obtain ⟨j, hj⟩ := List.getElem?_of_mem hz
  exact (h.u hu).2.2.2.2 j z hj
theorem hasB_raw {s : SetV} (h : CheckP s) (v : Str) : hasB s v = (valueB v && hasRaw s v) := by
  unfold hasB
  rw [checkE_0 h]
  simp
theorem Rises.filter {l : List Str} (h : Rises l) (p : Str → Bool) : Rises (l.filter p) := List.Pairwise.filter _ h
theorem check_filter {a : SetV} (ca : CheckP a) (p : Str → Bool) : CheckP ⟨false, false, false, a.l.filter p, 0, 0⟩ :=
  ⟨⟨Nat.le_trans (List.length_filter_le _ _) ca.ord.1, fun _ _ hz => ca.val (List.mem_filter.1 (List.mem_of_getElem? hz)).1, (ca.rises.filter p).adj⟩, by simp, by simp, by simp⟩
theorem filter_spec {a b : SetV} (ca : CheckP a) (cb : CheckP b) (ha : a.n = false) {v : Str} (hv : valueB v = true) : hasRaw ⟨false, false, false, a.l.filter (hasB b), 0, 0⟩ v = true ↔ hasRaw a v = true ∧ hasRaw b v = true := by
  have hu : a.u = false := by cases h : a.u with
    | false => rfl
    | true => rw [ca.un h] at ha; simp at ha
  rw [hasRaw_iff, hasRaw_iff (s := a), ha, hu]
  simp [hasB_raw cb, hv]
theorem meetN_spec {a b S : SetV} (ca : CheckP a) (cb : CheckP b) (h : meetN a b = some S) : CheckP S ∧ S.m = false ∧ ∀ v, valueB v = true → (hasRaw S v = true ↔ hasRaw a v = true ∧ hasRaw b v = true) := by
  unfold meetN at h
  have hval : ∀ z, z ∈ risingS (a.l ++ b.l) → valueB z = true := fun z hz => by
    rw [risingS_mem, List.mem_append] at hz
    rcases hz with hz | hz
    · exact ca.val hz
    · exact cb.val hz
  have hmem : ∀ z, z ∉ risingS (a.l ++ b.l) ↔ z ∉ a.l ∧ z ∉ b.l := fun z => by rw [risingS_mem]; simp
  split at h
  · rename_i ha
    simp only [Option.some.injEq] at h
    subst h
    exact ⟨check_filter ca _, rfl, fun v hv => filter_spec ca cb ha hv⟩
  rename_i ha
  have ha : a.n = true := by simpa using ha
  split at h
  · rename_i hb
    simp only [Option.some.injEq] at h
    subst h
    exact ⟨check_filter cb _, rfl, fun v hv => by rw [filter_spec cb ca hb hv]; exact and_comm⟩
  rename_i hb
  have hb : b.n = true := by simpa using hb
  have ea : ∀ v, hasRaw a v = true ↔ v ∉ a.l ∧ (a.u = true → ∃ n, numS v = some n ∧ a.lo ≤ n ∧ n ≤ a.hi) := fun v => by rw [hasRaw_iff, ha]; simp
  have eb : ∀ v, hasRaw b v = true ↔ v ∉ b.l ∧ (b.u = true → ∃ n, numS v = some n ∧ b.lo ≤ n ∧ n ≤ b.hi) := fun v => by rw [hasRaw_iff, hb]; simp
  split at h
  · rename_i hu
    split at h
    · rename_i hl
      simp only [Option.some.injEq] at h
      subst h
      refine ⟨⟨⟨hl, fun _ z hz => hval z (List.mem_of_getElem? hz), (risingS_rises _).adj⟩, by simp, by simp, by simp⟩, rfl, fun v _ => ?_⟩
      rw [hasRaw_iff, ea, eb, hu.1, hu.2]
      have := hmem v
      simp [this]
    · simp at h
  rename_i hu
  split at h
  · rename_i hau
    have hbu : b.u = true := by
      cases e : b.u with
      | true => rfl
      | false => exact absurd ⟨hau, e⟩ hu
    have cu := cb.u hbu
    obtain ⟨c, m, r⟩ := numbersS_spec cu.1 cu.2.1 h
    refine ⟨c, m, fun v _ => ?_⟩
    rw [r, hmem, ea, eb, hau, hbu]
    simp [and_assoc]
  rename_i hau
  have hau : a.u = true := by simpa using hau
  have cu := ca.u hau
  split at h
  · rename_i hbu
    obtain ⟨c, m, r⟩ := numbersS_spec cu.1 cu.2.1 h
    refine ⟨c, m, fun v _ => ?_⟩
    rw [r, hmem, ea, eb, hau, hbu]
    simp only [true_imp_iff, Bool.false_eq_true, false_imp_iff, and_true]
    exact ⟨fun ⟨⟨h1, h2⟩, h3⟩ => ⟨⟨h1, h3⟩, h2⟩, fun ⟨⟨h1, h3⟩, h2⟩ => ⟨⟨h1, h2⟩, h3⟩⟩
  · rename_i hbu
    have hbu : b.u = true := by simpa using hbu
    have cv := cb.u hbu
    obtain ⟨c, m, r⟩ := numbersS_spec (by omega) (by omega) h
    refine ⟨c, m, fun v _ => ?_⟩
    rw [r, hmem, ea, eb, hau, hbu]
    simp only [true_imp_iff]
    constructor
    · rintro ⟨⟨h1, h2⟩, n, h3, h4, h5⟩
      exact ⟨⟨h1, n, h3, by omega, by omega⟩, h2, n, h3, by omega, by omega⟩
    · rintro ⟨⟨h1, n, h3, h4, h5⟩, h2, n', h3', h4', h5'⟩
      have e : n' = n := by rw [h3] at h3'; simpa using h3'.symm
      subst e
      exact ⟨⟨h1, h2⟩, n', h3, by omega, by omega⟩
theorem meet_spec {a b : SetV} (ca : CheckP a) (cb : CheckP b) : (meetN a b = none ∧ meetS a b = (zeroS, 3)) ∨ ∃ S, (∃ N, meetN a b = some N) ∧ meetS a b = (S, 0) ∧ CheckP S ∧ S.m = (a.m && b.m) ∧ ∀ v, valueB v = true → hasRaw S v = (hasRaw a v && hasRaw b v) := by
  unfold meetS
  rw [if_neg (by rw [checkE_0 ca]; simp), if_neg (by rw [checkE_0 cb]; simp)]
  cases h : meetN a b with
  | none => exact .inl ⟨rfl, rfl⟩
  | some N =>
    obtain ⟨c, _, r⟩ := meetN_spec ca cb h
    refine .inr ⟨_, ⟨N, rfl⟩, rfl, ⟨c.ord, c.un, c.nu, c.u⟩, rfl, fun v hv => bool_eq ?_⟩
    have := r v hv
    rw [Bool.and_eq_true]
    exact this
theorem meet_bad {a b : SetV} (h : (meetS a b).2 = 0) : CheckP a ∧ CheckP b := by
  unfold meetS at h
  split at h
  · rename_i h1; exact absurd h h1
  · rename_i h1
    split at h
    · rename_i h2; exact absurd h h2
    · rename_i h2
      exact ⟨checkE_iff.1 (by simpa using h1), checkE_iff.1 (by simpa using h2)⟩
theorem fin_cof {a b : SetV} (ca : CheckP a) (cb : CheckP b) (ha : a.n = false) (hb : b.n = true) (h : ∀ v, valueB v = true → hasRaw a v = hasRaw b v) : False := by
  have hau : a.u = false := by cases e : a.u with
    | false => rfl
    | true => rw [ca.un e] at ha; simp at ha
  have key : ∀ v, valueB v = true → hasRaw b v = true → v ∈ a.l := fun v hv hb => by
    rw [← h v hv, hasRaw_iff, ha, hau] at hb
    simpa using hb
  have la := ca.ord.1
  have lb := cb.ord.1
  cases hbu : b.u with
  | false =>
    have := nodup_len (b := a.l ++ b.l) (upTo_nodup 0 129) fun z hz => by
      obtain ⟨i, hi, e⟩ := upTo_mem.1 hz
      have hn := itoa_num (n := 0 + (i : Int)) (by unfold least; omega) (by unfold most; omega) e
      rw [List.mem_append]
      by_cases hzb : z ∈ b.l
      · exact .inr hzb
      · exact .inl (key z (value_num hn) (hasRaw_iff.2 ⟨by simp [hb, hzb], by simp [hbu]⟩))
    rw [upTo_len] at this
    simp at this
    omega
  | true =>
    have cu := cb.u hbu
    have := nodup_len (b := a.l ++ b.l) (upTo_nodup b.lo (b.hi + 1 - b.lo).toNat) fun z hz => by
      obtain ⟨n, hn, h1, h2⟩ := (num_upTo cu.1 cu.2.1).1 hz
      rw [List.mem_append]
      by_cases hzb : z ∈ b.l
      · exact .inr hzb
      · exact .inl (key z (value_num hn) (hasRaw_iff.2 ⟨by simp [hb, hzb], fun _ => ⟨n, hn, h1, h2⟩⟩))
    rw [upTo_len] at this
    simp at this
    omega
theorem name_a {i : Nat} (h : i < 65) : NameP (97 :: itoa (i : Int)) := by
  rw [itoa_pos' (by omega), Int.natAbs_natCast, nameP_cons]
  refine ⟨?_, by decide, fun x hx => .inr (.inl ?_)⟩
  · have := decDigits_le 1 i (by have : (10 : Nat) ^ (1 + 1) = 100 := by decide
                                 omega)
    omega
  · exact decDigits_mem i x hx
theorem cof_range {a b : SetV} (ca : CheckP a) (ha : a.n = true) (hau : a.u = false) (hbu : b.u = true) (h : ∀ v, valueB v = true → hasRaw a v = hasRaw b v) : False := by
  have la := ca.ord.1
  have hnd : ((upTo 0 65).map fun s => (97 : UInt8) :: s).Nodup := by
    unfold List.Nodup
    rw [List.pairwise_map]
    exact (upTo_nodup 0 65).imp fun h e => h (by simpa using e)
  have := nodup_len (b := a.l) hnd fun z hz => by
    obtain ⟨s, hs, rfl⟩ := List.mem_map.1 hz
    obtain ⟨i, hi, e⟩ := upTo_mem.1 hs
    rw [Int.zero_add] at e
    subst e
    have hname : NameP (97 :: itoa (i : Int)) := name_a hi
    have hv : valueB (97 :: itoa (i : Int)) = true := value_name (by unfold nameB; simpa using hname)
    have hb : hasRaw b (97 :: itoa (i : Int)) = false := by
      cases e : hasRaw b (97 :: itoa (i : Int)) with
      | false => rfl
      | true =>
        obtain ⟨n, hn, _⟩ := (hasRaw_iff.1 e).2 hbu
        exact absurd hname (num_not_name hn)
    rw [← h _ hv] at hb
    refine Classical.byContradiction fun hz => ?_
    rw [hasRaw_iff.2 ⟨by simp [ha, hz], by simp [hau]⟩] at hb
    simp at hb
  simp [upTo_len] at this
  omega
theorem canon {a b : SetV} (ca : CheckP a) (cb : CheckP b) (hm : a.m = b.m) (h : ∀ v, valueB v = true → hasRaw a v = hasRaw b v) : a = b := by
  have h' : ∀ v, valueB v = true → hasRaw b v = hasRaw a v := fun v hv => (h v hv).symm
  have hn : a.n = b.n := by
    cases e : a.n <;> cases f : b.n
    · rfl
    · exact (fin_cof ca cb e f h).elim
    · exact (fin_cof cb ca f e h').elim
    · rfl
  have hu : a.u = b.u := by
    cases e : a.u <;> cases f : b.u
    · rfl
    · have := cb.un f
      exact (cof_range ca (by rw [hn, this]) e f h).elim
    · have := ca.un e
      exact (cof_range cb (by rw [← hn, this]) f e h').elim
    · rfl
  have lo_in : ∀ {a b : SetV}, CheckP a → a.u = true → b.u = true → (∀ v, valueB v = true → hasRaw a v = hasRaw b v) → b.lo ≤ a.lo ∧ a.hi ≤ b.hi := by
    intro a b ca hau hbu h
    have cu := ca.u hau
    have hin : ∀ n, (n = a.lo ∨ n = a.hi) → b.lo ≤ n ∧ n ≤ b.hi := fun n hn => by
      have hnum := numS_itoa (n := n) (by omega) (by omega)
      have hni : itoa n ∉ a.l := fun hz => by
        obtain ⟨k, hk, h1, h2⟩ := ca.inr hau hz
        rw [hnum] at hk
        simp only [Option.some.injEq] at hk
        omega
      have ht := (hasRaw_iff (s := a) (v := itoa n)).2 ⟨by simp [ca.un hau, hni], fun _ => ⟨n, hnum, by omega, by omega⟩⟩
      rw [h _ (value_num hnum)] at ht
      obtain ⟨k, hk, h1, h2⟩ := (hasRaw_iff.1 ht).2 hbu
      rw [hnum] at hk
      simp only [Option.some.injEq] at hk
      omega
    exact ⟨(hin _ (.inl rfl)).1, (hin _ (.inr rfl)).2⟩
  have hb : a.lo = b.lo ∧ a.hi = b.hi := by
    cases e : a.u with
    | false =>
      have h1 := ca.nu e
      have h2 := cb.nu (by rw [← hu, e])
      omega
    | true =>
      have f : b.u = true := by rw [← hu, e]
      have h1 := lo_in ca e f h
      have h2 := lo_in cb f e h'
      omega
  have sub : ∀ {a b : SetV}, CheckP a → a.n = b.n → a.u = b.u → a.lo = b.lo → a.hi = b.hi → (∀ v, valueB v = true → hasRaw a v = hasRaw b v) → ∀ z, z ∈ a.l → z ∈ b.l := by
    intro a b ca hn hu hlo hhi h z hz
    have hv := ca.val hz
    have he := h z hv
    have hr : a.u = true → ∃ n, numS z = some n ∧ a.lo ≤ n ∧ n ≤ a.hi := fun e => by
      obtain ⟨n, h1, h2, h3⟩ := ca.inr e hz
      exact ⟨n, h1, by omega, by omega⟩
    refine Classical.byContradiction fun hnz => ?_
    cases e : a.n with
    | false =>
      have h1 : hasRaw a z = true := hasRaw_iff.2 ⟨by simp [e, hz], hr⟩
      rw [he] at h1
      have := (hasRaw_iff.1 h1).1
      simp [← hn, e, hnz] at this
    | true =>
      have h1 : hasRaw b z = true := hasRaw_iff.2 ⟨by simp [← hn, e, hnz], fun f => by rw [← hlo, ← hhi]; exact hr (by rw [hu, f])⟩
      rw [← he] at h1
      have := (hasRaw_iff.1 h1).1
      simp [e, hz] at this
  have hl : a.l = b.l := rises_ext ca.rises cb.rises fun z => ⟨sub ca hn hu hb.1 hb.2 h z, sub cb hn.symm hu.symm hb.1.symm hb.2.symm h' z⟩
  exact SetV.eq_iff.2 ⟨hm, hn, hu, hb.1, hb.2, hl⟩
theorem meetN_none {a b : SetV} (h : meetN a b = none) : meetN b a = none := by
  have hk : risingS (a.l ++ b.l) = risingS (b.l ++ a.l) := risingS_congr fun z => by simp [or_comm]
  unfold meetN at h ⊢
  rw [hk] at h
  cases e1 : a.n <;> cases e2 : b.n <;> simp only [e1, e2, Bool.true_eq_false, if_true, if_false, reduceCtorEq] at h ⊢
  cases e3 : a.u <;> cases e4 : b.u <;> simp only [e3, e4, Bool.true_eq_false, and_self, and_true, and_false, if_true, if_false] at h ⊢
  · exact h
  · exact h
  · exact h
  · rw [Int.max_comm, Int.min_comm]; exact h
theorem meet_comm {a b : SetV} (ca : CheckP a) (cb : CheckP b) : meetS a b = meetS b a := by
  rcases meet_spec ca cb with ⟨h1, h2⟩ | ⟨S, ⟨N, h1⟩, h2, c1, m1, r1⟩
  · rcases meet_spec cb ca with ⟨k1, k2⟩ | ⟨T, ⟨N', k1⟩, k2, c2, m2, r2⟩
    · rw [h2, k2]
    · rw [meetN_none h1] at k1; simp at k1
  · rcases meet_spec cb ca with ⟨k1, k2⟩ | ⟨T, ⟨N', k1⟩, k2, c2, m2, r2⟩
    · rw [meetN_none k1] at h1; simp at h1
    · rw [h2, k2, canon c1 c2 (by rw [m1, m2, Bool.and_comm]) fun v hv => by rw [r1 v hv, r2 v hv, Bool.and_comm]]
theorem meet_self {a : SetV} (ca : CheckP a) : meetS a a = (a, 0) := by
  have hk : risingS (a.l ++ a.l) = a.l := rises_ext (risingS_rises _) ca.rises fun z => by rw [risingS_mem]; simp
  rcases meet_spec ca ca with ⟨h1, h2⟩ | ⟨S, _, h2, c1, m1, r1⟩
  · exfalso
    unfold meetN at h1
    have hl := ca.ord.1
    obtain ⟨S, hS⟩ := numbersS_ne (lo := a.lo) (hi := a.hi) hl
    rw [hk, Int.max_self, Int.min_self, hS, if_pos hl] at h1
    cases e1 : a.n <;> cases e2 : a.u <;> simp [e1, e2] at h1
  · rw [h2, canon c1 ca (by rw [m1, Bool.and_self]) fun v hv => by rw [r1 v hv, Bool.and_self]]
theorem meet_assoc {a b c ab bc x y : SetV} (ca : CheckP a) (cb : CheckP b) (cc : CheckP c) (h1 : meetS a b = (ab, 0)) (h2 : meetS b c = (bc, 0)) (h3 : meetS ab c = (x, 0)) (h4 : meetS a bc = (y, 0)) : x = y := by
  have get : ∀ {a b S : SetV}, CheckP a → CheckP b → meetS a b = (S, 0) → CheckP S ∧ S.m = (a.m && b.m) ∧ ∀ v, valueB v = true → hasRaw S v = (hasRaw a v && hasRaw b v) := by
    intro a b S ca cb h
    rcases meet_spec ca cb with ⟨_, k⟩ | ⟨T, _, k, c, m, r⟩
    · rw [k] at h; simp at h
    · rw [k] at h
      simp only [Prod.mk.injEq, and_true] at h
      subst h
      exact ⟨c, m, r⟩
  obtain ⟨c1, m1, r1⟩ := get ca cb h1
  obtain ⟨c2, m2, r2⟩ := get cb cc h2
  obtain ⟨c3, m3, r3⟩ := get c1 cc h3
  obtain ⟨c4, m4, r4⟩ := get ca c2 h4
  exact canon c3 c4 (by rw [m3, m4, m1, m2, Bool.and_assoc]) fun v hv => by rw [r3 v hv, r4 v hv, r1 v hv, r2 v hv, Bool.and_assoc]
end Go.Proofs.AM
namespace Go.Proofs.AM
open Go Go.Lib Cd
theorem CheckP.fs {s : SetV} (h : CheckP s) : FS s := by
  refine ⟨⟨by have := h.ord.1; omega, fun z hz => by have := value_len (h.val hz); unfold SL; omega⟩, ?_, ?_⟩ <;>
  · unfold FI
    cases hu : s.u with
    | false => have := h.nu hu; omega
    | true => have := h.u hu; unfold least most at this; omega
theorem fs_zero : FS zeroS := ⟨⟨by simp [zeroS], by simp [zeroS]⟩, ⟨by decide, by decide⟩, ⟨by decide, by decide⟩⟩
theorem meet_fs (a b : SetV) : FS (meetS a b).1 := by
  by_cases ca : CheckP a
  · by_cases cb : CheckP b
    · rcases meet_spec ca cb with ⟨_, h⟩ | ⟨S, _, h, c, _⟩
      · rw [h]; exact fs_zero
      · rw [h]; exact c.fs
    · unfold meetS
      rw [if_neg (by rw [checkE_0 ca]; simp), if_pos (by rw [checkE_1 cb]; simp)]
      exact fs_zero
  · unfold meetS
    rw [if_pos (by rw [checkE_1 ca]; simp)]
    exact fs_zero
set_option maxRecDepth 100000 in
set_option maxHeartbeats 8000000 in
theorem turns9_ok (R : Ans) (h : C3 R) (a b c : SetV) (ha : FS a) (hb : FS b) (hc : FS c) : AnsF R c9 [setD a, setD b, setD c] (.bool true) := by
  have k1 := h.check23 a ha
  have k2 := h.check23 b hb
  have k3 := h.check23 c hc
  have ca : checkE a = 0 → CheckP a := checkE_iff.1
  have cb : checkE b = 0 → CheckP b := checkE_iff.1
  have cc : checkE c = 0 → CheckP c := checkE_iff.1
  obtain ⟨ea, hea⟩ : ∃ e, e = checkE a := ⟨_, rfl⟩
  obtain ⟨eb, heb⟩ : ∃ e, e = checkE b := ⟨_, rfl⟩
  obtain ⟨ec, hec⟩ : ∃ e, e = checkE c := ⟨_, rfl⟩
  rw [← hea] at k1 ca
  rw [← heb] at k2 cb
  rw [← hec] at k3 cc
  clear hea heb hec
  have k0 := h.live14
  obtain ⟨ab, e1, hab⟩ : ∃ S e, meetS a b = (S, e) := ⟨_, _, rfl⟩
  obtain ⟨bc, e2, hbc⟩ : ∃ S e, meetS b c = (S, e) := ⟨_, _, rfl⟩
  have fab : FS ab := by have := meet_fs a b; rw [hab] at this; exact this
  have fbc : FS bc := by have := meet_fs b c; rw [hbc] at this; exact this
  obtain ⟨x, e3, hx⟩ : ∃ S e, meetS ab c = (S, e) := ⟨_, _, rfl⟩
  obtain ⟨y, e4, hy⟩ : ∃ S e, meetS a bc = (S, e) := ⟨_, _, rfl⟩
  have fx : FS x := by have := meet_fs ab c; rw [hx] at this; exact this
  have fy : FS y := by have := meet_fs a bc; rw [hy] at this; exact this
  have m1 := h.meet24 a b ha hb
  rw [hab] at m1
  have m2 : ea = 0 → eb = 0 → R.v 24 [setD b, setD a] (.tup [setD ab, .int .i64 e1]) := fun h1 h2 => by
    have := h.meet24 b a hb ha
    rwa [← meet_comm (ca h1) (cb h2), hab] at this
  have m3 : ea = 0 → R.v 24 [setD a, setD a] (.tup [setD a, .int .i64 0]) := fun h1 => by
    have := h.meet24 a a ha ha
    rwa [meet_self (ca h1)] at this
  have m4 := h.meet24 b c hb hc
  rw [hbc] at m4
  have m5 := h.meet24 ab c fab hc
  rw [hx] at m5
  have m6 := h.meet24 a bc ha fbc
  rw [hy] at m6
  have s1 := h.same21 ab ab fab fab
  have s2 := h.same21 a a ha ha
  have s3 := h.same21 x y fx fy
  rw [decide_eq_true rfl] at s1 s2
  obtain ⟨q, hq⟩ : ∃ q, q = decide (x = y) := ⟨_, rfl⟩
  rw [← hq] at s3
  have hfin : ea = 0 → eb = 0 → ec = 0 → e1 = 0 → e2 = 0 → e3 = 0 → e4 = 0 → q = true := fun h1 h2 h3 h4 h5 h6 h7 => by
    rw [hq, decide_eq_true_eq]
    subst h4 h5 h6 h7
    exact meet_assoc (ca h1) (cb h2) (cc h3) hab hbc hx hy
  clear hq hab hbc hx hy fab fbc fx fy ca cb cc ha hb hc h
  obtain ⟨x1, _, c1, d1⟩ := setD_eq a
  obtain ⟨x2, _, c2, d2⟩ := setD_eq b
  obtain ⟨x3, _, c3, d3⟩ := setD_eq c
  obtain ⟨x4, _, c4, d4⟩ := setD_eq ab
  obtain ⟨x5, _, c5, d5⟩ := setD_eq bc
  obtain ⟨x6, _, c6, d6⟩ := setD_eq x
  obtain ⟨x7, _, c7, d7⟩ := setD_eq y
  simp only [d1, d2, d3, d4, d5, d6, d7] at k1 k2 k3 m1 m2 m3 m4 m5 m6 s1 s2 s3 ⊢
  clear d1 d2 d3 d4 d5 d6 d7
  refine wpF_sound ⟨rfl, by decide⟩ fun O hO V hV => ?_
  subst hV
  conv => cbv
  refine ⟨c1, _, k1, ?_⟩
  conv => cbv
  rintro (_ | _) h1
  · replace h1 := f_neq hO h1
    conv => cbv
    refine ⟨c2, _, k2, ?_⟩
    conv => cbv
    rintro (_ | _) h2
    · replace h2 := f_neq hO h2
      conv => cbv
      refine ⟨c3, _, k3, ?_⟩
      conv => cbv
      rintro (_ | _) h3
      · replace h3 := f_neq hO h3
        conv => cbv
        refine ⟨c1, c2, _, m1, ?_⟩
        conv => cbv
        refine ⟨c2, c1, _, m2 h1 h2, ?_⟩
        conv => cbv
        refine ⟨c1, c1, _, m3 h1, ?_⟩
        conv => cbv
        rintro (_ | _) h4
        · conv => cbv
          refine ⟨c4, c4, _, s1, ?_⟩
          conv => cbv
          rintro (_ | _) h5
          · conv => cbv
            refine ⟨c1, c1, _, s2, ?_⟩
            conv => cbv
            refine ⟨c2, c3, _, m4, ?_⟩
            conv => cbv
            rintro (_ | _) h6
            · replace h6 := f_neq hO h6
              conv => cbv
              rintro (_ | _) h7
              · replace h7 := f_neq hO h7
                conv => cbv
                refine ⟨c4, c3, _, m5, ?_⟩
                conv => cbv
                refine ⟨c1, c5, _, m6, ?_⟩
                conv => cbv
                refine ⟨_, k0, ?_⟩
                conv => cbv
                rintro (_ | _) h8
                · replace h8 := f_neq hO h8
                  conv => cbv
                  rintro (_ | _) h9
                  · replace h9 := f_neq hO h9
                    conv => cbv
                    refine ⟨c6, c7, _, s3, ?_⟩
                    rw [hfin h1 h2 h3 h6 h7 h8 h9]
                    conv => cbv
                    trivial
                  · conv => cbv
                    trivial
                · conv => cbv
                  trivial
              · conv => cbv
                refine ⟨_, k0, ?_⟩
                conv => cbv
                trivial
            · conv => cbv
              refine ⟨_, k0, ?_⟩
              conv => cbv
              trivial
          · conv => cbv
            exfalso; exact t_neq hO h5 rfl
        · conv => cbv
          exfalso; exact t_neq hO h4 rfl
      · conv => cbv
        refine ⟨_, k0, ?_⟩
        conv => cbv
        trivial
    · conv => cbv
      refine ⟨_, k0, ?_⟩
      conv => cbv
      trivial
  · conv => cbv
    refine ⟨_, k0, ?_⟩
    conv => cbv
    trivial
end Go.Proofs.AM
