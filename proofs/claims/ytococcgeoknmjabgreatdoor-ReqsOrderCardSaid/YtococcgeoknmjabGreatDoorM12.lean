/- Part 12 of the lemmas: BTryLcc, AMSort, AMGrow, BTryLbb, PWb, PWc, PWd, BLb, BPWa, BOa, BOb, BOc, BOe, PXa, PXb. -/
import Derived.Shelf.LaysM
import Derived.Shelf.LaysC
import Derived.Shelf.SlSortCmp.NoneTotal
import Derived.Shelf.Spec.SlicesGrow
import Derived.Ground.SlsfProg
import Derived.Ground.Names8Prog
import Derived.Test.YtococcgeoknmjabGreatDoorProg
import Derived.Test.YtococcgeoknmjabGreatDoorM07
import Derived.Shelf.Small.Strs
import Derived.Test.YtococcgeoknmjabGreatDoorM10
import Derived.Test.YtococcgeoknmjabGreatDoorM09
import Derived.Test.YtococcgeoknmjabGreatDoorM11
import Derived.Test.YtococcgeoknmjabGreatDoorM08
namespace Go.Proofs
open Go.Shelf
def Tryz.sortF_ren : Go.Shelf.Ren := ⟨fun | 6 => 18 | 15 => 34 | 14 => 33 | 28 => 52 | 29 => 53 | 20 => 44 | 21 => 45 | 22 => 46 | 23 => 47 | 24 => 48 | 25 => 49 | 26 => 50 | 27 => 51 | 46 => 64 | 47 => 65 | 48 => 66 | 49 => 67 | 50 => 68 | 57 => 81 | n => n, fun | 22 => 30 | 24 => 37 | 25 => 60 | 3 => 3 | 39 => 77 | 0 => 0 | 53 => 102 | 55 => 104 | 4 => 4 | 46 => 95 | 45 => 94 | 50 => 99 | 5 => 5 | 9 => 9 | 66 => 109 | 70 => 113 | 76 => 129 | 77 => 130 | n => n, fun | n => n⟩
theorem Tryz.sortF : Go.Proofs.SlLaysF0.n6 Tryz.prog Tryz.sortF_ren := {
  mixed := by kernel_rfl
  f6 := ⟨Tryz.f18.name, by decide, Tryz.func18.trans (congrArg some (by kernel_rfl))⟩
  f14 := ⟨Tryz.f33.name, by decide, Tryz.func33.trans (congrArg some (by kernel_rfl))⟩
  f15 := Tryz.func34.trans (congrArg some (by kernel_rfl))
  f20 := ⟨Tryz.f44.name, by decide, Tryz.func44.trans (congrArg some (by kernel_rfl))⟩
  f21 := ⟨Tryz.f45.name, by decide, Tryz.func45.trans (congrArg some (by kernel_rfl))⟩
  f22 := ⟨Tryz.f46.name, by decide, Tryz.func46.trans (congrArg some (by kernel_rfl))⟩
  f23 := ⟨Tryz.f47.name, by decide, Tryz.func47.trans (congrArg some (by kernel_rfl))⟩
  f24 := ⟨Tryz.f48.name, by decide, Tryz.func48.trans (congrArg some (by kernel_rfl))⟩
  f25 := ⟨Tryz.f49.name, by decide, Tryz.func49.trans (congrArg some (by kernel_rfl))⟩
  f26 := ⟨Tryz.f50.name, by decide, Tryz.func50.trans (congrArg some (by kernel_rfl))⟩
  f27 := ⟨Tryz.f51.name, by decide, Tryz.func51.trans (congrArg some (by kernel_rfl))⟩
  f28 := Tryz.func52.trans (congrArg some (by kernel_rfl))
  f29 := Tryz.func53.trans (congrArg some (by kernel_rfl))
  f46 := ⟨Tryz.f64.name, by decide, Tryz.func64.trans (congrArg some (by kernel_rfl))⟩
  f47 := Tryz.func65.trans (congrArg some (by kernel_rfl))
  f48 := Tryz.func66.trans (congrArg some (by kernel_rfl))
  f49 := ⟨Tryz.f67.name, by decide, Tryz.func67.trans (congrArg some (by kernel_rfl))⟩
  f50 := ⟨Tryz.f68.name, by decide, Tryz.func68.trans (congrArg some (by kernel_rfl))⟩
  f57 := ⟨Tryz.f81.name, by decide, Tryz.func81.trans (congrArg some (by kernel_rfl))⟩
  t0 := Tryz.underlying0
  a0 := Tryz.isAgg0
  z0 := Tryz.sizeOf0
  v0 := Tryz.zeroValue0
  t3 := Tryz.underlying3
  a3 := Tryz.isAgg3
  z3 := Tryz.sizeOf3
  v3 := Tryz.zeroValue3
  t4 := Tryz.underlying4
  a4 := Tryz.isAgg4
  z4 := Tryz.sizeOf4
  v4 := Tryz.zeroValue4
  t5 := Tryz.underlying5
  a5 := Tryz.isAgg5
  z5 := Tryz.sizeOf5
  v5 := Tryz.zeroValue5
  t9 := Tryz.underlying9
  a9 := Tryz.isAgg9
  z9 := Tryz.sizeOf9
  v9 := Tryz.zeroValue9
  t22 := Tryz.underlying30
  a22 := Tryz.isAgg30
  z22 := Tryz.sizeOf30
  v22 := Tryz.zeroValue30
  t25 := Tryz.underlying60
  a25 := Tryz.isAgg60
  z25 := Tryz.sizeOf60
  v25 := Tryz.zeroValue60
  t39 := Tryz.underlying77
  a39 := Tryz.isAgg77
  z39 := Tryz.sizeOf77
  v39 := Tryz.zeroValue77
  t45 := Tryz.underlying94
  a45 := Tryz.isAgg94
  z45 := Tryz.sizeOf94
  v45 := Tryz.zeroValue94
  t46 := Tryz.underlying95
  a46 := Tryz.isAgg95
  z46 := Tryz.sizeOf95
  v46 := Tryz.zeroValue95
  t50 := Tryz.underlying99
  a50 := Tryz.isAgg99
  z50 := Tryz.sizeOf99
  v50 := Tryz.zeroValue99
  t53 := Tryz.underlying102
  a53 := Tryz.isAgg102
  z53 := Tryz.sizeOf102
  v53 := Tryz.zeroValue102
  t55 := Tryz.underlying104
  a55 := Tryz.isAgg104
  z55 := Tryz.sizeOf104
  v55 := Tryz.zeroValue104
  t66 := Tryz.underlying109
  a66 := Tryz.isAgg109
  z66 := Tryz.sizeOf109
  v66 := Tryz.zeroValue109
  t70 := Tryz.underlying113
  a70 := Tryz.isAgg113
  z70 := Tryz.sizeOf113
  v70 := Tryz.zeroValue113
  t76 := Tryz.underlying129
  a76 := Tryz.isAgg129
  z76 := Tryz.sizeOf129
  v76 := Tryz.zeroValue129
  t77 := Tryz.underlying130
  a77 := Tryz.isAgg130
  z77 := Tryz.sizeOf130
  v77 := Tryz.zeroValue130 }
def Tryz.growL_ren : Go.Shelf.Ren := ⟨fun | 4 => 38 | n => n, fun | 22 => 22 | 25 => 44 | 3 => 3 | 4 => 4 | 9 => 9 | 20 => 20 | 0 => 0 | n => n, fun | n => n⟩
theorem Tryz.growL : Go.Proofs.Lays8.n4 Tryz.prog Tryz.growL_ren := {
  mixed := by kernel_rfl
  f4 := ⟨Tryz.f38.name, by decide, Tryz.func38.trans (congrArg some (by kernel_rfl))⟩
  t0 := Tryz.underlying0
  a0 := Tryz.isAgg0
  z0 := Tryz.sizeOf0
  v0 := Tryz.zeroValue0
  t3 := Tryz.underlying3
  a3 := Tryz.isAgg3
  z3 := Tryz.sizeOf3
  v3 := Tryz.zeroValue3
  t4 := Tryz.underlying4
  a4 := Tryz.isAgg4
  z4 := Tryz.sizeOf4
  v4 := Tryz.zeroValue4
  t9 := Tryz.underlying9
  a9 := Tryz.isAgg9
  z9 := Tryz.sizeOf9
  v9 := Tryz.zeroValue9
  t20 := Tryz.underlying20
  a20 := Tryz.isAgg20
  z20 := Tryz.sizeOf20
  v20 := Tryz.zeroValue20
  t22 := Tryz.underlying22
  a22 := Tryz.isAgg22
  z22 := Tryz.sizeOf22
  v22 := Tryz.zeroValue22 }
end Go.Proofs
namespace Go.Proofs.AM
open Go Go.RowKit Go.Shelf Go.Sort
theorem perm_lift {α β : Type} (f : α → β) : ∀ {m l : List β}, m.Perm l → ∀ p : List α, p.map f = m → ∃ p', p.Perm p' ∧ p'.map f = l
  | _, _, .nil, p, hp => by
    have : p = [] := by simpa using hp
    subst this
    exact ⟨[], .nil, rfl⟩
  | _, _, .cons x h, p, hp => by
    cases p with
    | nil => simp at hp
    | cons a p =>
      simp only [List.map_cons, List.cons.injEq] at hp
      obtain ⟨rfl, hp⟩ := hp
      obtain ⟨p', h1, h2⟩ := perm_lift f h p hp
      exact ⟨a :: p', h1.cons a, by rw [List.map_cons, h2]⟩
  | _, _, .swap x y l, p, hp => by
    cases p with
    | nil => simp at hp
    | cons a p =>
      cases p with
      | nil => simp at hp
      | cons b p =>
        simp only [List.map_cons, List.cons.injEq] at hp
        obtain ⟨rfl, rfl, rfl⟩ := hp
        exact ⟨b :: a :: p, .swap b a p, rfl⟩
  | _, _, .trans h1 h2, p, hp => by
    obtain ⟨p1, q1, e1⟩ := perm_lift f h1 p hp
    obtain ⟨p2, q2, e2⟩ := perm_lift f h2 p1 e1
    exact ⟨p2, q1.trans q2, e2⟩
structure Row (k : Nat) (W : List Value → Prop) where
  cs : List Value
  len : cs.length = k
  one : ∀ v ∈ cs, v.oneCell' = true
  wf : W cs
section
variable {c : Cx} {k : Nat} {W : List Value → Prop}
theorem rel_rows : ∀ {xs : List D} {vals : List Value}, REl c k xs vals → (∀ x ∈ xs, ∀ ev : Value, RV c x ev → ev.cells.size = k → W ev.cells.toList ∧ ev = .agg ev.cells) →
    ∃ p : List (D × Row k W), p.map (·.1) = xs ∧ (p.map fun z => z.2.cs).flatten = vals ∧ ∀ z ∈ p, RV c z.1 (.agg z.2.cs.toArray)
  | [], vals, h, _ => by
    simp only [REl] at h
    subst h
    exact ⟨[], rfl, rfl, by simp⟩
  | x :: xs, vals, h, hw => by
    simp only [REl] at h
    obtain ⟨ev, rest, rfl, h1, h2, h3, h4⟩ := h
    obtain ⟨hW, he⟩ := hw x (by simp) ev h2 h1
    obtain ⟨p, p1, p2, p3⟩ := rel_rows h4 fun y hy => hw y (by simp [hy])
    refine ⟨(x, ⟨ev.cells.toList, by simpa using h1, h3, hW⟩) :: p, by simp [p1], by simp [p2], fun z hz => ?_⟩
    rcases List.mem_cons.1 hz with rfl | hz
    · simp only [Array.toArray_toList]
      rw [← he]; exact h2
    · exact p3 z hz
theorem rows_rel : ∀ p : List (D × Row k W), (∀ z ∈ p, RV c z.1 (.agg z.2.cs.toArray)) → REl c k (p.map (·.1)) (p.map fun z => z.2.cs).flatten
  | [], _ => by simp [REl]
  | z :: p, h => by
    simp only [List.map_cons, List.flatten_cons, REl]
    exact ⟨.agg z.2.cs.toArray, _, by simp [Value.cells], by simp [Value.cells, z.2.len], h z (by simp), by simpa [Value.cells] using z.2.one, rows_rel p fun y hy => h y (by simp [hy])⟩
end
theorem flatten_get {α : Type} {k : Nat} (hk : 0 < k) : ∀ (l : List (List α)), (∀ x ∈ l, x.length = k) → ∀ t, l.flatten[t]? = (l[t / k]?).bind (·[t % k]?)
  | [], _, t => by simp
  | x :: l, h, t => by
    have hx := h x (by simp)
    rw [List.flatten_cons, List.getElem?_append]
    split
    · rename_i hlt
      rw [Nat.div_eq_of_lt (by omega), Nat.mod_eq_of_lt (by omega)]
      rfl
    · rename_i hge
      rw [flatten_get hk l (fun y hy => h y (by simp [hy])), hx]
      rw [show t / k = (t - k) / k + 1 from Nat.div_eq_sub_div hk (by omega)]
      rw [show (t - k) % k = t % k by rw [← Nat.mod_eq_sub_mod (by omega)]]
      rfl
theorem flatten_len {α : Type} {k : Nat} : ∀ (l : List (List α)), (∀ x ∈ l, x.length = k) → l.flatten.length = l.length * k
  | [], _ => by simp
  | x :: l, h => by
    rw [List.flatten_cons, List.length_append, flatten_len l fun y hy => h y (by simp [hy]), h x (by simp), List.length_cons, Nat.add_mul]
    omega
section
variable {P : Program} {ρ : Ren} {k : Nat} {W : List Value → Prop} [Inhabited (Row k W)]
theorem flatK_rows (hk : 0 < k) (l : List (Row k W)) : (flatK Row.cs k l.toArray).toList = (l.map Row.cs).flatten := by
  apply List.ext_getElem?
  intro t
  have hl : ∀ x ∈ l.map Row.cs, x.length = k := fun x hx => by
    obtain ⟨y, _, rfl⟩ := List.mem_map.1 hx
    exact y.len
  rw [flatten_get hk _ hl]
  by_cases ht : t < l.length * k
  · have h1 := get_flatK Row.cs k l.toArray t (by simpa using ht)
    have hd : t / k < l.length := Nat.div_lt_of_lt_mul (by rw [Nat.mul_comm]; exact ht)
    have hm : t % k < k := Nat.mod_lt _ hk
    have hs : t < (flatK Row.cs k l.toArray).size := by simpa using ht
    rw [Array.getElem?_toList, Array.getElem?_eq_getElem hs, ← getElem!_pos _ t hs, h1]
    rw [getElem!_pos l.toArray (t / k) (by simpa using hd)]
    rw [getElem!_pos _ (t % k) (by rw [Row.len]; exact hm)]
    simp [List.getElem?_eq_getElem hd, List.getElem?_eq_getElem (show t % k < (l[t / k]).cs.length by rw [Row.len]; exact hm)]
  · rw [List.getElem?_eq_none (by simp; omega), List.getElem?_eq_none (l := l.map Row.cs) (by simp; exact (Nat.le_div_iff_mul_le hk).2 (by omega))]
    rfl
theorem put_heap {w : World} {b : Nat} {cur : Array Value} {e : TypeId} (hh : w.heap[b]? = some (.cells cur e (0, 0))) (F : Array Value) (hF : F.size ≤ cur.size) :
    ∃ cur', (putRow id w b 0 F).heap[b]? = some (.cells cur' e (0, 0)) ∧ cur'.size = cur.size ∧ cur'.toList.take F.size = F.toList ∧ ∀ b', b' ≠ b → (putRow id w b 0 F).heap[b']? = w.heap[b']? := by
  refine ⟨putCells id 0 F cur, ?_, by simp [putCells], ?_, fun b' hb => ?_⟩
  · simp [putRow, mapBlock, Array.getElem?_modify, hh, onCells]
  · apply List.ext_getElem?
    intro t
    rw [List.getElem?_take]
    split
    · rename_i ht
      rw [Array.getElem?_toList, Array.getElem?_toList]
      simp only [putCells, Array.getElem?_mapIdx]
      rw [Array.getElem?_eq_getElem (show t < cur.size by omega), Array.getElem?_eq_getElem ht]
      simp [ht]
    · rename_i ht
      rw [List.getElem?_eq_none (by simp; omega)]
  · simp [putRow, mapBlock, Array.getElem?_modify, Ne.symm hb]
theorem sort_s {G : World → Prop} (L : SlLaysF0.n6 P ρ) (hent : Enters P (ρ.f 6)) (hk : 0 < k) (aE : ∀ w, (isAgg (ρ.t 24)).run P w = .ok true w) (zE : ∀ w, (Go.sizeOf (ρ.t 24)).run P w = .ok k w) (e : Nat)
    (cf : Row k W → Row k W → Int) (hO : SWO (ltOf cf)) (g : Nat) (eg : ∀ args w, (callFunc g args).run P w = .ok (.enter g args) w)
    (hcmp : ∀ (x y : Row k W) (w : World), Calls P g #[.agg x.cs.toArray, .agg y.cs.toArray] w fun e w' => e = .returned (.int .i64 (cf x y)) ∧ ∃ q os', w' = grow (w.drewN q) os')
    (lt : D → D → Bool) (q gen cb : Nat) (xs : List D) (hn : xs.length < 4611686018427387904)
    (hW : ∀ (c : Cx), ∀ x ∈ xs, ∀ ev : Value, RV c x ev → ev.cells.size = k → W ev.cells.toList ∧ ev = .agg ev.cells)
    (hlt : ∀ (c : Cx) (x y : D) (a b : Row k W), x ∈ xs → y ∈ xs → RV c x (.agg a.cs.toArray) → RV c y (.agg b.cs.toArray) → lt x y = ltOf cf a b)
    (hex : ∃ ys, xs.Perm ys ∧ ∀ (i j : Nat) x y, i < j → ys[i]? = some x → ys[j]? = some y → lt y x = false) :
    SCall (PR P G) cb (ρ.f 6) [.own q gen, .fn g [] []] [(q, ⟨gen, .rw, .arr k e, xs⟩)]
      (fun r kn => r = .tup [] ∧ ∃ ys, xs.Perm ys ∧ (∀ (i j : Nat) x y, i < j → ys[i]? = some x → ys[j]? = some y → lt y x = false) ∧ kn = [(q, ⟨gen, .rw, .arr k e, ys⟩)]) := by
  intro bx hbx
  have hb : bx q = ⟨gen, .rw, .arr k e, xs⟩ := hbx q _ (by simp [find])
  refine ⟨fun r bx' => r = .tup [] ∧ ∃ ys, xs.Perm ys ∧ (∀ (i j : Nat) x y, i < j → ys[i]? = some x → ys[j]? = some y → lt y x = false) ∧ bx' = upd bx q ⟨gen, .rw, .arr k e, ys⟩, ⟨hent, ?_⟩, ?_, ?_⟩
  · intro B0 S w0 lc w vs hG hmem hvs
    have hvs0 := hvs
    simp only [RVs, RV] at hvs
    obtain ⟨v, _, e1, ⟨_, _, hv⟩, f, _, rfl, ⟨x1, y1, rfl, hx1, hy1⟩, rfl⟩ := hvs
    have hv' : v = lc q := hv (by show (bx q).gen = gen; rw [hb])
    obtain rfl : x1 = #[] := by simpa using hx1
    obtain rfl : y1 = #[] := by simpa using hy1
    obtain rfl : vs = #[v, .func (.func g) #[] #[]] := by apply Array.toList_inj.1; rw [e1]
    have hbr := hmem.hbx q
    have hbr2 : ∃ vals, 0 < k ∧ w.ownsRow B0 e k (lc q) xs.length vals ∧ REl (cxOf B0 S bx lc w) k xs vals := by
      have := hbr (by show (bx q).st ≠ .dead; rw [hb]; intro h; cases h)
      have hkd : ((cxOf B0 S bx lc w).bx q) = ⟨gen, .rw, .arr k e, xs⟩ := hb
      rw [hkd] at this
      exact this
    obtain ⟨vals, _, ⟨hvl, hown⟩, hrel⟩ := hbr2
    have R := rel_enterS (n := 2) hmem (by simp) hvs0
    rcases hown with ⟨hnil, h0⟩ | ⟨b, cap, cur, hsl, hB, hh, hnc, hcm, hcs, htk⟩
    · have hxs : xs = [] := List.length_eq_zero_iff.1 h0
      subst hxs
      rw [hv', hnil]
      refine (AnyF.slices_SortFunc_none (P := P) (ρ := ρ) { L with } none 0 _ w).mono ?_
      rintro ex w' ⟨rfl, rfl⟩
      have hup : upd bx q ⟨gen, .rw, .arr k e, []⟩ = bx := by
        funext i
        by_cases hi : i = q
        · subst hi; rw [upd_same, hb]
        · rw [upd_ne hi]
      exact ⟨.tup [], bx, .tuple #[], lc, ⟨rfl, [], .nil, by simp, hup.symm⟩, rfl, hmem, Keeps.refl _, by simp [RV, RVs]⟩
    · obtain ⟨p, hp1, hp2, hp3⟩ := rel_rows (k := k) (W := W) hrel fun x hx ev h1 h2 => hW _ x hx ev h1 h2
      have hpl : p.length = xs.length := by rw [← hp1, List.length_map]
      obtain ⟨d, hd⟩ : ∃ d : Array (Row k W), d = (p.map (·.2)).toArray := ⟨_, rfl⟩
      have hds : d.size = xs.length := by rw [hd]; simp [hpl]
      have hflat : (flatK Row.cs k d).toList = vals := by
        rw [hd, flatK_rows hk, List.map_map]
        exact hp2
      have hcur : xs.length * k ≤ cur.size := by rw [hcs]; exact Nat.mul_le_mul_right _ hnc
      have hH : HoldsK Row.cs k w b 0 d := by
        intro j hj
        have hj' : j < xs.length * k := by simpa [hds] using hj
        have hget : cur[j]? = some (flatK Row.cs k d)[j]! := by
          have e2 : (cur.toList.take (xs.length * k))[j]? = cur[j]? := by rw [List.getElem?_take, if_pos hj', Array.getElem?_toList]
          rw [← e2, htk, ← hflat, Array.getElem?_toList, Array.getElem?_eq_getElem hj, getElem!_pos _ j hj]
        refine ⟨?_, ?_⟩
        · simp only [World.cell?, hh, Nat.zero_add]
          simpa using hget
        · simp only [World.frozen?, hh]
          simp
      rw [hv', hsl, ← hds]
      refine (AnyQ.slices_SortFunc (P := P) (ρ := ρ) L k aE zE Row.cs (fun x => x.len) (fun x => x.one) cf hO g #[] b 0 cap d w eg (fun m os dk hs x y => hcmp x y _) hH (Array.getElem?_eq_some_iff.1 hh).1 (by rw [hds]; exact hn)).mono ?_
      rintro ex w' ⟨rfl, d', n', os, ⟨hP1, _, hP2⟩, hS, rfl⟩
      have hperm : (p.map (·.2)).Perm d'.toList := by
        have : d'.toList.Perm d.toList := by
          rw [Array.extract_eq_self_of_le (by omega), Array.extract_eq_self_of_le (by omega)] at hP2
          exact hP2
        rw [hd] at this
        simpa using this.symm
      obtain ⟨p', hq1, hq2⟩ := perm_lift (·.2) hperm p rfl
      have hys : xs.Perm (p'.map (·.1)) := by rw [← hp1]; exact hq1.map _
      have hp3' : ∀ z ∈ p', RV (cxOf B0 S bx lc w) z.1 (.agg z.2.cs.toArray) := fun z hz => hp3 z (hq1.mem_iff.2 hz)
      have hl' : p'.length = xs.length := by rw [← hpl]; exact hq1.length_eq.symm
      have hsorted : ∀ (i j : Nat) x y, i < j → (p'.map (·.1))[i]? = some x → (p'.map (·.1))[j]? = some y → lt y x = false := by
        intro i j x y hij hi hj
        rw [List.getElem?_map, Option.map_eq_some_iff] at hi hj
        obtain ⟨zi, hzi, rfl⟩ := hi
        obtain ⟨zj, hzj, rfl⟩ := hj
        have hj2 := (List.getElem?_eq_some_iff.1 hzj).1
        have at' : ∀ (i : Nat) z, p'[i]? = some z → d'[i]! = z.2 := fun i z hz => by
          have h1 : d'.toList[i]? = some z.2 := by rw [← hq2, List.getElem?_map, hz]; rfl
          have h2 := (List.getElem?_eq_some_iff.1 h1).1
          rw [getElem!_pos d' i (by simpa using h2)]
          rw [Array.getElem?_toList, Array.getElem?_eq_getElem (by simpa using h2)] at h1
          exact Option.some.inj h1
        rw [hlt (cxOf B0 S bx lc w) zj.1 zi.1 zj.2 zi.2 (by rw [← hp1]; exact List.mem_map.2 ⟨zj, hq1.mem_iff.2 (List.mem_of_getElem? hzj), rfl⟩) (by rw [← hp1]; exact List.mem_map.2 ⟨zi, hq1.mem_iff.2 (List.mem_of_getElem? hzi), rfl⟩) (hp3' zj (List.mem_of_getElem? hzj)) (hp3' zi (List.mem_of_getElem? hzi))]
        have := hS i j (Nat.zero_le _) hij (by rw [hds]; omega)
        rwa [at' i zi hzi, at' j zj hzj] at this
      have hd's : d'.size = xs.length := hP1.trans hds
      obtain ⟨cur', g1, g2, g3, g4⟩ := put_heap (w := Sort.ahead w n') (b := b) hh (flatK Row.cs k d') (by simp [hd's]; exact hcur)
      have hflat' : (flatK Row.cs k d').toList = (p'.map fun z => z.2.cs).flatten := by
        have : d' = (p'.map (·.2)).toArray := by apply Array.toList_inj.1; rw [hq2]
        rw [this, flatK_rows hk, List.map_map]
        rfl
      obtain ⟨R1, hkp⟩ := R.turned (k := q) (by show (bx q).st = .rw; rw [hb]) ⟨gen, .rw, .arr k e, p'.map (·.1)⟩ (by show gen = (bx q).gen ∧ _ = (bx q).kd ∧ _; rw [hb]; exact ⟨rfl, rfl, rfl⟩) (w' := putRowK Row.cs k (Sort.ahead w n') b 0 d')
        ⟨rfl, rfl, rfl⟩ (by simp [putRowK]) (fun b' hb' => g4 b' fun hbb => hb' (by rw [hsl, hbb]; rfl))
        (fun b' mes clk hm => by
          refine ⟨mes, clk, ?_, Nat.le_refl _, fun e he _ => ⟨e, he, rfl, rfl⟩⟩
          rw [← hm]
          refine g4 b' fun hbb => ?_
          rw [hbb, hh] at hm
          simp at hm)
        (fun hkp => by
          refine BR.arr (by show (upd bx q _ q).kd = _; rw [upd_same]) hk (xs := (p'.map fun z => z.2.cs).flatten) ?_ ?_
          · show World.ownsRow _ B0 e k (lc q) (upd bx q _ q).cs.length _
            rw [upd_same]
            refine ⟨?_, .inr ⟨b, cap, cur', ?_, hB, g1, ?_, hcm, by rw [g2, hcs], ?_⟩⟩
            · rw [← hflat']; simp [hd's, hl']
            · rw [hsl]; simp [hl']
            · simpa [hl'] using hnc
            · rw [← hflat', ← g3]; simp [hd's, hl']
          · show REl _ k (upd bx q _ q).cs _
            rw [upd_same]
            exact rows_rel p' fun z hz => RV.keep hkp _ _ (hp3' z hz))
      have hbl : Below (putRowK Row.cs k (Sort.ahead w n') b 0 d').heap.size (putRowK Row.cs k (Sort.ahead w n') b 0 d') (Sort.grow (putRowK Row.cs k (Sort.ahead w n') b 0 d') os) :=
        ⟨rfl, rfl, rfl, by simp [Sort.grow], fun i hi => by
          show (_ ++ os)[i]? = _
          rw [Array.getElem?_append_left hi]⟩
      have R2 := R1.world hbl
      exact ⟨.tup [], upd bx q ⟨gen, .rw, .arr k e, p'.map (·.1)⟩, .tuple #[], lc, ⟨rfl, _, hys, hsorted, rfl⟩, rfl, R2.mem, hkp.trans (keeps_world (s := ⟨tm0 [D.own q gen, .fn g [] []], upd bx q ⟨gen, .rw, .arr k e, p'.map (·.1)⟩⟩) hbl), by simp [RV, RVs]⟩
  · obtain ⟨ys, h1, h2⟩ := hex
    exact ⟨_, _, rfl, ys, h1, h2, rfl⟩
  · rintro r bx' ⟨rfl, ys, h1, h2, rfl⟩
    refine ⟨_, ⟨rfl, ys, h1, h2, rfl⟩, fun i b hi => ?_, fun i hi hi2 => ?_⟩
    · simp only [find] at hi
      split at hi
      · rename_i hq
        rw [Nat.beq_eq] at hq
        simp only [Option.some.injEq] at hi
        subst hq hi
        exact upd_same ..
      · simp at hi
    · simp only [find] at hi2 ⊢
      split at hi2
      · simp at hi2
      · rename_i hq
        have hne : i ≠ q := fun h => by subst h; rw [Nat.beq_refl] at hq; cases hq
        exact ⟨upd_ne hne, by simp⟩
end
end Go.Proofs.AM
namespace Go.Proofs.AM
open Go Go.RowKit Go.Shelf
section
variable {P : Program} {ρ : Ren} {G : World → Prop}
theorem grow_none (L : Lays8.n4 P ρ) (hent : Enters P (ρ.f 4)) (k cb : Nat) : SCall (PR P G) cb (ρ.f 4) [.sl k true [], .int .i64 0] [] (fun r kn => r = .sl k true [] ∧ kn = []) := by
  intro bx _
  refine ⟨fun r bx' => r = .sl k true [] ∧ bx' = bx, ⟨hent, ?_⟩, ⟨_, _, rfl, rfl⟩, ?_⟩
  · intro B0 S w0 lc w vs hG hmem hvs
    simp only [RVs, RV] at hvs
    obtain ⟨v, _, e1, ⟨_, _, _, _, hnil, _⟩, _, _, rfl, rfl, rfl⟩ := hvs
    obtain rfl := hnil trivial
    obtain rfl : vs = #[.slice none 0 0, .int .i64 0] := by apply Array.toList_inj.1; rw [e1]
    refine (Any8.slices_Grow_room L none 0 0 0 w (by omega) (by omega) (by omega) (by omega)).mono ?_
    rintro ex w' ⟨rfl, rfl⟩
    exact ⟨_, _, _, lc, ⟨rfl, rfl⟩, rfl, hmem, Keeps.refl _, by unfold RV; exact ⟨none, 0, rfl, Nat.le_refl _, fun _ => rfl, fun _ => ⟨rfl, rfl⟩, by unfold RSl; trivial⟩⟩
  · rintro r bx' ⟨rfl, rfl⟩
    exact ⟨[], ⟨rfl, rfl⟩, by simp [find], fun i _ _ => ⟨rfl, by simp [find]⟩⟩
theorem grow_new (L : Lays8.n4 P ρ) (hent : Enters P (ρ.f 4)) (i0 : TypeInfo) (z : Value) (hi0 : P.info? (ρ.t 25) = some i0) (hz0 : i0.zero = some z) (hs0 : 0 < i0.size) (hzs : z.cells.size = i0.size) (hb : 1000 * i0.bytes ≤ 140737488355328)
    (q cb : Nat) (hq : cb ≤ q) (n : Int) (h0 : 0 < n) (hn : n ≤ 1000) :
    SCall (PR P G) cb (ρ.f 4) [.sl i0.size true [], .int .i64 n] [] (fun r kn => ∃ g, r = .own q g ∧ kn = [(q, ⟨g, .rw, .arr i0.size (ρ.t 25), []⟩)]) := by
  intro bx _
  refine ⟨fun r bx' => r = .own q ((bx q).gen + 1) ∧ bx' = upd bx q ⟨(bx q).gen + 1, .rw, .arr i0.size (ρ.t 25), []⟩, ⟨hent, ?_⟩, ⟨_, _, rfl, rfl⟩, ?_⟩
  · intro B0 S w0 lc w vs hG hmem hvs
    have hvs0 := hvs
    simp only [RVs, RV] at hvs
    obtain ⟨v, _, e1, ⟨_, _, _, _, hnil, _⟩, _, _, rfl, rfl, rfl⟩ := hvs
    obtain rfl := hnil trivial
    obtain rfl : vs = #[.slice none 0 0, .int .i64 n] := by apply Array.toList_inj.1; rw [e1]
    have R := rel_enterS (n := 2) hmem (by simp) hvs0
    obtain ⟨m, rfl⟩ : ∃ m : Nat, n = m := ⟨n.toNat, by omega⟩
    have hbig : (0 + m) * i0.bytes ≤ 140737488355328 := by
      have : (0 + m) * i0.bytes ≤ 1000 * i0.bytes := Nat.mul_le_mul_right _ (by omega)
      omega
    refine (Any8.slices_Grow_grow L i0 z hi0 hz0 hs0 none 0 0 m [] w (by omega) (by omega) hbig (by omega) (by simp) (fun _ => rfl) (by simp)).mono ?_
    rintro ex w' ⟨rfl, rfl⟩
    obtain ⟨Gc, hGc⟩ : ∃ Gc, Gc = grownCap w (0 + m) 0 (ρ.t 25) := ⟨_, rfl⟩
    have hge : 0 + m ≤ Gc := by rw [hGc]; exact grownCap_ge w _ _ _
    have hle : Gc ≤ maxLen := by rw [hGc]; exact grownCap_le_maxLen w _ _ _ (by unfold maxLen; omega)
    rw [← hGc]
    obtain ⟨cells, hcells⟩ : ∃ c : Array Value, c = ([] : List Value).toArray ++ Builtin.zeroCells z.cells (0 + m - 0) ++ Builtin.zeroCells z.cells (Gc - (0 + m)) := ⟨_, rfl⟩
    have hcs : cells.size = Gc * i0.size := by
      rw [hcells]
      simp only [Array.size_append, size_zeroCells, hzs, List.size_toArray, List.length_nil]
      rw [Nat.zero_add, ← Nat.add_mul]
      congr 1
      omega
    rw [← hcells]
    have hbl : Below w.heap.size w (w.drew.alloc (.cells cells (ρ.t 25))) := (Below.drew (Below.refl _ w)).alloc (Nat.le_refl _) _
    have hB : B0 ≤ w.heap.size := by rw [hmem.hB0]; exact hmem.below.size
    obtain ⟨R1, hk1⟩ := R.newbox (t := 0) (q := q) (by omega) (w' := w.drew.alloc (.cells cells (ρ.t 25))) (old := fun _ => False) ⟨(bx q).gen + 1, .rw, .arr i0.size (ρ.t 25), []⟩ (.slice (some ⟨w.heap.size, 0, none⟩) 0 Gc) (.slice (some ⟨w.heap.size, 0, none⟩) 0 Gc) (.own q ((bx q).gen + 1)) rfl bx (fun k => .inl rfl) (fun k hk => hk.elim) (fun k hk => hk.elim) ⟨rfl, rfl, rfl⟩ hbl.size (fun b hb _ => hbl.block b hb)
      (fun b hb => by
        simp only [blockOf, Option.some.injEq] at hb
        exact .inl (Nat.le_of_eq hb))
      (fun c hw hb hl => by
        simp only [RV]
        rw [hb, hl]
        exact ⟨rfl, Nat.le_refl _, fun _ => rfl⟩)
      (fun hk _ => by
        simp only [cxOf, upd_same]
        refine ⟨[], hs0, ?_, by simp [REl]⟩
        have := World.ownsRow_made (e := ρ.t 25) (size := i0.size) w.drew cells Gc (base := B0) hB hle hcs
        exact this)
    exact ⟨_, _, _, _, ⟨rfl, rfl⟩, rfl, R1.mem, hk1, by
      unfold RV
      simp only [cxOf, upd_same]
      exact ⟨rfl, Nat.le_refl _, fun _ => trivial⟩⟩
  · rintro r bx' ⟨rfl, rfl⟩
    refine ⟨_, ⟨_, rfl, rfl⟩, fun i b hi => ?_, fun i hi _ => ?_⟩
    · simp only [find] at hi
      split at hi
      · rename_i he
        rw [Nat.beq_eq] at he
        simp only [Option.some.injEq] at hi
        subst he hi
        exact upd_same ..
      · simp at hi
    · have hne : i ≠ q := by omega
      refine ⟨upd_ne hne, ?_⟩
      simp only [find]
      split
      · rename_i he
        rw [Nat.beq_eq] at he
        exact absurd he hne
      · rfl
end
end Go.Proofs.AM
namespace Go.Proofs
open Go.Shelf
def Tryz.laysCmp_ren : Go.Shelf.Ren := ⟨fun | 106 => 20 | 213 => 35 | 265 => 54 | n => n, fun | 9 => 9 | 3 => 3 | n => n, fun | n => n⟩
theorem Tryz.laysCmp : Go.Proofs.Lays.n106 Tryz.prog Tryz.laysCmp_ren := {
  mixed := by kernel_rfl
  f106 := Tryz.func20.trans (congrArg some (by kernel_rfl))
  f213 := Tryz.func35.trans (congrArg some (by kernel_rfl))
  f265 := Tryz.func54.trans (congrArg some (by kernel_rfl))
  t3 := Tryz.underlying3
  a3 := Tryz.isAgg3
  z3 := Tryz.sizeOf3
  v3 := Tryz.zeroValue3
  t9 := Tryz.underlying9
  a9 := Tryz.isAgg9
  z9 := Tryz.sizeOf9
  v9 := Tryz.zeroValue9 }
end Go.Proofs
namespace Go.Proofs.AM
open Go Go.Lib
def idxI {α : Type} (p : α → Bool) (l : List α) : Int := match l.findIdx? p with | some k => (k : Int) | none => -1
theorem idxI_none {α : Type} {p : α → Bool} {l : List α} (h : ∀ y ∈ l, p y = false) : idxI p l = -1 := by
  unfold idxI
  rw [List.findIdx?_eq_none_iff.2 (by simpa using h)]
theorem idxI_hit {α : Type} {p : α → Bool} {l : List α} {k : Nat} {y : α} (hy : l[k]? = some y) (hp : p y = true) (h0 : ∀ (j : Nat) z, j < k → l[j]? = some z → p z = false) : idxI p l = k := by
  unfold idxI
  obtain ⟨hk, he⟩ := List.getElem?_eq_some_iff.1 hy
  rw [List.findIdx?_eq_some_iff_getElem.2 ⟨hk, by rw [he]; exact hp, fun j hj => by
    have := h0 j l[j] hj (List.getElem?_eq_getElem (by omega))
    simp [this]⟩]
theorem idxI_any {α : Type} (p : α → Bool) (l : List α) : 0 ≤ idxI p l ↔ l.any p = true := by
  unfold idxI
  cases h : l.findIdx? p with
  | none =>
    have := List.findIdx?_eq_none_iff.1 h
    simp
    simpa using this
  | some k =>
    obtain ⟨hk, hp, _⟩ := List.findIdx?_eq_some_iff_getElem.1 h
    simp
    exact ⟨_, List.getElem_mem hk, hp⟩
theorem hno_step {α : Type} {p : α → Bool} {l : List α} {k : Nat} {y : α} (h : ∀ (j : Nat) z, j < k → l[j]? = some z → p z = false) (hy : l[k]? = some y) (hp : p y = false) : ∀ (j : Nat) z, j < k + 1 → l[j]? = some z → p z = false := fun j z hj hz => by
  rcases Nat.lt_succ_iff_lt_or_eq.1 hj with h1 | rfl
  · exact h j z h1 hz
  · rw [hy] at hz; simp only [Option.some.injEq] at hz; subst hz; exact hp
theorem o_eqc {O : Ops} (hO : O = Ops.std) (neg : Bool) (ts : List (Nat × EqT)) (xs ys : List D) : O .eqc neg ts xs ys = (((eqCells ts xs ys).getD false) != neg) := by subst hO; rfl
theorem bs_beq (a b : Str) : ((⟨⟨a⟩⟩ : ByteArray) == ⟨⟨b⟩⟩) = decide (a = b) := by
  show ((⟨a⟩ : Array UInt8) == ⟨b⟩) = decide (a = b)
  rw [Bool.eq_iff_iff]
  simp
theorem cmp_str (a b : Str) : cmpCell .str (some (mkS a)) (some (mkS b)) = some (decide (a = b)) := by
  show some ((⟨⟨a⟩⟩ : ByteArray) == ⟨⟨b⟩⟩) = _
  rw [bs_beq]
theorem eqc_off {O : Ops} (hO : O = Ops.std) {t : Bool} {x y : OffV} (h : t = O .eqc false [(0, .str), (1, .str), (2, .str)] [mkS x.t, mkS x.z, mkS x.k] [mkS y.t, mkS y.z, mkS y.k]) : t = decide (x = y) := by
  rw [o_eqc hO] at h
  rw [h]
  obtain ⟨a, b, c⟩ := x
  obtain ⟨a', b', c'⟩ := y
  simp [eqCells, cmp_str]
theorem eqc_tol {O : Ops} (hO : O = Ops.std) {t : Bool} {x y : TolV} (h : t = O .eqc false [(0, .str), (1, .str), (2, .bool)] [mkS x.k, mkS x.v, .bool x.y] [mkS y.k, mkS y.v, .bool y.y]) : t = decide (x = y) := by
  rw [o_eqc hO] at h
  rw [h]
  obtain ⟨a, b, c⟩ := x
  obtain ⟨a', b', c'⟩ := y
  have hb : cmpCell .bool (some (.bool c)) (some (.bool c')) = some (decide (c = c')) := by cases c <;> cases c' <;> rfl
  simp [eqCells, cmp_str, hb]
theorem any_take_false {α : Type} {p : α → Bool} {l : List α} {k : Nat} (h : ∀ (j : Nat) z, j < k → l[j]? = some z → p z = false) : (l.take k).any p = false := by
  rw [List.any_eq_false]
  intro x hx
  obtain ⟨j, hj⟩ := List.mem_iff_getElem?.1 hx
  rw [List.getElem?_take] at hj
  split at hj
  · rw [h j x ‹_› hj]; simp
  · simp at hj
theorem any_take_true {α : Type} {p : α → Bool} {l : List α} {k j : Nat} {z : α} (hj : j < k) (hz : l[j]? = some z) (hp : p z = true) : (l.take k).any p = true := by
  rw [List.any_eq_true]
  exact ⟨z, List.mem_iff_getElem?.2 ⟨j, by rw [List.getElem?_take, if_pos hj]; exact hz⟩, hp⟩
theorem dec_comm {α : Type} [DecidableEq α] (a b : α) : decide (a = b) = decide (b = a) := decide_eq_decide.2 eq_comm
noncomputable def cmpS (a b : Str) : Int := if a < b then -1 else if a = b then 0 else 1
noncomputable def ltO (x y : OffV) : Bool := if x.t ≠ y.t then decide (x.t < y.t) else if x.z ≠ y.z then decide (x.z < y.z) else decide (x.k < y.k)
noncomputable def cmpO (x y : OffV) : Int := firstI [cmpS x.t y.t, cmpS x.z y.z, cmpS x.k y.k]
theorem cmpO_lt (x y : OffV) : cmpO x y < 0 ↔ ltO x y = true := by
  unfold cmpO ltO
  simp only [firstI_cons, firstI_nil]
  unfold cmpS
  by_cases h1 : x.t = y.t
  · by_cases h2 : x.z = y.z
    · by_cases h3 : x.k < y.k
      · simp [h1, h2, h3, List.lt_irrefl]
      · by_cases h4 : x.k = y.k <;> simp [h1, h2, h3, h4, List.lt_irrefl]
    · by_cases h3 : x.z < y.z <;> simp [h1, h2, h3, List.lt_irrefl]
  · by_cases h3 : x.t < y.t <;> simp [h1, h3]
def tooE (most : Nat) (n : Nat) (e : Int) : Int := if most < n then 3 else e
noncomputable def reqsE (most : Nat) (l : List ReqV) : Int := tooE most l.length (scanE (atE wrongE l) l.length)
def upE {α : Type} (f : α → List α → Int) (l : List α) (i : Nat) : Int := match l[i]? with | some x => f x (l.take i) | none => 0
theorem upE_some {α : Type} {f : α → List α → Int} {l : List α} {i : Nat} {x : α} (h : l[i]? = some x) : upE f l i = f x (l.take i) := by unfold upE; rw [h]
noncomputable def tolE (t : TolV) (l : List TolV) : Int := if nameB t.k then (if (if t.y then decide (t.v = []) else valueB t.v) then (if l.any fun y => decide (t = y) then 6 else 0) else 20) else 7
noncomputable def tolsE (l : List TolV) : Int := tooE 4 l.length (scanE (upE tolE l) l.length)
noncomputable def tntE (t : LabV) (l : List LabV) : Int := if nameB t.k then (if valueB t.v then (if l.any fun y => decide (y.k = t.k) then 6 else 0) else 20) else 7
noncomputable def tntsE (l : List LabV) : Int := tooE 4 l.length (scanE (upE tntE l) l.length)
noncomputable def offE (o : OffV) (l : List OffV) : Int := if nmB o then (if l.any fun y => decide (o = y) then 6 else 0) else 7
noncomputable def offsE (l : List OffV) : Int := tooE 72 l.length (scanE (upE offE l) l.length)
def zoneS : Str := [122, 111, 110, 101]
def hostS : Str := [104, 111, 115, 116]
noncomputable def termE (k a : Str) : Int := if decide (k = zoneS) || decide (k = hostS) then (if nameB a then 0 else 7) else 1
noncomputable def termsE (l : List LabV) : Int := scanE (atE (fun x => termE x.k x.v) l) l.length
noncomputable def sprE (x : SprV) : Int := if termE x.k x.a = 0 then (if btw x.n 1 16 then 0 else 1) else termE x.k x.a
noncomputable def sprsE (l : List SprV) : Int := scanE (atE sprE l) l.length
noncomputable def allTE (s : List SprV) (n a : List LabV) : Int := if 3 < s.length ∨ 3 < n.length ∨ 3 < a.length then 3 else firstI [sprsE s, termsE n, termsE a]
noncomputable def coolE (x : CoolV) (ah : List CoolV) : Int := if cool1E x = 0 then (match ah.getLast? with | some y => if ltO y.o x.o then 0 else 6 | none => 0) else cool1E x
noncomputable def coolsE (l : List CoolV) : Int := tooE 72 l.length (scanE (upE coolE l) l.length)
theorem take_last {α : Type} {l : List α} {k : Nat} {p : α} (hk : 0 < k) (h : l[k - 1]? = some p) : (l.take k).getLast? = some p := by
  rw [List.getLast?_eq_getElem?, List.length_take]
  have := (List.getElem?_eq_some_iff.1 h).1
  rw [show min k l.length - 1 = k - 1 by omega, List.getElem?_take, if_pos (by omega)]
  exact h
end Go.Proofs.AM
namespace Go.Proofs.AM
open Go Go.Lib
noncomputable def podE (p : PodV) : Int := firstI [wantI (nameB p.name && nameB p.app) 7, amtsE p.n0 p.n1, wantI (btw p.prio (-1000) 1000) 1, reqsE 8 p.reqs, tolsE p.tols, allTE p.spr p.near p.apart, wantI (btw p.since 0 1099511627776) 1, wantI (noneB p.on) 7]
noncomputable def poolE (p : PoolV) : Int := firstI [wantI (nameB p.name) 7, wantI (btw p.weight 0 100) 1, amtsE p.l0 p.l1, reqsE 8 p.reqs, tntsE p.taints, wantI (btw p.gen 0 1099511627776 && (btw p.expire 0 1073741824 && (btw p.budget 0 16 && btw p.merge 0 2))) 1]
noncomputable def claimE (c : ClaimV) : Int := firstI [wantI (nameB c.name && (nameB c.pool && nmB c.off)) 7, amtE c.price, amtsE c.c0 c.c1, offsE c.opts, wantI (btw c.tries 1 32) 1, wantI (decide ((c.id.length : Int) ≤ 16)) 2, wantI (btw c.phase 1 4 && (btw c.gen 0 1099511627776 && btw c.born 0 1099511627776)) 1]
noncomputable def nodeE (x : Str) (ah : List Str) : Int := if nameB x then (match ah.getLast? with | some y => if decide (y < x) then 0 else 6 | none => 0) else 7
noncomputable def cmdE (c : CmdV) : Int := firstI [wantI (btw c.cause 1 4 && btw c.stp 1 3) 1, wantI (decide (c.nodes.length ≤ 4)) 3, wantI (decide (0 < c.nodes.length)) 1, scanE (upE nodeE c.nodes) c.nodes.length, wantI (btw c.til 0 1099511627776) 1, wantI (noneB c.fresh && noneB c.pool) 7, offsE c.opts]
noncomputable def chkE (x : AnyV) : Int := if x.kind = 1 then podE x.pod else if x.kind = 2 then poolE x.pool else if x.kind = 3 then claimE x.claim else if x.kind = 4 then cmdE x.cmd else if x.kind = 5 then cool1E x.cool else 1
theorem firstI_app (a b : List Int) : firstI (a ++ b) = if firstI a = 0 then firstI b else firstI a := by
  induction a with
  | nil => simp
  | cons x r ih =>
    rw [List.cons_append, firstI_cons, firstI_cons, ih]
    by_cases h : x = 0
    · simp [h]
    · simp [h]
def stepE (g : Nat → Int) (e0 e : Int) (k : Nat) : Prop := (k = 0 ∧ e = e0) ∨ (0 < k ∧ e0 = 0 ∧ e = g (k - 1) ∧ ∀ j, j < k - 1 → g j = 0)
theorem stepE_zero {g : Nat → Int} {e0 : Int} : stepE g e0 e0 0 := .inl ⟨rfl, rfl⟩
theorem stepE_next {g : Nat → Int} {e0 e e' : Int} {k : Nat} (h : stepE g e0 e k) (h0 : e = 0) (h1 : e' = g k) : stepE g e0 e' (k + 1) := by
  rcases h with ⟨rfl, rfl⟩ | ⟨h2, h3, h4, h5⟩
  · exact .inr ⟨by omega, h0, by simpa using h1, fun j hj => absurd hj (by omega)⟩
  · refine .inr ⟨by omega, h3, by simpa using h1, fun j hj => ?_⟩
    rcases (by omega : j < k - 1 ∨ j = k - 1) with h6 | rfl
    · exact h5 j h6
    · rw [← h4, h0]
theorem stepE_hit {g : Nat → Int} {e0 e : Int} {k n : Nat} {l : List Int} (h : stepE g e0 e k) (h0 : e ≠ 0) (hk : k ≤ n) : (if e0 = 0 then firstI (scanE g n :: l) else e0) = e := by
  rcases h with ⟨rfl, rfl⟩ | ⟨h2, h3, h4, h5⟩
  · rw [if_neg h0]
  · rw [if_pos h3, show scanE g n = e from scanE_hit (k := k - 1) (by omega) h5 h4 h0, firstI_cons, if_neg h0]
theorem stepE_end {g : Nat → Int} {e0 e : Int} {n : Nat} {l : List Int} (h : stepE g e0 e n) : (if e0 = 0 then firstI (scanE g n :: l) else e0) = firstI (e :: l) := by
  by_cases h0 : e = 0
  · rcases h with ⟨rfl, rfl⟩ | ⟨h2, h3, h4, h5⟩
    · rw [if_pos h0, h0]; rfl
    · rw [if_pos h3, h0, scanE_end fun j hj => by
        rcases (by omega : j < n - 1 ∨ j = n - 1) with h6 | rfl
        · exact h5 j h6
        · rw [← h4, h0]]
  · rw [stepE_hit h h0 (Nat.le_refl _), firstI_cons, if_neg h0]
theorem termsE_one (x : LabV) : termsE [x] = termE x.k x.v := by
  unfold termsE scanE
  simp [atE, firstI_cons]
  by_cases h : termE x.k x.v = 0 <;> simp [h]
end Go.Proofs.AM
namespace Go.Proofs.AM
open Go Go.Lib
theorem coolsE_one (c : CoolV) : coolsE [c] = cool1E c := by
  unfold coolsE tooE scanE
  simp [upE, firstI_cons, coolE]
  by_cases h : cool1E c = 0 <;> simp [h]
theorem scan_zero {g : Nat → Int} {n : Nat} : scanE g n = 0 ↔ ∀ j, j < n → g j = 0 :=
  ⟨fun h j hj => firstI_eq_zero h _ (List.mem_map.2 ⟨j, by simpa using hj, rfl⟩), scanE_end⟩
theorem scan_at {α : Type} {f : α → Int} {l : List α} : scanE (atE f l) l.length = 0 ↔ ∀ x ∈ l, f x = 0 := by
  rw [scan_zero]
  constructor
  · intro h x hx
    obtain ⟨j, hj⟩ := List.mem_iff_getElem?.1 hx
    have := h j (List.getElem?_eq_some_iff.1 hj).1
    rwa [atE_some hj] at this
  · intro h j hj
    rw [atE_some (List.getElem?_eq_getElem hj)]
    exact h _ (List.getElem_mem hj)
theorem scan_up {α : Type} {f : α → List α → Int} {l : List α} : scanE (upE f l) l.length = 0 ↔ ∀ i x, l[i]? = some x → f x (l.take i) = 0 := by
  rw [scan_zero]
  constructor
  · intro h i x hx
    have := h i (List.getElem?_eq_some_iff.1 hx).1
    rwa [upE_some hx] at this
  · intro h j hj
    rw [upE_some (List.getElem?_eq_getElem hj)]
    exact h _ _ (List.getElem?_eq_getElem hj)
theorem too_zero {m n : Nat} {e : Int} : tooE m n e = 0 ↔ n ≤ m ∧ e = 0 := by
  unfold tooE
  split
  · simp; omega
  · simp; omega
def less {α : Type} (n : Nat) (l : List α) : List α := l.take n ++ l.drop (n + 1)
theorem less_erase {α : Type} (n : Nat) (l : List α) : less n l = l.eraseIdx n := (List.eraseIdx_eq_take_drop_succ l n).symm
theorem less_ge {α : Type} {n : Nat} {l : List α} (h : l.length ≤ n) : less n l = l := by
  unfold less
  rw [List.take_of_length_le h, List.drop_eq_nil_of_le (by omega), List.append_nil]
theorem less_get {α : Type} (n : Nat) (l : List α) (i : Nat) : (less n l)[i]? = if i < n then l[i]? else l[i + 1]? := by
  rw [less_erase, List.getElem?_eraseIdx]
theorem less_len {α : Type} (n : Nat) (l : List α) : (less n l).length ≤ l.length := by
  unfold less; simp; omega
theorem less_mem {α : Type} {n : Nat} {l : List α} {x : α} (h : x ∈ less n l) : x ∈ l := by
  rw [less_erase] at h
  exact List.mem_of_mem_eraseIdx h
theorem at_less {α : Type} {f : α → Int} {l : List α} (n : Nat) (h : scanE (atE f l) l.length = 0) : scanE (atE f (less n l)) (less n l).length = 0 :=
  scan_at.2 fun x hx => scan_at.1 h x (less_mem hx)
theorem mem_take {α : Type} {l : List α} {i : Nat} {y : α} : y ∈ l.take i ↔ ∃ j, j < i ∧ l[j]? = some y := by
  rw [List.mem_iff_getElem?]
  constructor
  · rintro ⟨j, hj⟩
    rw [List.getElem?_take] at hj
    split at hj
    · exact ⟨j, ‹_›, hj⟩
    · simp at hj
  · rintro ⟨j, h1, h2⟩
    exact ⟨j, by rw [List.getElem?_take, if_pos h1, h2]⟩
theorem up_less {α : Type} {f : α → List α → Int} (hm : ∀ x a b, (∀ y ∈ b, y ∈ a) → f x a = 0 → f x b = 0) {l : List α} (n : Nat) (h : scanE (upE f l) l.length = 0) : scanE (upE f (less n l)) (less n l).length = 0 := by
  rw [scan_up] at h ⊢
  intro i x hx
  rw [less_get] at hx
  split at hx
  · rename_i hi
    refine hm x _ _ (fun y hy => ?_) (h i x hx)
    obtain ⟨j, h1, h2⟩ := mem_take.1 hy
    rw [less_get, if_pos (by omega)] at h2
    exact mem_take.2 ⟨j, h1, h2⟩
  · refine hm x _ _ (fun y hy => ?_) (h (i + 1) x hx)
    obtain ⟨j, h1, h2⟩ := mem_take.1 hy
    rw [less_get] at h2
    split at h2
    · exact mem_take.2 ⟨j, by omega, h2⟩
    · exact mem_take.2 ⟨j + 1, by omega, h2⟩
theorem any_sub {α : Type} {p : α → Bool} {a b : List α} (h : ∀ y ∈ b, y ∈ a) (h2 : a.any p = false) : b.any p = false := by
  rw [List.any_eq_false] at h2 ⊢
  exact fun y hy => h2 y (h y hy)
theorem tolE_less (x : TolV) (a b : List TolV) (h : ∀ y ∈ b, y ∈ a) (h2 : tolE x a = 0) : tolE x b = 0 := by
  unfold tolE at h2 ⊢
  obtain ⟨q, hq⟩ : ∃ q, q = nameB x.k := ⟨_, rfl⟩
  obtain ⟨u, hu⟩ : ∃ u, u = (if x.y then decide (x.v = []) else valueB x.v) := ⟨_, rfl⟩
  rw [← hq, ← hu] at h2 ⊢
  cases ha : a.any fun y => decide (x = y) with
  | false =>
    rw [any_sub h ha]
    rw [ha] at h2
    exact h2
  | true =>
    rw [ha] at h2
    cases q <;> cases u <;> simp at h2
theorem reqs_less {m : Nat} {l : List ReqV} (n : Nat) (h : reqsE m l = 0) : reqsE m (less n l) = 0 := by
  unfold reqsE at h ⊢
  rw [too_zero] at h ⊢
  have := less_len n l
  exact ⟨by omega, at_less n h.2⟩
theorem tols_less {l : List TolV} (n : Nat) (h : tolsE l = 0) : tolsE (less n l) = 0 := by
  unfold tolsE at h ⊢
  rw [too_zero] at h ⊢
  have := less_len n l
  exact ⟨by omega, up_less tolE_less n h.2⟩
theorem all_less {s : List SprV} {a b : List LabV} (n : Nat) (h : allTE s a b = 0) : allTE (less n s) (less n a) b = 0 := by
  unfold allTE at h ⊢
  split at h
  · simp at h
  · rename_i h1
    have h2 := firstI_eq_zero h
    have e1 := less_len n s
    have e2 := less_len n a
    rw [if_neg (by omega)]
    refine firstI_zero fun x hx => ?_
    simp only [List.mem_cons, List.not_mem_nil, or_false] at hx h2
    rcases hx with rfl | rfl | rfl
    · exact at_less n (h2 _ (.inl rfl))
    · exact at_less n (h2 _ (.inr (.inl rfl)))
    · exact h2 _ (.inr (.inr rfl))
def lessP (n : Nat) (p : PodV) : PodV := ⟨p.name, p.app, p.n0, p.n1, p.prio, less n p.reqs, less n p.tols, less n p.spr, less n p.near, p.apart, p.since, p.on⟩
theorem pod_less {p : PodV} (n : Nat) (h : podE p = 0) : podE (lessP n p) = 0 := by
  unfold podE at h ⊢
  have h2 := firstI_eq_zero h
  simp only [List.mem_cons, List.not_mem_nil, or_false] at h2
  refine firstI_zero fun x hx => ?_
  simp only [List.mem_cons, List.not_mem_nil, or_false] at hx
  unfold lessP at hx
  simp only at hx
  rcases hx with rfl | rfl | rfl | rfl | rfl | rfl | rfl | rfl
  · exact h2 _ (.inl rfl)
  · exact h2 _ (.inr (.inl rfl))
  · exact h2 _ (.inr (.inr (.inl rfl)))
  · exact reqs_less n (h2 _ (.inr (.inr (.inr (.inl rfl)))))
  · exact tols_less n (h2 _ (.inr (.inr (.inr (.inr (.inl rfl))))))
  · exact all_less n (h2 _ (.inr (.inr (.inr (.inr (.inr (.inl rfl)))))))
  · exact h2 _ (.inr (.inr (.inr (.inr (.inr (.inr (.inl rfl)))))))
  · exact h2 _ (.inr (.inr (.inr (.inr (.inr (.inr (.inr rfl)))))))
theorem pod_lens {p : PodV} (h : podE p = 0) : p.reqs.length ≤ 8 ∧ p.tols.length ≤ 4 ∧ p.spr.length ≤ 3 ∧ p.near.length ≤ 3 := by
  unfold podE at h
  have h2 := firstI_eq_zero h
  simp only [List.mem_cons, List.not_mem_nil, or_false] at h2
  have a := h2 _ (.inr (.inr (.inr (.inl rfl))))
  have b := h2 _ (.inr (.inr (.inr (.inr (.inl rfl)))))
  have c := h2 _ (.inr (.inr (.inr (.inr (.inr (.inl rfl))))))
  unfold reqsE at a
  unfold tolsE at b
  unfold allTE at c
  rw [too_zero] at a b
  split at c
  · simp at c
  · exact ⟨a.1, b.1, by omega, by omega⟩
theorem fls_less {α : Type} {F : α → Prop} {l : List α} (n : Nat) (h : FLs F l) : FLs F (less n l) := ⟨by have := less_len n l; have := h.len; omega, fun x hx => h.all x (less_mem hx)⟩
theorem fpod_less {p : PodV} (n : Nat) (h : FPod p) : FPod (lessP n p) := ⟨h.name, h.app, h.n0, h.n1, h.prio, fls_less n h.reqs, fls_less n h.tols, fls_less n h.spr, fls_less n h.near, h.apart, h.since, h.on⟩
def oneC (x : Str) (c : CmdV) : CmdV := ⟨c.cause, [x], c.stp, c.til, c.fresh, c.pool, c.opts, c.made⟩
theorem cmd_nodes {c : CmdV} (h : cmdE c = 0) : 1 ≤ c.nodes.length ∧ c.nodes.length ≤ 4 ∧ (∀ i x y, c.nodes[i]? = some x → c.nodes[i + 1]? = some y → x < y) ∧ ∀ x ∈ c.nodes, cmdE (oneC x c) = 0 := by
  unfold cmdE at h ⊢
  have h2 := firstI_eq_zero h
  simp only [List.mem_cons, List.not_mem_nil, or_false] at h2
  have w1 := h2 _ (.inl rfl)
  have w2 := h2 _ (.inr (.inl rfl))
  have w3 := h2 _ (.inr (.inr (.inl rfl)))
  have w4 := h2 _ (.inr (.inr (.inr (.inl rfl))))
  have w5 := h2 _ (.inr (.inr (.inr (.inr (.inl rfl)))))
  have w6 := h2 _ (.inr (.inr (.inr (.inr (.inr (.inl rfl))))))
  have w7 := h2 _ (.inr (.inr (.inr (.inr (.inr (.inr rfl))))))
  rw [scan_up] at w4
  have l1 : 0 < c.nodes.length := by
    refine Classical.byContradiction fun hn => ?_
    rw [decide_eq_false hn] at w3; simp at w3
  have l2 : c.nodes.length ≤ 4 := by
    refine Classical.byContradiction fun hn => ?_
    rw [decide_eq_false hn] at w2; simp at w2
  refine ⟨l1, l2, fun i x y hx hy => ?_, fun x hx => ?_⟩
  · have := w4 (i + 1) y hy
    unfold nodeE at this
    rw [take_last (by omega) (show c.nodes[i + 1 - 1]? = some x by simpa using hx)] at this
    split at this
    · simp only at this
      refine Classical.byContradiction fun hn => ?_
      rw [decide_eq_false hn] at this
      simp at this
    · simp at this
  · obtain ⟨i, hi⟩ := List.mem_iff_getElem?.1 hx
    have hn : nameB x = true := by
      have := w4 i x hi
      unfold nodeE at this
      split at this
      · assumption
      · simp at this
    refine firstI_zero fun z hz => ?_
    simp only [List.mem_cons, List.not_mem_nil, or_false, oneC] at hz
    rcases hz with rfl | rfl | rfl | rfl | rfl | rfl | rfl
    · exact w1
    · rfl
    · rfl
    · unfold scanE
      simp [upE, nodeE, hn, firstI_cons]
    · exact w5
    · exact w6
    · exact w7
def commandS : Str := [99, 111, 109, 109, 97, 110, 100]
noncomputable def nameT (x : AnyV) : Str := if chkE x ≠ 0 then [] else if x.kind = 1 then x.pod.name else if x.kind = 2 then x.pool.name else if x.kind = 3 then x.claim.name else if x.kind = 4 then commandS else x.cool.o.t ++ 47 :: (x.cool.o.z ++ 47 :: x.cool.o.k)
noncomputable def ofD (x : AnyV) : D := if x.kind = 1 then .iface 29 (podD x.pod) else if x.kind = 2 then .iface 32 (poolD x.pool) else if x.kind = 3 then .iface 37 (claimD x.claim) else if x.kind = 4 then .iface 40 (cmdD x.cmd) else if x.kind = 5 then .iface 42 (coolD x.cool) else .iface 3 (.int .i64 x.kind)
end Go.Proofs.AM
namespace Go.Proofs.AM
open Go Go.Lib Go.RowKit Go.Maps Go.Sort Go.Shelf
theorem cmp_bytes : ∀ a b : Str, Lib.compareBytes a b = cmpS a b
  | [], [] => by simp [Lib.compareBytes, cmpS]
  | [], _ :: _ => by simp [Lib.compareBytes, cmpS]
  | _ :: _, [] => by simp [Lib.compareBytes, cmpS]
  | x :: a, y :: b => by
    have ih := cmp_bytes a b
    unfold cmpS at ih ⊢
    unfold Lib.compareBytes
    by_cases h1 : x < y
    · rw [if_pos h1, if_pos (List.cons_lt_cons_iff.2 (.inl h1))]
    · rw [if_neg h1]
      by_cases h2 : y < x
      · have h3 : x ≠ y := fun e => by subst e; exact h1 h2
        rw [if_pos h2, if_neg (fun h => by
          rcases List.cons_lt_cons_iff.1 h with h | ⟨h, _⟩
          · exact h1 h
          · exact h3 h), if_neg (fun h => h3 (List.cons.inj h).1)]
      · have h3 : x = y := by
          apply UInt8.toNat_inj.1
          have h4 : ¬ x.toNat < y.toNat := h1
          have h5 : ¬ y.toNat < x.toNat := h2
          omega
        subst h3
        rw [if_neg h1, ih]
        by_cases h6 : a < b
        · rw [if_pos h6, if_pos (List.cons_lt_cons_iff.2 (.inr ⟨rfl, h6⟩))]
        · rw [if_neg h6, if_neg (show ¬ (x :: a < x :: b) from fun h => by
            rcases List.cons_lt_cons_iff.1 h with h | ⟨_, h⟩
            · exact h1 h
            · exact h6 h)]
          by_cases h7 : a = b
          · rw [if_pos h7, if_pos (by rw [h7])]
          · rw [if_neg h7, if_neg (show ¬ (x :: a = x :: b) from fun h => h7 (List.cons.inj h).2)]
theorem cmp88 (a b : Str) : (PR Tryz.prog (Gd Tryz.prog)).v 20 [mkS a, mkS b] (.int .i64 (cmpS a b)) := by
  refine ⟨enters_of Tryz.func20 (by kernel_rfl) rfl, rfl, fun w S vs hG hv => ?_⟩
  simp only [RVs, RV, mkS] at hv
  obtain ⟨_, _, e1, rfl, _, _, rfl, rfl, rfl⟩ := hv
  obtain rfl : vs = #[.string ⟨⟨a⟩⟩, .string ⟨⟨b⟩⟩] := by apply Array.toList_inj.1; rw [e1]
  refine (Any.strings_Compare Tryz.laysCmp ⟨⟨a⟩⟩ ⟨⟨b⟩⟩ w).mono ?_
  rintro e w' ⟨rfl, rfl⟩
  exact ⟨_, rfl, Below.refl _ _, by simp only [RV]; rw [← cmp_bytes]⟩
end Go.Proofs.AM
namespace Go.Proofs.AM
open Go Cd
end Go.Proofs.AM
namespace Go.Proofs.AM
open Go Go.Lib Cd
end Go.Proofs.AM
namespace Go.Proofs.AM
open Go Go.Lib Cd
end Go.Proofs.AM
namespace Go.Proofs.AM
open Go Go.Lib Cd
def iD (n : Int) : D := .int .i64 n
end Go.Proofs.AM
namespace Go.Proofs.AM
open Go Go.Lib Cd
noncomputable def setsL (most : Nat) (l : List ReqV) : List SetV := if reqsE most l = 0 then l.map ofSet else []
theorem clean_set (s : SetV) : Clean (setD s) := by
  have := cleanL_map clean_S (l := s.l) rfl
  exact ⟨by simp [setD, closed, closedL, this.c], by simp [setD, strip, stripL, this.s]⟩
theorem clean_req (r : ReqV) : Clean (reqD r) := by
  have := cleanL_map clean_S (l := r.l) rfl
  exact ⟨by simp [reqD, mkS, closed, closedL, this.c], by simp [reqD, mkS, strip, stripL, this.s]⟩
set_option maxRecDepth 100000 in
set_option maxHeartbeats 2000000 in
theorem sets84_ok (R : Ans) (l : List ReqV) (hl : l.length ≤ 8796093022208) (hF : ∀ q ∈ l, FR q) (most : Nat) (hm : most ≤ 16) (h180 : ∀ q, FR q → R.v 22 [reqD q] (.tup [setD (ofSet q), .int .i64 (wrongE q)])) :
    AnsF R c10 [.sl 4 false (l.map reqD), .int .i64 most] (.tup [.sl 6 false ((setsL most l).map setD), .int .i64 (reqsE most l)]) := by
  obtain ⟨xs, hxs⟩ : ∃ xs, xs = l.map reqD := ⟨_, rfl⟩
  have hcx : CleanL xs := cleanL_map clean_req hxs
  obtain ⟨rs, hrs⟩ : ∃ rs, rs = (setsL most l).map setD := ⟨_, rfl⟩
  obtain ⟨e, he⟩ : ∃ e, e = reqsE most l := ⟨_, rfl⟩
  unfold setsL at hrs
  rw [← he] at hrs
  rw [show (setsL most l).map setD = rs by rw [hrs, he]; rfl, ← hxs, ← he]
  unfold reqsE tooE at he
  obtain ⟨mo, hmo⟩ : ∃ m : Int, m = most := ⟨_, rfl⟩
  rw [← hmo]
  refine wpF_sound ⟨rfl, by decide⟩ fun O hO V hV => ?_
  subst hV
  have hlen : O .len xs = l.length := by rw [o_len hO, hxs]; simp
  conv => cbv
  rintro (_ | _) h0
  · replace h0 := f_gtr hO h0
    rw [hlen] at h0
    have hr : e = scanE (atE wrongE l) l.length := by rw [he, if_neg (by omega)]
    conv => cbv
    refine loop_of (fun n d => ∃ (i : Int) (k g : Nat) (ac : List D), d = ⟨[(6, .own 99 g), (15, .sl 4 false xs), (16, .int .i64 (O .len xs)), (17, .int .i64 i)], [(99, ⟨g, .rw, .arr 6 35, ac⟩)], false⟩ ∧ i = k ∧ k ≤ l.length ∧ n = l.length - k ∧ ac = ((l.take k).map ofSet).map setD ∧ ∀ j, j < k → atE wrongE l j = 0) ⟨_, _, ⟨_, 0, _, _, rfl, rfl, by omega, rfl, by simp, by simp⟩, ⟨⟨rfl, rfl, rfl, rfl, trivial⟩, ⟨rfl, trivial⟩, rfl⟩⟩ ?_
    rintro J up n d ⟨i, k, g, ac, rfl, hi, hk, rfl, hac, hno⟩
    have hca : CleanL ac := cleanL_map clean_set hac
    conv => cbv
    rintro (_ | _) h1
    · replace h1 := f_lss hO h1
      rw [hlen] at h1
      conv => cbv
      have e0 : e = 0 := by rw [hr, scanE_end (fun j hj => hno j (by omega))]
      have : ac = rs := by rw [hac, hrs, if_pos e0, List.take_of_length_le (by omega)]
      rw [this] at hca
      rw [this, e0]
      exact ⟨hca, rfl⟩
    · replace h1 := t_lss hO h1
      rw [hlen] at h1
      conv => cbv
      obtain ⟨y, hy⟩ : ∃ y, l[k]? = some y := ⟨_, List.getElem?_eq_getElem (by omega)⟩
      have hc := h180 y (hF y (List.mem_of_getElem? hy))
      have hg : atE wrongE l k = _ := atE_some hy
      obtain ⟨w, hw⟩ : ∃ w, w = wrongE y := ⟨_, rfl⟩
      obtain ⟨S, hS⟩ : ∃ S, S = ofSet y := ⟨_, rfl⟩
      rw [← hw] at hc hg
      rw [← hS] at hc
      obtain ⟨ss, hss⟩ : ∃ ss, ss = S.l.map mkS := ⟨_, rfl⟩
      have hcs : CleanL ss := cleanL_map clean_S hss
      unfold setD at hc
      rw [← hss] at hc
      have hat : atX xs i (reqD y) := atX_map hy hxs hi
      have hst : setD S = .agg [.bool S.m, .bool S.n, .bool S.u, .sl 1 false ss, .int .i64 S.lo, .int .i64 S.hi] := by rw [hss]; rfl
      obtain ⟨sm, sn, su, sl, slo, shi⟩ := S
      simp only at hc hst
      obtain ⟨ykey, yop, yl, yn⟩ := y
      unfold reqD at hat hc
      simp only at hat hc
      obtain ⟨ys, hys⟩ : ∃ ss, ss = yl.map mkS := ⟨_, rfl⟩
      have hcy : CleanL ys := cleanL_map clean_S hys
      rw [← hys] at hat hc
      refine ⟨_, hat, ?_⟩
      conv => cbv
      intro g8
      conv => cbv
      refine ⟨hcy, _, hc, ?_⟩
      conv => cbv
      intro g9
      conv => cbv
      rintro (_ | _) h2
      · replace h2 := f_neq hO h2
        conv => cbv
        intro g31
        conv => cbv
        have hl1 : O .len [D.agg [.bool sm, .bool sn, .bool su, .sl 1 false ss, .int .i64 slo, .int .i64 shi]] = 1 := by rw [o_len hO]; rfl
        have hla : O .len ac = k := by rw [o_len hO, hac]; simp; omega
        refine ⟨⟨by simp [closedL, closed, hcs.c]⟩, ⟨by show (O .len ac + O .len [D.agg [.bool sm, .bool sn, .bool su, .sl 1 false ss, .int .i64 slo, .int .i64 shi]]) * ((48 : Nat) : Int) ≤ _; rw [hl1, hla]; omega⟩, ?_⟩
        exact ⟨_, _, up _ _ ⟨_, k + 1, g + 1, O .app ac [D.agg [.bool sm, .bool sn, .bool su, .sl 1 false ss, .int .i64 slo, .int .i64 shi]], rfl, by rw [o_add64 hO (by omega) (by omega)]; omega, by omega, rfl, by rw [o_app hO, hac, ← hst, hS, List.take_add_one, hy]; simp, scan_step hno (by rw [hg, h2])⟩, ⟨⟨rfl, rfl, rfl, rfl, trivial⟩, ⟨rfl, trivial⟩, rfl⟩, by omega⟩
      · replace h2 := t_neq hO h2
        conv => cbv
        have e0 : e = w := by rw [hr]; exact scanE_hit (by omega) hno hg.symm h2
        have : rs = [] := by rw [hrs, if_neg (by rw [e0]; exact h2)]; rfl
        rw [this, e0]
        exact ⟨⟨rfl, rfl⟩, rfl⟩
  · replace h0 := t_gtr hO h0
    rw [hlen] at h0
    conv => cbv
    have e3 : e = 3 := by rw [he, if_pos (by omega)]
    have : rs = [] := by rw [hrs, if_neg (by omega)]; rfl
    rw [this, e3]
    exact ⟨⟨rfl, rfl⟩, rfl⟩
set_option maxRecDepth 100000 in
set_option maxHeartbeats 2000000 in
theorem check36_ok (R : Ans) (l : List ReqV) (h84 : R.v 10 [.sl 4 false (l.map reqD), .int .i64 8] (.tup [.sl 6 false ((setsL 8 l).map setD), .int .i64 (reqsE 8 l)])) : AnsF R c4 [.sl 4 false (l.map reqD)] (.int .i64 (reqsE 8 l)) := by
  obtain ⟨xs, hxs⟩ : ∃ xs, xs = l.map reqD := ⟨_, rfl⟩
  have hcx : CleanL xs := cleanL_map clean_req hxs
  obtain ⟨rs, hrs⟩ : ∃ rs, rs = (setsL 8 l).map setD := ⟨_, rfl⟩
  obtain ⟨e, he⟩ : ∃ e, e = reqsE 8 l := ⟨_, rfl⟩
  rw [← hxs, ← he]
  rw [← hxs, ← he, ← hrs] at h84
  refine wpF_sound ⟨rfl, by decide⟩ fun O hO V hV => ?_
  subst hV
  conv => cbv
  refine ⟨hcx, _, h84, ?_⟩
  conv => cbv
  trivial
end Go.Proofs.AM
namespace Go.Proofs.AM
open Go Go.Lib
noncomputable def labE (x : LabV) (ah : List LabV) : Int := if nameB x.k && valueB x.v then (if ah.any (fun y => decide (y.k = x.k)) then 6 else 0) else 20
noncomputable def labsE (l : List LabV) : Int := scanE (upE labE l) l.length
noncomputable def admB (r : ReqV) (labels : List LabV) : Bool := match labels.find? (fun x => decide (x.k = r.key)) with | some x => hasB (ofSet r) x.v | none => (ofSet r).m
noncomputable def admE (l : List ReqV) (labels : List LabV) : Bool × Int :=
  if reqsE 16 l ≠ 0 then (false, reqsE 16 l) else if labsE labels ≠ 0 then (false, labsE labels) else (l.all fun r => admB r labels, 0)
section
variable {α : Type} (κ : α → Str) (v : α → D)
def entK (x : α) : D := .tup [mkS (κ x), v x]
theorem look_map (k : Str) : ∀ l : List α, lookD kS (mkS k) (l.map (entK κ v)) = some ((l.find? fun x => decide (κ x = k)).map v)
  | [] => rfl
  | x :: r => by
    simp only [List.map_cons, entK, lookD, keyEq_S, Option.bind_some]
    by_cases h : κ x = k
    · subst h
      simp
    · rw [List.find?_cons_of_neg (by simpa using h)]
      have h2 : ¬ k = κ x := fun e => h e.symm
      simp only [h2, decide_false, Bool.false_eq_true, if_false]
      exact look_map k r
theorem mput_new (k : Str) (u : D) : ∀ l : List α, (∀ x ∈ l, κ x ≠ k) → mputD kS (mkS k) u (l.map (entK κ v)) = some (l.map (entK κ v) ++ [.tup [mkS k, u]])
  | [], _ => rfl
  | x :: r, h => by
    simp only [List.map_cons, entK, mputD, keyEq_S, Option.bind_some]
    have h2 : ¬ k = κ x := fun e => h x (by simp) e.symm
    simp only [h2, decide_false, Bool.false_eq_true, if_false]
    rw [mput_new k u r fun y hy => h y (by simp [hy])]
    rfl
end
theorem find_any {α : Type} {p : α → Bool} {l : List α} : (l.find? p).isSome = l.any p := by
  rw [Bool.eq_iff_iff, List.find?_isSome, List.any_eq_true]
theorem find_take_none {α : Type} {p : α → Bool} {l : List α} (h : l.any p = false) : l.find? p = none := by
  have := find_any (p := p) (l := l)
  rw [h] at this
  simpa using this
theorem find_take_some {α : Type} {p : α → Bool} {l : List α} (h : l.any p = true) : ∃ x, l.find? p = some x := by
  have := find_any (p := p) (l := l)
  rw [h] at this
  exact Option.isSome_iff_exists.1 this
theorem find_at {α : Type} {p : α → Bool} {l : List α} {k : Nat} {x : α} (hx : l[k]? = some x) (hp : p x = true) (h0 : ∀ (j : Nat) z, j < k → l[j]? = some z → p z = false) : l.find? p = some x := by
  obtain ⟨hk, rfl⟩ := List.getElem?_eq_some_iff.1 hx
  rw [List.find?_eq_some_iff_getElem]
  exact ⟨hp, k, hk, rfl, fun j hj => by have := h0 j _ hj (List.getElem?_eq_getElem (by omega)); simp [this]⟩
theorem find_end {α : Type} {p : α → Bool} {l : List α} (h0 : ∀ (j : Nat) z, j < l.length → l[j]? = some z → p z = false) : l.find? p = none := by
  rw [List.find?_eq_none]
  intro x hx
  obtain ⟨j, hj⟩ := List.mem_iff_getElem?.1 hx
  rw [h0 j x (List.getElem?_eq_some_iff.1 hj).1 hj]; simp
theorem all_end {α : Type} {p : α → Bool} {l : List α} (h0 : ∀ (j : Nat) z, j < l.length → l[j]? = some z → p z = true) : l.all p = true := by
  rw [List.all_eq_true]
  intro x hx
  obtain ⟨j, hj⟩ := List.mem_iff_getElem?.1 hx
  exact h0 j x (List.getElem?_eq_some_iff.1 hj).1 hj
theorem all_hit {α : Type} {p : α → Bool} {l : List α} {k : Nat} {x : α} (hx : l[k]? = some x) (hp : p x = false) : l.all p = false := by
  rw [List.all_eq_false]
  exact ⟨x, List.mem_of_getElem? hx, by simp [hp]⟩
theorem hyes_step {α : Type} {p : α → Bool} {l : List α} {k : Nat} {y : α} (h : ∀ (j : Nat) z, j < k → l[j]? = some z → p z = true) (hy : l[k]? = some y) (hp : p y = true) : ∀ (j : Nat) z, j < k + 1 → l[j]? = some z → p z = true := fun j z hj hz => by
  rcases Nat.lt_succ_iff_lt_or_eq.1 hj with h1 | rfl
  · exact h j z h1 hz
  · rw [hy] at hz; simp only [Option.some.injEq] at hz; subst hz; exact hp
end Go.Proofs.AM
namespace Go.Proofs.AM
open Go Go.Lib
structure KeyV where
  k : Str
  s : SetV
  deriving DecidableEq
def keyC (x : KeyV) : List D := [mkS x.k, .bool x.s.m, .bool x.s.n, .bool x.s.u, .sl 1 false (x.s.l.map mkS), .int .i64 x.s.lo, .int .i64 x.s.hi]
def keyedD (x : KeyV) : D := .agg (keyC x)
def OrdK (l : List KeyV) : Prop := l.Pairwise fun a b => a.k < b.k
def insK (x : KeyV) : List KeyV → List KeyV
  | [] => [x]
  | y :: r => if y.k < x.k then y :: insK x r else x :: y :: r
def setK (k : Str) (s : SetV) (l : List KeyV) : List KeyV := l.map fun y => if y.k = k then ⟨k, s⟩ else y
noncomputable def setsF : List KeyV → List ReqV → List KeyV × Int
  | out, [] => (out, 0)
  | out, r :: l => match out.find? (fun x => decide (x.k = r.key)) with
    | some x => if (meetS x.s (ofSet r)).2 = 0 then setsF (setK r.key (meetS x.s (ofSet r)).1 out) l else ([], (meetS x.s (ofSet r)).2)
    | none => setsF (insK ⟨r.key, ofSet r⟩ out) l
noncomputable def setsE (l : List ReqV) : List KeyV × Int := if reqsE 16 l ≠ 0 then ([], reqsE 16 l) else setsF [] l
theorem str_asymm {a b : Str} (h : a < b) (h2 : b < a) : False := List.lt_irrefl a (List.lt_trans h h2)
theorem insK_perm (x : KeyV) : ∀ l, (insK x l).Perm (x :: l)
  | [] => .refl _
  | y :: r => by
    unfold insK
    split
    · exact ((insK_perm x r).cons y).trans (.swap x y r)
    · exact .refl _
theorem insK_ord {x : KeyV} : ∀ {l : List KeyV}, OrdK l → (∀ y ∈ l, y.k ≠ x.k) → OrdK (insK x l)
  | [], _, _ => by simp [insK, OrdK]
  | y :: r, h, hn => by
    have h' := List.pairwise_cons.1 h
    unfold insK
    split
    · rename_i hlt
      refine List.pairwise_cons.2 ⟨fun z hz => ?_, insK_ord h'.2 fun z hz => hn z (by simp [hz])⟩
      rcases List.mem_cons.1 ((insK_perm x r).mem_iff.1 hz) with rfl | hz
      · exact hlt
      · exact h'.1 z hz
    · rename_i hge
      have hxy : x.k < y.k := by
        rcases lt_total x.k y.k with h1 | h1 | h1
        · exact h1
        · exact absurd h1.symm (hn y (by simp))
        · exact absurd h1 hge
      refine List.pairwise_cons.2 ⟨fun z hz => ?_, h⟩
      rcases List.mem_cons.1 hz with rfl | hz
      · exact hxy
      · exact List.lt_trans hxy (h'.1 z hz)
theorem setK_keys (k : Str) (s : SetV) (l : List KeyV) : (setK k s l).map (·.k) = l.map (·.k) := by
  unfold setK
  rw [List.map_map]
  refine List.map_congr_left fun x _ => ?_
  simp only [Function.comp]
  split
  · rename_i h; exact h.symm
  · rfl
theorem ordK_keys {l : List KeyV} : OrdK l ↔ (l.map (·.k)).Pairwise (· < ·) := by
  unfold OrdK
  rw [List.pairwise_map]
theorem setK_ord {k : Str} {s : SetV} {l : List KeyV} (h : OrdK l) : OrdK (setK k s l) := by
  rw [ordK_keys, setK_keys, ← ordK_keys]; exact h
theorem ordK_nodup {l : List KeyV} (h : OrdK l) : (l.map (·.k)).Nodup := by
  rw [ordK_keys] at h
  exact h.imp fun hab e => by subst e; exact List.lt_irrefl _ hab
theorem ordK_eq : ∀ {a b : List KeyV}, a.Perm b → OrdK a → OrdK b → a = b
  | [], b, h, _, _ => by simpa using h.symm
  | x :: a, [], h, _, _ => by simp at h
  | x :: a, y :: b, h, ha, hb => by
    have ha' := List.pairwise_cons.1 ha
    have hb' := List.pairwise_cons.1 hb
    have hxy : x = y := by
      refine Classical.byContradiction fun hn => ?_
      have h1 : x ∈ b := by
        rcases List.mem_cons.1 (h.mem_iff.1 (List.mem_cons_self)) with e | e
        · exact absurd e hn
        · exact e
      have h2 : y ∈ a := by
        rcases List.mem_cons.1 (h.mem_iff.2 (List.mem_cons_self)) with e | e
        · exact absurd e.symm hn
        · exact e
      exact str_asymm (ha'.1 y h2) (hb'.1 x h1)
    subst hxy
    rw [ordK_eq (List.Perm.cons_inv h) ha'.2 hb'.2]
theorem key_one {l : List KeyV} (h : (l.map (·.k)).Nodup) {x y : KeyV} (hx : x ∈ l) (hy : y ∈ l) (e : x.k = y.k) : x = y := by
  induction l with
  | nil => simp at hx
  | cons z l ih =>
    simp only [List.map_cons, List.nodup_cons] at h
    rcases List.mem_cons.1 hx with h1 | h1 <;> rcases List.mem_cons.1 hy with h2 | h2
    · rw [h1, h2]
    · exact absurd (List.mem_map.2 ⟨y, h2, by rw [← e, h1]⟩) h.1
    · exact absurd (List.mem_map.2 ⟨x, h1, by rw [e, h2]⟩) h.1
    · exact ih h.2 h1 h2
theorem find_key {l : List KeyV} (h : (l.map (·.k)).Nodup) {x : KeyV} (hx : x ∈ l) : l.find? (fun y => decide (y.k = x.k)) = some x := by
  cases hf : l.find? (fun y => decide (y.k = x.k)) with
  | none => have := List.find?_eq_none.1 hf x hx; simp at this
  | some y =>
    have h1 := List.mem_of_find?_eq_some hf
    have h2 := List.find?_some hf
    rw [key_one h h1 hx (by simpa using h2)]
theorem find_perm {l l' : List KeyV} (h : l.Perm l') (hn : (l.map (·.k)).Nodup) (k : Str) : l.find? (fun y => decide (y.k = k)) = l'.find? (fun y => decide (y.k = k)) := by
  have hn' : (l'.map (·.k)).Nodup := (h.map _).nodup_iff.1 hn
  cases hf : l.find? (fun y => decide (y.k = k)) with
  | none =>
    symm
    rw [List.find?_eq_none] at hf ⊢
    exact fun x hx => hf x (h.mem_iff.2 hx)
  | some y =>
    have h1 := List.mem_of_find?_eq_some hf
    have h2 : y.k = k := by simpa using List.find?_some hf
    subst h2
    rw [find_key hn' (h.mem_iff.1 h1)]
abbrev entS : KeyV → D := entK (fun x : KeyV => x.k) (fun x => setD x.s)
theorem mput_set (k : Str) (s : SetV) : ∀ {l : List KeyV}, (l.map (·.k)).Nodup → (∃ x ∈ l, x.k = k) → mputD kS (mkS k) (setD s) (l.map entS) = some ((setK k s l).map entS)
  | [], _, h => by obtain ⟨x, hx, _⟩ := h; simp at hx
  | y :: r, hn, h => by
    simp only [List.map_cons, List.nodup_cons] at hn
    simp only [List.map_cons, entS, entK, mputD, keyEq_S, Option.bind_some, setK]
    by_cases hy : y.k = k
    · subst hy
      simp only [decide_true, if_true]
      congr 2
      have : r.map (fun y_1 => if y_1.k = y.k then (⟨y.k, s⟩ : KeyV) else y_1) = r := by
        conv => rhs; rw [← List.map_id r]
        refine List.map_congr_left fun z hz => ?_
        rw [if_neg (fun e => hn.1 (List.mem_map.2 ⟨z, hz, e⟩))]
        rfl
      rw [this]
    · have h2 : ¬ k = y.k := fun e => hy e.symm
      simp only [h2, hy, decide_false, Bool.false_eq_true, if_false]
      have hr : ∃ x ∈ r, x.k = k := by
        obtain ⟨x, hx, e⟩ := h
        rcases List.mem_cons.1 hx with rfl | hx
        · exact absurd e hy
        · exact ⟨x, hx, e⟩
      rw [show mputD kS (mkS k) (setD s) (r.map (entK (fun x : KeyV => x.k) fun x => setD x.s)) = _ from mput_set k s hn.2 hr]
      rfl
noncomputable def canE (l : List ReqV) : Bool × Int := if (setsE l).2 ≠ 0 then (false, (setsE l).2) else (!((setsE l).1.any fun x => emptyB x.s), 0)
noncomputable def meetsE (a b : List ReqV) : Bool × Int := if reqsE 8 a ≠ 0 then (false, reqsE 8 a) else if reqsE 8 b ≠ 0 then (false, reqsE 8 b) else canE (a ++ b)
end Go.Proofs.AM
