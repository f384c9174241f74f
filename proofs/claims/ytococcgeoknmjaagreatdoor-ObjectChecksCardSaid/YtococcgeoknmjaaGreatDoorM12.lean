/- Part 12 of the lemmas: ZGMb, TryzLbb, PWb, PWc, PWd, ZLb, ZOa, ZOb, ZOc, ZOe, ZOf, ZOg. -/
import Derived.Test.YtococcgeoknmjaaGreatDoorProg
import Derived.Shelf.Abstract
import Derived.Test.YtococcgeoknmjaaGreatDoorM06
import Derived.Test.YtococcgeoknmjaaGreatDoorM11
import Derived.Test.YtococcgeoknmjaaGreatDoorM08
import Derived.WalkKit
import Derived.Shelf.Strings.OnBuilder
import Derived.Shelf.Small.Strs
import Derived.Test.YtococcgeoknmjaaGreatDoorM10
namespace Go.Proofs.AM
open Go Go.RowKit Go.Shelf Cd
set_option maxRecDepth 100000
theorem E3 : Enters Tryz.prog 3 := enters_of Tryz.func3 (by kernel_rfl) rfl
theorem T3 : funcT Tryz.prog [] Tryz.f3 = some c3.erase := by kernel_rfl
theorem E4 : Enters Tryz.prog 4 := enters_of Tryz.func4 (by kernel_rfl) rfl
theorem T4 : funcT Tryz.prog [25, 26, 29, 30, 31, 35, 36, 42, 43, 46, 47, 48, 52, 53, 59, 60, 63, 64, 65, 69, 70, 76, 77, 80, 81, 82, 86, 87] Tryz.f4 = some c4.erase := by kernel_rfl
theorem E5 : Enters Tryz.prog 5 := enters_of Tryz.func5 (by kernel_rfl) rfl
theorem T5 : funcT Tryz.prog [] Tryz.f5 = some c5.erase := by kernel_rfl
theorem E15 : Enters Tryz.prog 15 := enters_of Tryz.func15 (by kernel_rfl) rfl
theorem T15 : funcT Tryz.prog [] Tryz.f15 = some c15.erase := by kernel_rfl
theorem E16 : Enters Tryz.prog 16 := enters_of Tryz.func16 (by kernel_rfl) rfl
theorem T16 : funcT Tryz.prog [] Tryz.f16 = some c16.erase := by kernel_rfl
theorem E17 : Enters Tryz.prog 17 := enters_of Tryz.func17 (by kernel_rfl) rfl
theorem T17 : funcT Tryz.prog [] Tryz.f17 = some c17.erase := by kernel_rfl
theorem E18 : Enters Tryz.prog 18 := enters_of Tryz.func18 (by kernel_rfl) rfl
theorem T18 : funcT Tryz.prog [] Tryz.f18 = some c18.erase := by kernel_rfl
theorem E19 : Enters Tryz.prog 19 := enters_of Tryz.func19 (by kernel_rfl) rfl
theorem T19 : funcT Tryz.prog [] Tryz.f19 = some c19.erase := by kernel_rfl
theorem E20 : Enters Tryz.prog 20 := enters_of Tryz.func20 (by kernel_rfl) rfl
theorem T20 : funcT Tryz.prog [] Tryz.f20 = some c20.erase := by kernel_rfl
theorem E21 : Enters Tryz.prog 21 := enters_of Tryz.func21 (by kernel_rfl) rfl
theorem T21 : funcT Tryz.prog [] Tryz.f21 = some c21.erase := by kernel_rfl
theorem E22 : Enters Tryz.prog 22 := enters_of Tryz.func22 (by kernel_rfl) rfl
theorem T22 : funcT Tryz.prog [] Tryz.f22 = some c22.erase := by kernel_rfl
theorem E23 : Enters Tryz.prog 23 := enters_of Tryz.func23 (by kernel_rfl) rfl
theorem T23 : funcT Tryz.prog [] Tryz.f23 = some c23.erase := by kernel_rfl
theorem E24 : Enters Tryz.prog 24 := enters_of Tryz.func24 (by kernel_rfl) rfl
theorem T24 : funcT Tryz.prog [] Tryz.f24 = some c24.erase := by kernel_rfl
theorem E36 : Enters Tryz.prog 36 := enters_of Tryz.func36 (by kernel_rfl) rfl
theorem T36 : funcT Tryz.prog [] Tryz.f36 = some c36.erase := by kernel_rfl
theorem E37 : Enters Tryz.prog 37 := enters_of Tryz.func37 (by kernel_rfl) rfl
theorem T37 : funcT Tryz.prog [] Tryz.f37 = some c37.erase := by kernel_rfl
theorem E47 : Enters Tryz.prog 47 := enters_of Tryz.func47 (by kernel_rfl) rfl
theorem T47 : funcT Tryz.prog [] Tryz.f47 = some c47.erase := by kernel_rfl
theorem E48 : Enters Tryz.prog 48 := enters_of Tryz.func48 (by kernel_rfl) rfl
theorem T48 : funcT Tryz.prog [] Tryz.f48 = some c48.erase := by kernel_rfl
theorem E49 : Enters Tryz.prog 49 := enters_of Tryz.func49 (by kernel_rfl) rfl
theorem T49 : funcT Tryz.prog [] Tryz.f49 = some c49.erase := by kernel_rfl
theorem E50 : Enters Tryz.prog 50 := enters_of Tryz.func50 (by kernel_rfl) rfl
theorem T50 : funcT Tryz.prog [] Tryz.f50 = some c50.erase := by kernel_rfl
theorem E51 : Enters Tryz.prog 51 := enters_of Tryz.func51 (by kernel_rfl) rfl
theorem T51 : funcT Tryz.prog [] Tryz.f51 = some c51.erase := by kernel_rfl
theorem E52 : Enters Tryz.prog 52 := enters_of Tryz.func52 (by kernel_rfl) rfl
theorem T52 : funcT Tryz.prog [] Tryz.f52 = some c52.erase := by kernel_rfl
theorem E53 : Enters Tryz.prog 53 := enters_of Tryz.func53 (by kernel_rfl) rfl
theorem T53 : funcT Tryz.prog [] Tryz.f53 = some c53.erase := by kernel_rfl
theorem E54 : Enters Tryz.prog 54 := enters_of Tryz.func54 (by kernel_rfl) rfl
theorem T54 : funcT Tryz.prog [] Tryz.f54 = some c54.erase := by kernel_rfl
theorem E55 : Enters Tryz.prog 55 := enters_of Tryz.func55 (by kernel_rfl) rfl
theorem T55 : funcT Tryz.prog [] Tryz.f55 = some c55.erase := by kernel_rfl
theorem E56 : Enters Tryz.prog 56 := enters_of Tryz.func56 (by kernel_rfl) rfl
theorem T56 : funcT Tryz.prog [] Tryz.f56 = some c56.erase := by kernel_rfl
theorem E57 : Enters Tryz.prog 57 := enters_of Tryz.func57 (by kernel_rfl) rfl
theorem T57 : funcT Tryz.prog [] Tryz.f57 = some c57.erase := by kernel_rfl
theorem E58 : Enters Tryz.prog 58 := enters_of Tryz.func58 (by kernel_rfl) rfl
theorem T58 : funcT Tryz.prog [] Tryz.f58 = some c58.erase := by kernel_rfl
theorem E59 : Enters Tryz.prog 59 := enters_of Tryz.func59 (by kernel_rfl) rfl
theorem T59 : funcT Tryz.prog [] Tryz.f59 = some c59.erase := by kernel_rfl
theorem E60 : Enters Tryz.prog 60 := enters_of Tryz.func60 (by kernel_rfl) rfl
theorem T60 : funcT Tryz.prog [] Tryz.f60 = some c60.erase := by kernel_rfl
theorem E61 : Enters Tryz.prog 61 := enters_of Tryz.func61 (by kernel_rfl) rfl
theorem T61 : funcT Tryz.prog [] Tryz.f61 = some c61.erase := by kernel_rfl
theorem E62 : Enters Tryz.prog 62 := enters_of Tryz.func62 (by kernel_rfl) rfl
theorem T62 : funcT Tryz.prog [] Tryz.f62 = some c62.erase := by kernel_rfl
theorem E63 : Enters Tryz.prog 63 := enters_of Tryz.func63 (by kernel_rfl) rfl
theorem T63 : funcT Tryz.prog [] Tryz.f63 = some c63.erase := by kernel_rfl
theorem E84 : Enters Tryz.prog 84 := enters_of Tryz.func84 (by kernel_rfl) rfl
theorem T84 : funcT Tryz.prog [] Tryz.f84 = some c84.erase := by kernel_rfl
theorem E91 : Enters Tryz.prog 91 := enters_of Tryz.func91 (by kernel_rfl) rfl
theorem T91 : funcT Tryz.prog [] Tryz.f91 = some c91.erase := by kernel_rfl
theorem E108 : Enters Tryz.prog 108 := enters_of Tryz.func108 (by kernel_rfl) rfl
theorem T108 : funcT Tryz.prog [] Tryz.f108 = some c108.erase := by kernel_rfl
theorem E109 : Enters Tryz.prog 109 := enters_of Tryz.func109 (by kernel_rfl) rfl
theorem T109 : funcT Tryz.prog [] Tryz.f109 = some c109.erase := by kernel_rfl
theorem E111 : Enters Tryz.prog 111 := enters_of Tryz.func111 (by kernel_rfl) rfl
theorem T111 : funcT Tryz.prog [] Tryz.f111 = some c111.erase := by kernel_rfl
theorem E112 : Enters Tryz.prog 112 := enters_of Tryz.func112 (by kernel_rfl) rfl
theorem T112 : funcT Tryz.prog [] Tryz.f112 = some c112.erase := by kernel_rfl
theorem E113 : Enters Tryz.prog 113 := enters_of Tryz.func113 (by kernel_rfl) rfl
theorem T113 : funcT Tryz.prog [] Tryz.f113 = some c113.erase := by kernel_rfl
theorem E114 : Enters Tryz.prog 114 := enters_of Tryz.func114 (by kernel_rfl) rfl
theorem T114 : funcT Tryz.prog [] Tryz.f114 = some c114.erase := by kernel_rfl
theorem E115 : Enters Tryz.prog 115 := enters_of Tryz.func115 (by kernel_rfl) rfl
theorem T115 : funcT Tryz.prog [] Tryz.f115 = some c115.erase := by kernel_rfl
theorem E116 : Enters Tryz.prog 116 := enters_of Tryz.func116 (by kernel_rfl) rfl
theorem T116 : funcT Tryz.prog [] Tryz.f116 = some c116.erase := by kernel_rfl
theorem E117 : Enters Tryz.prog 117 := enters_of Tryz.func117 (by kernel_rfl) rfl
theorem T117 : funcT Tryz.prog [] Tryz.f117 = some c117.erase := by kernel_rfl
theorem E118 : Enters Tryz.prog 118 := enters_of Tryz.func118 (by kernel_rfl) rfl
theorem T118 : funcT Tryz.prog [] Tryz.f118 = some c118.erase := by kernel_rfl
theorem E119 : Enters Tryz.prog 119 := enters_of Tryz.func119 (by kernel_rfl) rfl
theorem T119 : funcT Tryz.prog [] Tryz.f119 = some c119.erase := by kernel_rfl
theorem E120 : Enters Tryz.prog 120 := enters_of Tryz.func120 (by kernel_rfl) rfl
theorem T120 : funcT Tryz.prog [] Tryz.f120 = some c120.erase := by kernel_rfl
theorem E122 : Enters Tryz.prog 122 := enters_of Tryz.func122 (by kernel_rfl) rfl
theorem T122 : funcT Tryz.prog [] Tryz.f122 = some c122.erase := by kernel_rfl
theorem E123 : Enters Tryz.prog 123 := enters_of Tryz.func123 (by kernel_rfl) rfl
theorem T123 : funcT Tryz.prog [] Tryz.f123 = some c123.erase := by kernel_rfl
theorem E124 : Enters Tryz.prog 124 := enters_of Tryz.func124 (by kernel_rfl) rfl
theorem T124 : funcT Tryz.prog [] Tryz.f124 = some c124.erase := by kernel_rfl
theorem E125 : Enters Tryz.prog 125 := enters_of Tryz.func125 (by kernel_rfl) rfl
theorem T125 : funcT Tryz.prog [] Tryz.f125 = some c125.erase := by kernel_rfl
theorem E126 : Enters Tryz.prog 126 := enters_of Tryz.func126 (by kernel_rfl) rfl
theorem T126 : funcT Tryz.prog [] Tryz.f126 = some c126.erase := by kernel_rfl
theorem E127 : Enters Tryz.prog 127 := enters_of Tryz.func127 (by kernel_rfl) rfl
theorem T127 : funcT Tryz.prog [] Tryz.f127 = some c127.erase := by kernel_rfl
theorem E200 : Enters Tryz.prog 200 := enters_of Tryz.func200 (by kernel_rfl) rfl
theorem T200 : funcT Tryz.prog [] Tryz.f200 = some c200.erase := by kernel_rfl
theorem E202 : Enters Tryz.prog 202 := enters_of Tryz.func202 (by kernel_rfl) rfl
theorem T202 : funcT Tryz.prog [] Tryz.f202 = some c202.erase := by kernel_rfl
theorem E203 : Enters Tryz.prog 203 := enters_of Tryz.func203 (by kernel_rfl) rfl
theorem T203 : funcT Tryz.prog [] Tryz.f203 = some c203.erase := by kernel_rfl
theorem E204 : Enters Tryz.prog 204 := enters_of Tryz.func204 (by kernel_rfl) rfl
theorem T204 : funcT Tryz.prog [] Tryz.f204 = some c204.erase := by kernel_rfl
end Go.Proofs.AM
namespace Go.Proofs
open Go.Shelf
def Tryz.laysJoin_ren : Go.Shelf.Ren := ⟨fun | 156 => 46 | 165 => 105 | 166 => 106 | 169 => 107 | 240 => 198 | 241 => 199 | 276 => 235 | 277 => 236 | n => n, fun | 31 => 38 | 9 => 9 | 3 => 3 | 4 => 4 | 0 => 0 | 20 => 20 | 72 => 170 | 76 => 174 | 70 => 168 | 37 => 60 | 75 => 173 | 127 => 249 | 164 => 284 | 5 => 5 | 80 => 176 | n => n, fun | n => n⟩
theorem Tryz.laysJoin : Go.Proofs.Lays.n156 Tryz.prog Tryz.laysJoin_ren := {
  mixed := by kernel_rfl
  f156 := Tryz.func46.trans (congrArg some (by kernel_rfl))
  f165 := Tryz.func105.trans (congrArg some (by kernel_rfl))
  f166 := Tryz.func106.trans (congrArg some (by kernel_rfl))
  f169 := Tryz.func107.trans (congrArg some (by kernel_rfl))
  f240 := Tryz.func198.trans (congrArg some (by kernel_rfl))
  f241 := Tryz.func199.trans (congrArg some (by kernel_rfl))
  f276 := Tryz.func235.trans (congrArg some (by kernel_rfl))
  f277 := Tryz.func236.trans (congrArg some (by kernel_rfl))
  t0 := Tryz.underlying0
  a0 := Tryz.isAgg0
  z0 := Tryz.sizeOf0
  v0 := Tryz.zeroValue0
  t3 := Tryz.underlying3
  a3 := Tryz.isAgg3
  z3 := Tryz.sizeOf3
  v3 := Tryz.zeroValue3
  t4 := Tryz.underlying4
  a4 := Tryz.isAgg4
  z4 := Tryz.sizeOf4
  v4 := Tryz.zeroValue4
  t9 := Tryz.underlying9
  a9 := Tryz.isAgg9
  z9 := Tryz.sizeOf9
  v9 := Tryz.zeroValue9
  t20 := Tryz.underlying20
  a20 := Tryz.isAgg20
  z20 := Tryz.sizeOf20
  v20 := Tryz.zeroValue20
  t31 := Tryz.underlying38
  a31 := Tryz.isAgg38
  z31 := Tryz.sizeOf38
  v31 := Tryz.zeroValue38
  t37 := Tryz.underlying60
  a37 := Tryz.isAgg60
  z37 := Tryz.sizeOf60
  v37 := Tryz.zeroValue60
  t70 := Tryz.underlying168
  a70 := Tryz.isAgg168
  z70 := Tryz.sizeOf168
  v70 := Tryz.zeroValue168
  t72 := Tryz.underlying170
  a72 := Tryz.isAgg170
  z72 := Tryz.sizeOf170
  v72 := Tryz.zeroValue170
  t75 := Tryz.underlying173
  a75 := Tryz.isAgg173
  z75 := Tryz.sizeOf173
  v75 := Tryz.zeroValue173
  t76 := Tryz.underlying174
  a76 := Tryz.isAgg174
  z76 := Tryz.sizeOf174
  v76 := Tryz.zeroValue174
  t127 := Tryz.underlying249
  a127 := Tryz.isAgg249
  z127 := Tryz.sizeOf249
  v127 := Tryz.zeroValue249
  t164 := Tryz.underlying284
  a164 := Tryz.isAgg284
  z164 := Tryz.sizeOf284
  v164 := Tryz.zeroValue284 }
def Tryz.laysCmp_ren : Go.Shelf.Ren := ⟨fun | 106 => 88 | 213 => 186 | 265 => 227 | n => n, fun | 9 => 9 | 3 => 3 | n => n, fun | n => n⟩
theorem Tryz.laysCmp : Go.Proofs.Lays.n106 Tryz.prog Tryz.laysCmp_ren := {
  mixed := by kernel_rfl
  f106 := Tryz.func88.trans (congrArg some (by kernel_rfl))
  f213 := Tryz.func186.trans (congrArg some (by kernel_rfl))
  f265 := Tryz.func227.trans (congrArg some (by kernel_rfl))
  t3 := Tryz.underlying3
  a3 := Tryz.isAgg3
  z3 := Tryz.sizeOf3
  v3 := Tryz.zeroValue3
  t9 := Tryz.underlying9
  a9 := Tryz.isAgg9
  z9 := Tryz.sizeOf9
  v9 := Tryz.zeroValue9 }
end Go.Proofs
namespace Go.Proofs.AM
open Go Go.Lib
def idxI {α : Type} (p : α → Bool) (l : List α) : Int := match l.findIdx? p with | some k => (k : Int) | none => -1
theorem idxI_none {α : Type} {p : α → Bool} {l : List α} (h : ∀ y ∈ l, p y = false) : idxI p l = -1 := by
  unfold idxI
  rw [List.findIdx?_eq_none_iff.2 (by simpa using h)]
theorem idxI_hit {α : Type} {p : α → Bool} {l : List α} {k : Nat} {y : α} (hy : l[k]? = some y) (hp : p y = true) (h0 : ∀ (j : Nat) z, j < k → l[j]? = some z → p z = false) : idxI p l = k := by
  unfold idxI
  obtain ⟨hk, he⟩ := List.getElem?_eq_some_iff.1 hy
  rw [List.findIdx?_eq_some_iff_getElem.2 ⟨hk, by rw [he]; exact hp, fun j hj => by
    have := h0 j l[j] hj (List.getElem?_eq_getElem (by omega))
    simp [this]⟩]
theorem idxI_any {α : Type} (p : α → Bool) (l : List α) : 0 ≤ idxI p l ↔ l.any p = true := by
  unfold idxI
  cases h : l.findIdx? p with
  | none =>
    have := List.findIdx?_eq_none_iff.1 h
    simp
    simpa using this
  | some k =>
    obtain ⟨hk, hp, _⟩ := List.findIdx?_eq_some_iff_getElem.1 h
    simp
    exact ⟨_, List.getElem_mem hk, hp⟩
theorem hno_step {α : Type} {p : α → Bool} {l : List α} {k : Nat} {y : α} (h : ∀ (j : Nat) z, j < k → l[j]? = some z → p z = false) (hy : l[k]? = some y) (hp : p y = false) : ∀ (j : Nat) z, j < k + 1 → l[j]? = some z → p z = false := fun j z hj hz => by
  rcases Nat.lt_succ_iff_lt_or_eq.1 hj with h1 | rfl
  · exact h j z h1 hz
  · rw [hy] at hz; simp only [Option.some.injEq] at hz; subst hz; exact hp
theorem o_eqc {O : Ops} (hO : O = Ops.std) (neg : Bool) (ts : List (Nat × EqT)) (xs ys : List D) : O .eqc neg ts xs ys = (((eqCells ts xs ys).getD false) != neg) := by subst hO; rfl
theorem bs_beq (a b : Str) : ((⟨⟨a⟩⟩ : ByteArray) == ⟨⟨b⟩⟩) = decide (a = b) := by
  show ((⟨a⟩ : Array UInt8) == ⟨b⟩) = decide (a = b)
  rw [Bool.eq_iff_iff]
  simp
theorem cmp_str (a b : Str) : cmpCell .str (some (mkS a)) (some (mkS b)) = some (decide (a = b)) := by
  show some ((⟨⟨a⟩⟩ : ByteArray) == ⟨⟨b⟩⟩) = _
  rw [bs_beq]
theorem eqc_off {O : Ops} (hO : O = Ops.std) {t : Bool} {x y : OffV} (h : t = O .eqc false [(0, .str), (1, .str), (2, .str)] [mkS x.t, mkS x.z, mkS x.k] [mkS y.t, mkS y.z, mkS y.k]) : t = decide (x = y) := by
  rw [o_eqc hO] at h
  rw [h]
  obtain ⟨a, b, c⟩ := x
  obtain ⟨a', b', c'⟩ := y
  simp [eqCells, cmp_str]
theorem eqc_tol {O : Ops} (hO : O = Ops.std) {t : Bool} {x y : TolV} (h : t = O .eqc false [(0, .str), (1, .str), (2, .bool)] [mkS x.k, mkS x.v, .bool x.y] [mkS y.k, mkS y.v, .bool y.y]) : t = decide (x = y) := by
  rw [o_eqc hO] at h
  rw [h]
  obtain ⟨a, b, c⟩ := x
  obtain ⟨a', b', c'⟩ := y
  have hb : cmpCell .bool (some (.bool c)) (some (.bool c')) = some (decide (c = c')) := by cases c <;> cases c' <;> rfl
  simp [eqCells, cmp_str, hb]
theorem any_take_false {α : Type} {p : α → Bool} {l : List α} {k : Nat} (h : ∀ (j : Nat) z, j < k → l[j]? = some z → p z = false) : (l.take k).any p = false := by
  rw [List.any_eq_false]
  intro x hx
  obtain ⟨j, hj⟩ := List.mem_iff_getElem?.1 hx
  rw [List.getElem?_take] at hj
  split at hj
  · rw [h j x ‹_› hj]; simp
  · simp at hj
theorem any_take_true {α : Type} {p : α → Bool} {l : List α} {k j : Nat} {z : α} (hj : j < k) (hz : l[j]? = some z) (hp : p z = true) : (l.take k).any p = true := by
  rw [List.any_eq_true]
  exact ⟨z, List.mem_iff_getElem?.2 ⟨j, by rw [List.getElem?_take, if_pos hj]; exact hz⟩, hp⟩
theorem dec_comm {α : Type} [DecidableEq α] (a b : α) : decide (a = b) = decide (b = a) := decide_eq_decide.2 eq_comm
noncomputable def cmpS (a b : Str) : Int := if a < b then -1 else if a = b then 0 else 1
noncomputable def ltO (x y : OffV) : Bool := if x.t ≠ y.t then decide (x.t < y.t) else if x.z ≠ y.z then decide (x.z < y.z) else decide (x.k < y.k)
noncomputable def cmpO (x y : OffV) : Int := firstI [cmpS x.t y.t, cmpS x.z y.z, cmpS x.k y.k]
theorem cmpO_lt (x y : OffV) : cmpO x y < 0 ↔ ltO x y = true := by
  unfold cmpO ltO
  simp only [firstI_cons, firstI_nil]
  unfold cmpS
  by_cases h1 : x.t = y.t
  · by_cases h2 : x.z = y.z
    · by_cases h3 : x.k < y.k
      · simp [h1, h2, h3, List.lt_irrefl]
      · by_cases h4 : x.k = y.k <;> simp [h1, h2, h3, h4, List.lt_irrefl]
    · by_cases h3 : x.z < y.z <;> simp [h1, h2, h3, List.lt_irrefl]
  · by_cases h3 : x.t < y.t <;> simp [h1, h3]
def tooE (most : Nat) (n : Nat) (e : Int) : Int := if most < n then 3 else e
noncomputable def reqsE (most : Nat) (l : List ReqV) : Int := tooE most l.length (scanE (atE wrongE l) l.length)
def upE {α : Type} (f : α → List α → Int) (l : List α) (i : Nat) : Int := match l[i]? with | some x => f x (l.take i) | none => 0
theorem upE_some {α : Type} {f : α → List α → Int} {l : List α} {i : Nat} {x : α} (h : l[i]? = some x) : upE f l i = f x (l.take i) := by unfold upE; rw [h]
noncomputable def tolE (t : TolV) (l : List TolV) : Int := if nameB t.k then (if (if t.y then decide (t.v = []) else valueB t.v) then (if l.any fun y => decide (t = y) then 6 else 0) else 20) else 7
noncomputable def tolsE (l : List TolV) : Int := tooE 4 l.length (scanE (upE tolE l) l.length)
noncomputable def tntE (t : LabV) (l : List LabV) : Int := if nameB t.k then (if valueB t.v then (if l.any fun y => decide (y.k = t.k) then 6 else 0) else 20) else 7
noncomputable def tntsE (l : List LabV) : Int := tooE 4 l.length (scanE (upE tntE l) l.length)
noncomputable def offE (o : OffV) (l : List OffV) : Int := if nmB o then (if l.any fun y => decide (o = y) then 6 else 0) else 7
noncomputable def offsE (l : List OffV) : Int := tooE 72 l.length (scanE (upE offE l) l.length)
def zoneS : Str := [122, 111, 110, 101]
def hostS : Str := [104, 111, 115, 116]
noncomputable def termE (k a : Str) : Int := if decide (k = zoneS) || decide (k = hostS) then (if nameB a then 0 else 7) else 1
noncomputable def termsE (l : List LabV) : Int := scanE (atE (fun x => termE x.k x.v) l) l.length
noncomputable def sprE (x : SprV) : Int := if termE x.k x.a = 0 then (if btw x.n 1 16 then 0 else 1) else termE x.k x.a
noncomputable def sprsE (l : List SprV) : Int := scanE (atE sprE l) l.length
noncomputable def allTE (s : List SprV) (n a : List LabV) : Int := if 3 < s.length ∨ 3 < n.length ∨ 3 < a.length then 3 else firstI [sprsE s, termsE n, termsE a]
noncomputable def coolE (x : CoolV) (ah : List CoolV) : Int := if cool1E x = 0 then (match ah.getLast? with | some y => if ltO y.o x.o then 0 else 6 | none => 0) else cool1E x
noncomputable def coolsE (l : List CoolV) : Int := tooE 72 l.length (scanE (upE coolE l) l.length)
theorem take_last {α : Type} {l : List α} {k : Nat} {p : α} (hk : 0 < k) (h : l[k - 1]? = some p) : (l.take k).getLast? = some p := by
  rw [List.getLast?_eq_getElem?, List.length_take]
  have := (List.getElem?_eq_some_iff.1 h).1
  rw [show min k l.length - 1 = k - 1 by omega, List.getElem?_take, if_pos (by omega)]
  exact h
end Go.Proofs.AM
namespace Go.Proofs.AM
open Go Go.Lib
noncomputable def podE (p : PodV) : Int := firstI [wantI (nameB p.name && nameB p.app) 7, amtsE p.n0 p.n1, wantI (btw p.prio (-1000) 1000) 1, reqsE 8 p.reqs, tolsE p.tols, allTE p.spr p.near p.apart, wantI (btw p.since 0 1099511627776) 1, wantI (noneB p.on) 7]
noncomputable def poolE (p : PoolV) : Int := firstI [wantI (nameB p.name) 7, wantI (btw p.weight 0 100) 1, amtsE p.l0 p.l1, reqsE 8 p.reqs, tntsE p.taints, wantI (btw p.gen 0 1099511627776 && (btw p.expire 0 1073741824 && (btw p.budget 0 16 && btw p.merge 0 2))) 1]
noncomputable def claimE (c : ClaimV) : Int := firstI [wantI (nameB c.name && (nameB c.pool && nmB c.off)) 7, amtE c.price, amtsE c.c0 c.c1, offsE c.opts, wantI (btw c.tries 1 32) 1, wantI (decide ((c.id.length : Int) ≤ 16)) 2, wantI (btw c.phase 1 4 && (btw c.gen 0 1099511627776 && btw c.born 0 1099511627776)) 1]
noncomputable def nodeE (x : Str) (ah : List Str) : Int := if nameB x then (match ah.getLast? with | some y => if decide (y < x) then 0 else 6 | none => 0) else 7
noncomputable def cmdE (c : CmdV) : Int := firstI [wantI (btw c.cause 1 4 && btw c.stp 1 3) 1, wantI (decide (c.nodes.length ≤ 4)) 3, wantI (decide (0 < c.nodes.length)) 1, scanE (upE nodeE c.nodes) c.nodes.length, wantI (btw c.til 0 1099511627776) 1, wantI (noneB c.fresh && noneB c.pool) 7, offsE c.opts]
noncomputable def chkE (x : AnyV) : Int := if x.kind = 1 then podE x.pod else if x.kind = 2 then poolE x.pool else if x.kind = 3 then claimE x.claim else if x.kind = 4 then cmdE x.cmd else if x.kind = 5 then cool1E x.cool else 1
theorem firstI_app (a b : List Int) : firstI (a ++ b) = if firstI a = 0 then firstI b else firstI a := by
  induction a with
  | nil => simp
  | cons x r ih =>
    rw [List.cons_append, firstI_cons, firstI_cons, ih]
    by_cases h : x = 0
    · simp [h]
    · simp [h]
def stepE (g : Nat → Int) (e0 e : Int) (k : Nat) : Prop := (k = 0 ∧ e = e0) ∨ (0 < k ∧ e0 = 0 ∧ e = g (k - 1) ∧ ∀ j, j < k - 1 → g j = 0)
theorem stepE_zero {g : Nat → Int} {e0 : Int} : stepE g e0 e0 0 := .inl ⟨rfl, rfl⟩
theorem stepE_next {g : Nat → Int} {e0 e e' : Int} {k : Nat} (h : stepE g e0 e k) (h0 : e = 0) (h1 : e' = g k) : stepE g e0 e' (k + 1) := by
  rcases h with ⟨rfl, rfl⟩ | ⟨h2, h3, h4, h5⟩
  · exact .inr ⟨by omega, h0, by simpa using h1, fun j hj => absurd hj (by omega)⟩
  · refine .inr ⟨by omega, h3, by simpa using h1, fun j hj => ?_⟩
    rcases (by omega : j < k - 1 ∨ j = k - 1) with h6 | rfl
    · exact h5 j h6
    · rw [← h4, h0]
theorem stepE_hit {g : Nat → Int} {e0 e : Int} {k n : Nat} {l : List Int} (h : stepE g e0 e k) (h0 : e ≠ 0) (hk : k ≤ n) : (if e0 = 0 then firstI (scanE g n :: l) else e0) = e := by
  rcases h with ⟨rfl, rfl⟩ | ⟨h2, h3, h4, h5⟩
  · rw [if_neg h0]
  · rw [if_pos h3, show scanE g n = e from scanE_hit (k := k - 1) (by omega) h5 h4 h0, firstI_cons, if_neg h0]
theorem stepE_end {g : Nat → Int} {e0 e : Int} {n : Nat} {l : List Int} (h : stepE g e0 e n) : (if e0 = 0 then firstI (scanE g n :: l) else e0) = firstI (e :: l) := by
  by_cases h0 : e = 0
  · rcases h with ⟨rfl, rfl⟩ | ⟨h2, h3, h4, h5⟩
    · rw [if_pos h0, h0]; rfl
    · rw [if_pos h3, h0, scanE_end fun j hj => by
        rcases (by omega : j < n - 1 ∨ j = n - 1) with h6 | rfl
        · exact h5 j h6
        · rw [← h4, h0]]
  · rw [stepE_hit h h0 (Nat.le_refl _), firstI_cons, if_neg h0]
theorem termsE_one (x : LabV) : termsE [x] = termE x.k x.v := by
  unfold termsE scanE
  simp [atE, firstI_cons]
  by_cases h : termE x.k x.v = 0 <;> simp [h]
end Go.Proofs.AM
namespace Go.Proofs.AM
open Go Go.Lib
theorem coolsE_one (c : CoolV) : coolsE [c] = cool1E c := by
  unfold coolsE tooE scanE
  simp [upE, firstI_cons, coolE]
  by_cases h : cool1E c = 0 <;> simp [h]
theorem scan_zero {g : Nat → Int} {n : Nat} : scanE g n = 0 ↔ ∀ j, j < n → g j = 0 :=
  ⟨fun h j hj => firstI_eq_zero h _ (List.mem_map.2 ⟨j, by simpa using hj, rfl⟩), scanE_end⟩
theorem scan_at {α : Type} {f : α → Int} {l : List α} : scanE (atE f l) l.length = 0 ↔ ∀ x ∈ l, f x = 0 := by
  rw [scan_zero]
  constructor
  · intro h x hx
    obtain ⟨j, hj⟩ := List.mem_iff_getElem?.1 hx
    have := h j (List.getElem?_eq_some_iff.1 hj).1
    rwa [atE_some hj] at this
  · intro h j hj
    rw [atE_some (List.getElem?_eq_getElem hj)]
    exact h _ (List.getElem_mem hj)
theorem scan_up {α : Type} {f : α → List α → Int} {l : List α} : scanE (upE f l) l.length = 0 ↔ ∀ i x, l[i]? = some x → f x (l.take i) = 0 := by
  rw [scan_zero]
  constructor
  · intro h i x hx
    have := h i (List.getElem?_eq_some_iff.1 hx).1
    rwa [upE_some hx] at this
  · intro h j hj
    rw [upE_some (List.getElem?_eq_getElem hj)]
    exact h _ _ (List.getElem?_eq_getElem hj)
theorem too_zero {m n : Nat} {e : Int} : tooE m n e = 0 ↔ n ≤ m ∧ e = 0 := by
  unfold tooE
  split
  · simp; omega
  · simp; omega
def less {α : Type} (n : Nat) (l : List α) : List α := l.take n ++ l.drop (n + 1)
theorem less_erase {α : Type} (n : Nat) (l : List α) : less n l = l.eraseIdx n := (List.eraseIdx_eq_take_drop_succ l n).symm
theorem less_ge {α : Type} {n : Nat} {l : List α} (h : l.length ≤ n) : less n l = l := by
  unfold less
  rw [List.take_of_length_le h, List.drop_eq_nil_of_le (by omega), List.append_nil]
theorem less_get {α : Type} (n : Nat) (l : List α) (i : Nat) : (less n l)[i]? = if i < n then l[i]? else l[i + 1]? := by
  rw [less_erase, List.getElem?_eraseIdx]
theorem less_len {α : Type} (n : Nat) (l : List α) : (less n l).length ≤ l.length := by
  unfold less; simp; omega
theorem less_mem {α : Type} {n : Nat} {l : List α} {x : α} (h : x ∈ less n l) : x ∈ l := by
  rw [less_erase] at h
  exact List.mem_of_mem_eraseIdx h
theorem at_less {α : Type} {f : α → Int} {l : List α} (n : Nat) (h : scanE (atE f l) l.length = 0) : scanE (atE f (less n l)) (less n l).length = 0 :=
  scan_at.2 fun x hx => scan_at.1 h x (less_mem hx)
theorem mem_take {α : Type} {l : List α} {i : Nat} {y : α} : y ∈ l.take i ↔ ∃ j, j < i ∧ l[j]? = some y := by
  rw [List.mem_iff_getElem?]
  constructor
  · rintro ⟨j, hj⟩
    rw [List.getElem?_take] at hj
    split at hj
    · exact ⟨j, ‹_›, hj⟩
    · simp at hj
  · rintro ⟨j, h1, h2⟩
    exact ⟨j, by rw [List.getElem?_take, if_pos h1, h2]⟩
theorem up_less {α : Type} {f : α → List α → Int} (hm : ∀ x a b, (∀ y ∈ b, y ∈ a) → f x a = 0 → f x b = 0) {l : List α} (n : Nat) (h : scanE (upE f l) l.length = 0) : scanE (upE f (less n l)) (less n l).length = 0 := by
  rw [scan_up] at h ⊢
  intro i x hx
  rw [less_get] at hx
  split at hx
  · rename_i hi
    refine hm x _ _ (fun y hy => ?_) (h i x hx)
    obtain ⟨j, h1, h2⟩ := mem_take.1 hy
    rw [less_get, if_pos (by omega)] at h2
    exact mem_take.2 ⟨j, h1, h2⟩
  · refine hm x _ _ (fun y hy => ?_) (h (i + 1) x hx)
    obtain ⟨j, h1, h2⟩ := mem_take.1 hy
    rw [less_get] at h2
    split at h2
    · exact mem_take.2 ⟨j, by omega, h2⟩
    · exact mem_take.2 ⟨j + 1, by omega, h2⟩
theorem any_sub {α : Type} {p : α → Bool} {a b : List α} (h : ∀ y ∈ b, y ∈ a) (h2 : a.any p = false) : b.any p = false := by
  rw [List.any_eq_false] at h2 ⊢
  exact fun y hy => h2 y (h y hy)
theorem tolE_less (x : TolV) (a b : List TolV) (h : ∀ y ∈ b, y ∈ a) (h2 : tolE x a = 0) : tolE x b = 0 := by
  unfold tolE at h2 ⊢
  obtain ⟨q, hq⟩ : ∃ q, q = nameB x.k := ⟨_, rfl⟩
  obtain ⟨u, hu⟩ : ∃ u, u = (if x.y then decide (x.v = []) else valueB x.v) := ⟨_, rfl⟩
  rw [← hq, ← hu] at h2 ⊢
  cases ha : a.any fun y => decide (x = y) with
  | false =>
    rw [any_sub h ha]
    rw [ha] at h2
    exact h2
  | true =>
    rw [ha] at h2
    cases q <;> cases u <;> simp at h2
theorem reqs_less {m : Nat} {l : List ReqV} (n : Nat) (h : reqsE m l = 0) : reqsE m (less n l) = 0 := by
  unfold reqsE at h ⊢
  rw [too_zero] at h ⊢
  have := less_len n l
  exact ⟨by omega, at_less n h.2⟩
theorem tols_less {l : List TolV} (n : Nat) (h : tolsE l = 0) : tolsE (less n l) = 0 := by
  unfold tolsE at h ⊢
  rw [too_zero] at h ⊢
  have := less_len n l
  exact ⟨by omega, up_less tolE_less n h.2⟩
theorem all_less {s : List SprV} {a b : List LabV} (n : Nat) (h : allTE s a b = 0) : allTE (less n s) (less n a) b = 0 := by
  unfold allTE at h ⊢
  split at h
  · simp at h
  · rename_i h1
    have h2 := firstI_eq_zero h
    have e1 := less_len n s
    have e2 := less_len n a
    rw [if_neg (by omega)]
    refine firstI_zero fun x hx => ?_
    simp only [List.mem_cons, List.not_mem_nil, or_false] at hx h2
    rcases hx with rfl | rfl | rfl
    · exact at_less n (h2 _ (.inl rfl))
    · exact at_less n (h2 _ (.inr (.inl rfl)))
    · exact h2 _ (.inr (.inr rfl))
def lessP (n : Nat) (p : PodV) : PodV := ⟨p.name, p.app, p.n0, p.n1, p.prio, less n p.reqs, less n p.tols, less n p.spr, less n p.near, p.apart, p.since, p.on⟩
theorem pod_less {p : PodV} (n : Nat) (h : podE p = 0) : podE (lessP n p) = 0 := by
  unfold podE at h ⊢
  have h2 := firstI_eq_zero h
  simp only [List.mem_cons, List.not_mem_nil, or_false] at h2
  refine firstI_zero fun x hx => ?_
  simp only [List.mem_cons, List.not_mem_nil, or_false] at hx
  unfold lessP at hx
  simp only at hx
  rcases hx with rfl | rfl | rfl | rfl | rfl | rfl | rfl | rfl
  · exact h2 _ (.inl rfl)
  · exact h2 _ (.inr (.inl rfl))
  · exact h2 _ (.inr (.inr (.inl rfl)))
  · exact reqs_less n (h2 _ (.inr (.inr (.inr (.inl rfl)))))
  · exact tols_less n (h2 _ (.inr (.inr (.inr (.inr (.inl rfl))))))
  · exact all_less n (h2 _ (.inr (.inr (.inr (.inr (.inr (.inl rfl)))))))
  · exact h2 _ (.inr (.inr (.inr (.inr (.inr (.inr (.inl rfl)))))))
  · exact h2 _ (.inr (.inr (.inr (.inr (.inr (.inr (.inr rfl)))))))
theorem pod_lens {p : PodV} (h : podE p = 0) : p.reqs.length ≤ 8 ∧ p.tols.length ≤ 4 ∧ p.spr.length ≤ 3 ∧ p.near.length ≤ 3 := by
  unfold podE at h
  have h2 := firstI_eq_zero h
  simp only [List.mem_cons, List.not_mem_nil, or_false] at h2
  have a := h2 _ (.inr (.inr (.inr (.inl rfl))))
  have b := h2 _ (.inr (.inr (.inr (.inr (.inl rfl)))))
  have c := h2 _ (.inr (.inr (.inr (.inr (.inr (.inl rfl))))))
  unfold reqsE at a
  unfold tolsE at b
  unfold allTE at c
  rw [too_zero] at a b
  split at c
  · simp at c
  · exact ⟨a.1, b.1, by omega, by omega⟩
theorem fls_less {α : Type} {F : α → Prop} {l : List α} (n : Nat) (h : FLs F l) : FLs F (less n l) := ⟨by have := less_len n l; have := h.len; omega, fun x hx => h.all x (less_mem hx)⟩
theorem fpod_less {p : PodV} (n : Nat) (h : FPod p) : FPod (lessP n p) := ⟨h.name, h.app, h.n0, h.n1, h.prio, fls_less n h.reqs, fls_less n h.tols, fls_less n h.spr, fls_less n h.near, h.apart, h.since, h.on⟩
def oneC (x : Str) (c : CmdV) : CmdV := ⟨c.cause, [x], c.stp, c.til, c.fresh, c.pool, c.opts, c.made⟩
theorem cmd_nodes {c : CmdV} (h : cmdE c = 0) : 1 ≤ c.nodes.length ∧ c.nodes.length ≤ 4 ∧ (∀ i x y, c.nodes[i]? = some x → c.nodes[i + 1]? = some y → x < y) ∧ ∀ x ∈ c.nodes, cmdE (oneC x c) = 0 := by
  unfold cmdE at h ⊢
  have h2 := firstI_eq_zero h
  simp only [List.mem_cons, List.not_mem_nil, or_false] at h2
  have w1 := h2 _ (.inl rfl)
  have w2 := h2 _ (.inr (.inl rfl))
  have w3 := h2 _ (.inr (.inr (.inl rfl)))
  have w4 := h2 _ (.inr (.inr (.inr (.inl rfl))))
  have w5 := h2 _ (.inr (.inr (.inr (.inr (.inl rfl)))))
  have w6 := h2 _ (.inr (.inr (.inr (.inr (.inr (.inl rfl))))))
  have w7 := h2 _ (.inr (.inr (.inr (.inr (.inr (.inr rfl))))))
  rw [scan_up] at w4
  have l1 : 0 < c.nodes.length := by
    refine Classical.byContradiction fun hn => ?_
    rw [decide_eq_false hn] at w3; simp at w3
  have l2 : c.nodes.length ≤ 4 := by
    refine Classical.byContradiction fun hn => ?_
    rw [decide_eq_false hn] at w2; simp at w2
  refine ⟨l1, l2, fun i x y hx hy => ?_, fun x hx => ?_⟩
  · have := w4 (i + 1) y hy
    unfold nodeE at this
    rw [take_last (by omega) (show c.nodes[i + 1 - 1]? = some x by simpa using hx)] at this
    split at this
    · simp only at this
      refine Classical.byContradiction fun hn => ?_
      rw [decide_eq_false hn] at this
      simp at this
    · simp at this
  · obtain ⟨i, hi⟩ := List.mem_iff_getElem?.1 hx
    have hn : nameB x = true := by
      have := w4 i x hi
      unfold nodeE at this
      split at this
      · assumption
      · simp at this
    refine firstI_zero fun z hz => ?_
    simp only [List.mem_cons, List.not_mem_nil, or_false, oneC] at hz
    rcases hz with rfl | rfl | rfl | rfl | rfl | rfl | rfl
    · exact w1
    · rfl
    · rfl
    · unfold scanE
      simp [upE, nodeE, hn, firstI_cons]
    · exact w5
    · exact w6
    · exact w7
def commandS : Str := [99, 111, 109, 109, 97, 110, 100]
noncomputable def nameT (x : AnyV) : Str := if chkE x ≠ 0 then [] else if x.kind = 1 then x.pod.name else if x.kind = 2 then x.pool.name else if x.kind = 3 then x.claim.name else if x.kind = 4 then commandS else x.cool.o.t ++ 47 :: (x.cool.o.z ++ 47 :: x.cool.o.k)
noncomputable def ofD (x : AnyV) : D := if x.kind = 1 then .iface 29 (podD x.pod) else if x.kind = 2 then .iface 32 (poolD x.pool) else if x.kind = 3 then .iface 37 (claimD x.claim) else if x.kind = 4 then .iface 40 (cmdD x.cmd) else if x.kind = 5 then .iface 42 (coolD x.cool) else .iface 3 (.int .i64 x.kind)
end Go.Proofs.AM
namespace Go.Proofs.AM
open Go Go.Lib Go.RowKit Go.Maps Go.Sort Go.Shelf
theorem cmp_bytes : ∀ a b : Str, Lib.compareBytes a b = cmpS a b
  | [], [] => by simp [Lib.compareBytes, cmpS]
  | [], _ :: _ => by simp [Lib.compareBytes, cmpS]
  | _ :: _, [] => by simp [Lib.compareBytes, cmpS]
  | x :: a, y :: b => by
    have ih := cmp_bytes a b
    unfold cmpS at ih ⊢
    unfold Lib.compareBytes
    by_cases h1 : x < y
    · rw [if_pos h1, if_pos (List.cons_lt_cons_iff.2 (.inl h1))]
    · rw [if_neg h1]
      by_cases h2 : y < x
      · have h3 : x ≠ y := fun e => by subst e; exact h1 h2
        rw [if_pos h2, if_neg (fun h => by
          rcases List.cons_lt_cons_iff.1 h with h | ⟨h, _⟩
          · exact h1 h
          · exact h3 h), if_neg (fun h => h3 (List.cons.inj h).1)]
      · have h3 : x = y := by
          apply UInt8.toNat_inj.1
          have h4 : ¬ x.toNat < y.toNat := h1
          have h5 : ¬ y.toNat < x.toNat := h2
          omega
        subst h3
        rw [if_neg h1, ih]
        by_cases h6 : a < b
        · rw [if_pos h6, if_pos (List.cons_lt_cons_iff.2 (.inr ⟨rfl, h6⟩))]
        · rw [if_neg h6, if_neg (show ¬ (x :: a < x :: b) from fun h => by
            rcases List.cons_lt_cons_iff.1 h with h | ⟨_, h⟩
            · exact h1 h
            · exact h6 h)]
          by_cases h7 : a = b
          · rw [if_pos h7, if_pos (by rw [h7])]
          · rw [if_neg h7, if_neg (show ¬ (x :: a = x :: b) from fun h => h7 (List.cons.inj h).2)]
theorem cmp88 (a b : Str) : (PR Tryz.prog (Gd Tryz.prog)).v 88 [mkS a, mkS b] (.int .i64 (cmpS a b)) := by
  refine ⟨enters_of Tryz.func88 (by kernel_rfl) rfl, rfl, fun w S vs hG hv => ?_⟩
  simp only [RVs, RV, mkS] at hv
  obtain ⟨_, _, e1, rfl, _, _, rfl, rfl, rfl⟩ := hv
  obtain rfl : vs = #[.string ⟨⟨a⟩⟩, .string ⟨⟨b⟩⟩] := by apply Array.toList_inj.1; rw [e1]
  refine (Any.strings_Compare Tryz.laysCmp ⟨⟨a⟩⟩ ⟨⟨b⟩⟩ w).mono ?_
  rintro e w' ⟨rfl, rfl⟩
  exact ⟨_, rfl, Below.refl _ _, by simp only [RV]; rw [← cmp_bytes]⟩
theorem extraJoin : Builder.Extra Tryz.prog Tryz.laysJoin_ren where
  sizeBuilder := by kernel_rfl
  liesBuilder := by kernel_rfl
  t5 := Tryz.underlying5
  a5 := Tryz.isAgg5
  z5 := Tryz.sizeOf5
  v5 := Tryz.zeroValue5
  infoByte := by kernel_rfl
  cellsByte := by kernel_rfl
  sizeByte := by kernel_rfl
  neB5 := by decide
theorem join46 (a b c : Str) (h : a.length + b.length + c.length ≤ 1000) : (PR Tryz.prog (Gd Tryz.prog)).v 46 [.sl 1 false [mkS a, mkS b, mkS c], mkS [47]] (mkS (a ++ 47 :: (b ++ 47 :: c))) := by
  refine ⟨enters_of Tryz.func46 (by kernel_rfl) rfl, rfl, fun w S vs hG hv => ?_⟩
  simp only [RVs, RV, RSl, mkS] at hv
  obtain ⟨_, _, e1, ⟨ad, cap, rfl, hcap, _, _, ⟨ad', _, rfl, _, hlt, rfl, _, _, c0⟩, ⟨_, _, e2, _, _, rfl, _, _, c1⟩, ⟨_, _, e3, _, _, rfl, _, _, c2⟩, _⟩, _, _, rfl, rfl, rfl⟩ := hv
  simp only [Option.some.injEq] at e2 e3
  subst e2 e3
  replace c0 := c0 0 (by omega)
  replace c1 := c1 0 (by omega)
  replace c2 := c2 0 (by omega)
  obtain ⟨bk, o, sp⟩ := ad'
  have hsp : sp = none := by
    cases sp with
    | none => rfl
    | some x =>
      simp only [Addr.add, World.cell?] at c0
      simp [Value.cells] at c0
      split at c0 <;> simp at c0
  subst hsp
  obtain rfl : vs = #[.slice (some ⟨bk, o, none⟩) 3 cap, .string ⟨⟨[47]⟩⟩] := by apply Array.toList_inj.1; rw [e1]; rfl
  refine (Any.strings_Join Tryz.laysJoin extraJoin bk o cap [⟨⟨a⟩⟩, ⟨⟨b⟩⟩, ⟨⟨c⟩⟩] ⟨⟨[47]⟩⟩ w ?_ hlt (by simp) hcap ?_).mono ?_
  · intro j x hx
    match j, hx with
    | 0, hx => simp at hx; subst hx; simpa [Addr.add, Value.cells] using c0
    | 1, hx => simp at hx; subst hx; simpa [Addr.add, Value.cells] using c1
    | 2, hx => simp at hx; subst hx; simpa [Addr.add, Value.cells] using c2
    | j + 3, hx => simp at hx
  · simp [Lib.join, List.intercalate]; omega
  rintro e w' ⟨rfl, hb⟩
  refine ⟨_, rfl, hb, ?_⟩
  unfold mkS
  simp only [RV]
  simp [Lib.join, List.intercalate]
end Go.Proofs.AM
namespace Go.Proofs.AM
open Go Go.Lib Cd
set_option maxRecDepth 100000 in
theorem amt62_ok (R : Ans) (n : Int) : AnsF R c62 [.int .i64 n] (.int .i64 (amtE n)) := by
  obtain ⟨r, hr⟩ : ∃ r, r = amtE n := ⟨_, rfl⟩
  rw [← hr]
  refine wpF_sound ⟨rfl, by decide⟩ fun O hO V hV => ?_
  subst hV
  conv => cbv
  repeat' (rintro (_ | _) h <;> (first | replace h := ci hO h | replace h := cs hO h) <;> (dsimp only [CmpI, CmpS] at h) <;> (conv => cbv))
  all_goals (rw [hr]; unfold amtE; (repeat' split) <;> first | rfl | omega)
set_option maxRecDepth 100000 in
theorem amt117_ok (R : Ans) (n : Int) : AnsF R c117 [.int .i64 n] (.int .i64 (amtE n)) := by
  obtain ⟨r, hr⟩ : ∃ r, r = amtE n := ⟨_, rfl⟩
  rw [← hr]
  refine wpF_sound ⟨rfl, by decide⟩ fun O hO V hV => ?_
  subst hV
  conv => cbv
  repeat' (rintro (_ | _) h <;> (first | replace h := ci hO h | replace h := cs hO h) <;> (dsimp only [CmpI, CmpS] at h) <;> (conv => cbv))
  all_goals (rw [hr]; unfold amtE; (repeat' split) <;> first | rfl | omega)
set_option maxRecDepth 100000 in
theorem amts111_ok (R : Ans) (a b : Int) (h117 : ∀ n, R.v 117 [.int .i64 n] (.int .i64 (amtE n))) : AnsF R c111 [.agg [.int .i64 a, .int .i64 b]] (.int .i64 (amtsE a b)) := by
  obtain ⟨r, hr⟩ : ∃ r, r = amtsE a b := ⟨_, rfl⟩
  have k1 := h117 a
  have k2 := h117 b
  rw [← hr]
  unfold amtsE at hr
  obtain ⟨e1, he1⟩ : ∃ e, e = amtE a := ⟨_, rfl⟩
  obtain ⟨e2, he2⟩ : ∃ e, e = amtE b := ⟨_, rfl⟩
  rw [← he1] at k1 hr
  rw [← he2] at k2 hr
  refine wpF_sound ⟨rfl, by decide⟩ fun O hO V hV => ?_
  subst hV
  conv => cbv
  repeat' (first | (rintro (_ | _) h <;> (first | replace h := ci hO h | replace h := cs hO h) <;> (dsimp only [CmpI, CmpS] at h) <;> (conv => cbv)) | (refine ⟨_, by assumption, ?_⟩; (conv => cbv)))
  all_goals (rw [hr]; (repeat' split) <;> first | rfl | omega)
set_option maxRecDepth 100000 in
theorem want54_ok (R : Ans) (b : Bool) (e : Int) : AnsF R c54 [.bool b, .int .i64 e] (.int .i64 (wantI b e)) := by
  refine wpF_sound ⟨rfl, by decide⟩ fun O hO V hV => ?_
  subst hV
  cases b <;> (conv => cbv) <;> trivial
set_option maxRecDepth 100000 in
theorem btw59_ok (R : Ans) (n lo hi : Int) : AnsF R c59 [.int .i64 n, .int .i64 lo, .int .i64 hi] (.bool (btw n lo hi)) := by
  obtain ⟨r, hr⟩ : ∃ r, r = btw n lo hi := ⟨_, rfl⟩
  rw [← hr]
  refine wpF_sound ⟨rfl, by decide⟩ fun O hO V hV => ?_
  subst hV
  conv => cbv
  repeat' (rintro (_ | _) h <;> (first | replace h := ci hO h | replace h := cs hO h) <;> (dsimp only [CmpI, CmpS] at h) <;> (conv => cbv))
  all_goals (rw [hr]; unfold btw; simp; omega)
set_option maxRecDepth 100000 in
theorem btw114_ok (R : Ans) (n lo hi : Int) : AnsF R c114 [.int .i64 n, .int .i64 lo, .int .i64 hi] (.bool (btw n lo hi)) := by
  obtain ⟨r, hr⟩ : ∃ r, r = btw n lo hi := ⟨_, rfl⟩
  rw [← hr]
  refine wpF_sound ⟨rfl, by decide⟩ fun O hO V hV => ?_
  subst hV
  conv => cbv
  repeat' (rintro (_ | _) h <;> (first | replace h := ci hO h | replace h := cs hO h) <;> (dsimp only [CmpI, CmpS] at h) <;> (conv => cbv))
  all_goals (rw [hr]; unfold btw; simp; omega)
set_option maxRecDepth 100000 in
theorem none60_ok (R : Ans) (s : Str) (h89 : R.v 89 [mkS s] (.bool (nameB s))) : AnsF R c60 [mkS s] (.bool (noneB s)) := by
  obtain ⟨r, hr⟩ : ∃ r, r = noneB s := ⟨_, rfl⟩
  rw [← hr]
  unfold noneB at hr
  obtain ⟨q, hq⟩ : ∃ q, q = nameB s := ⟨_, rfl⟩
  rw [← hq] at h89 hr
  clear hq
  refine wpF_sound ⟨rfl, by decide⟩ fun O hO V hV => ?_
  subst hV
  cases q <;> (conv => cbv)
  all_goals (repeat' (first | (rintro (_ | _) h <;> (first | replace h := ci hO h | replace h := cs hO h) <;> (dsimp only [CmpI, CmpS] at h) <;> (conv => cbv)) | (refine ⟨_, by assumption, ?_⟩; (conv => cbv))))
  all_goals (rw [hr]; simp [h])
set_option maxRecDepth 100000 in
theorem notname122_ok (R : Ans) (s : Str) (h89 : R.v 89 [mkS s] (.bool (nameB s))) : AnsF R c122 [mkS s] (.bool (!nameB s)) := by
  obtain ⟨q, hq⟩ : ∃ q, q = nameB s := ⟨_, rfl⟩
  rw [← hq] at h89 ⊢
  clear hq
  refine wpF_sound ⟨rfl, by decide⟩ fun O hO V hV => ?_
  subst hV
  conv => cbv
  refine ⟨_, h89, ?_⟩
  cases q <;> (conv => cbv) <;> trivial
set_option maxRecDepth 100000 in
theorem named55_ok (R : Ans) (l : List Str) (h121 : ∀ b : Bool, (b = true ↔ ∃ y ∈ l, (!nameB y) = true) → R.v 121 [.sl 1 false (l.map mkS), .fn 122 [] []] (.bool b)) : AnsF R c55 [.sl 1 false (l.map mkS)] (.bool (l.all nameB)) := by
  obtain ⟨q, hq⟩ : ∃ q, q = !l.all nameB := ⟨_, rfl⟩
  have k := h121 q (by rw [hq]; simp)
  rw [show l.all nameB = !q by rw [hq]; simp]
  clear hq h121
  obtain ⟨xs, hxs⟩ : ∃ xs, xs = l.map mkS := ⟨_, rfl⟩
  have hcx : CleanL xs := cleanL_map clean_S hxs
  rw [← hxs] at k ⊢
  refine wpF_sound ⟨rfl, by decide⟩ fun O hO V hV => ?_
  subst hV
  conv => cbv
  refine ⟨hcx, _, k, ?_⟩
  cases q <;> (conv => cbv) <;> trivial
set_option maxRecDepth 100000 in
theorem names116_ok (R : Ans) (o : OffV) (hf : FO o) (h110 : ∀ s, SL s → R.v 110 [mkS s] (.bool (nameB s))) : AnsF R c116 [offD o] (.bool (nmB o)) := by
  obtain ⟨x, y, z⟩ := o
  have k1 := h110 x hf.t
  have k2 := h110 y hf.z
  have k3 := h110 z hf.k
  obtain ⟨r, hr⟩ : ∃ r, r = nmB ⟨x, y, z⟩ := ⟨_, rfl⟩
  rw [← hr]
  unfold nmB at hr
  simp only at hr
  obtain ⟨q1, hq1⟩ : ∃ q, q = nameB x := ⟨_, rfl⟩
  obtain ⟨q2, hq2⟩ : ∃ q, q = nameB y := ⟨_, rfl⟩
  obtain ⟨q3, hq3⟩ : ∃ q, q = nameB z := ⟨_, rfl⟩
  rw [← hq1] at k1 hr
  rw [← hq2] at k2 hr
  rw [← hq3] at k3 hr
  clear hq1 hq2 hq3 h110
  unfold offD
  simp only
  refine wpF_sound ⟨rfl, by decide⟩ fun O hO V hV => ?_
  subst hV
  cases q1 <;> cases q2 <;> cases q3 <;> (conv => cbv)
  all_goals (repeat' (refine ⟨_, by assumption, ?_⟩; (conv => cbv)))
  all_goals (rw [hr]; rfl)
set_option maxRecDepth 100000 in
theorem cool108_ok (R : Ans) (c : CoolV) (hf : FO c.o) (h89 : ∀ s, SL s → R.v 89 [mkS s] (.bool (nameB s))) : AnsF R c108 [coolD c] (.int .i64 (cool1E c)) := by
  obtain ⟨⟨x, y, z⟩, u⟩ := c
  have k1 := h89 x hf.t
  have k2 := h89 y hf.z
  have k3 := h89 z hf.k
  obtain ⟨r, hr⟩ : ∃ r, r = cool1E ⟨⟨x, y, z⟩, u⟩ := ⟨_, rfl⟩
  rw [← hr]
  unfold cool1E nmB btw at hr
  simp only at hr
  obtain ⟨q1, hq1⟩ : ∃ q, q = nameB x := ⟨_, rfl⟩
  obtain ⟨q2, hq2⟩ : ∃ q, q = nameB y := ⟨_, rfl⟩
  obtain ⟨q3, hq3⟩ : ∃ q, q = nameB z := ⟨_, rfl⟩
  rw [← hq1] at k1 hr
  rw [← hq2] at k2 hr
  rw [← hq3] at k3 hr
  clear hq1 hq2 hq3 h89
  unfold coolD coolC
  simp only
  refine wpF_sound ⟨rfl, by decide⟩ fun O hO V hV => ?_
  subst hV
  cases q1 <;> cases q2 <;> cases q3 <;> (conv => cbv)
  all_goals (repeat' (first | (rintro (_ | _) h <;> (first | replace h := ci hO h | replace h := cs hO h) <;> (dsimp only [CmpI, CmpS] at h) <;> (conv => cbv)) | (refine ⟨_, by assumption, ?_⟩; (conv => cbv))))
  all_goals (rw [hr]; simp; try omega)
set_option maxRecDepth 100000 in
theorem cool119_ok (R : Ans) (c : CoolV) (hf : FO c.o) (h110 : ∀ s, SL s → R.v 110 [mkS s] (.bool (nameB s))) : AnsF R c119 [coolD c] (.int .i64 (cool1E c)) := by
  obtain ⟨⟨x, y, z⟩, u⟩ := c
  have k1 := h110 x hf.t
  have k2 := h110 y hf.z
  have k3 := h110 z hf.k
  obtain ⟨r, hr⟩ : ∃ r, r = cool1E ⟨⟨x, y, z⟩, u⟩ := ⟨_, rfl⟩
  rw [← hr]
  unfold cool1E nmB btw at hr
  simp only at hr
  obtain ⟨q1, hq1⟩ : ∃ q, q = nameB x := ⟨_, rfl⟩
  obtain ⟨q2, hq2⟩ : ∃ q, q = nameB y := ⟨_, rfl⟩
  obtain ⟨q3, hq3⟩ : ∃ q, q = nameB z := ⟨_, rfl⟩
  rw [← hq1] at k1 hr
  rw [← hq2] at k2 hr
  rw [← hq3] at k3 hr
  clear hq1 hq2 hq3 h110
  unfold coolD coolC
  simp only
  refine wpF_sound ⟨rfl, by decide⟩ fun O hO V hV => ?_
  subst hV
  cases q1 <;> cases q2 <;> cases q3 <;> (conv => cbv)
  all_goals (repeat' (first | (rintro (_ | _) h <;> (first | replace h := ci hO h | replace h := cs hO h) <;> (dsimp only [CmpI, CmpS] at h) <;> (conv => cbv)) | (refine ⟨_, by assumption, ?_⟩; (conv => cbv))))
  all_goals (rw [hr]; simp; try omega)
end Go.Proofs.AM
namespace Go.Proofs.AM
open Go Go.Lib Cd
set_option maxRecDepth 100000 in
set_option maxHeartbeats 1000000 in
theorem index202_ok (R : Ans) (l : List TolV) (hl : l.length < 4611686018427387904) (x : TolV) : AnsF R c202 [.sl 3 false (l.map tolD), tolD x] (.int .i64 (idxI (fun y => decide (x = y)) l)) := by
  obtain ⟨xs, hxs⟩ : ∃ xs, xs = l.map tolD := ⟨_, rfl⟩
  obtain ⟨r, hr⟩ : ∃ r, r = idxI (fun y => decide (x = y)) l := ⟨_, rfl⟩
  rw [← hxs, ← hr]
  refine wpF_sound ⟨rfl, by decide⟩ fun O hO V hV => ?_
  subst hV
  have hlen : O .len xs = l.length := by rw [o_len hO, hxs]; simp
  conv => cbv
  refine loop_of (fun n d => ∃ (i : Int) (k : Nat), d = ⟨[(0, .sl 3 false xs), (3, .ptr 3 1 0), (7, .int .i64 (O .len xs)), (8, .int .i64 i)], [(3, ⟨1, .rw, .var, [mkS x.k, mkS x.v, .bool x.y]⟩)], false⟩ ∧ i = k ∧ k ≤ l.length ∧ n = l.length - k ∧ ∀ j y, j < k → l[j]? = some y → decide (x = y) = false) ⟨_, _, ⟨_, 0, rfl, rfl, by omega, rfl, by simp⟩, ⟨⟨rfl, rfl, rfl, rfl, trivial⟩, ⟨rfl, trivial⟩, rfl⟩⟩ ?_
  rintro J up n d ⟨i, k, rfl, hi, hk, rfl, hno⟩
  conv => cbv
  rintro (_ | _) h1
  · replace h1 := f_lss hO h1
    rw [hlen] at h1
    conv => cbv
    rw [hr, idxI_none fun y hy => by
      obtain ⟨j, hj⟩ := List.mem_iff_getElem?.1 hy
      exact hno j y (by have := (List.getElem?_eq_some_iff.1 hj).1; omega) hj]
  · replace h1 := t_lss hO h1
    rw [hlen] at h1
    obtain ⟨y, hy⟩ : ∃ y, l[k]? = some y := ⟨_, List.getElem?_eq_getElem (by omega)⟩
    conv => cbv
    refine ⟨tolD y, atX_map hy hxs hi, ?_⟩
    conv => cbv
    intro t ht
    replace ht := eqc_tol hO ht
    cases t with
    | false =>
      conv => cbv
      refine ⟨_, _, up _ _ ⟨_, k + 1, rfl, ?_, by omega, rfl, ?_⟩, ⟨⟨rfl, rfl, rfl, rfl, trivial⟩, ⟨rfl, trivial⟩, rfl⟩, by omega⟩
      · rw [o_add64 hO (by omega) (by omega)]; omega
      · exact hno_step hno hy ht.symm
    | true =>
      conv => cbv
      rw [hr, idxI_hit hy ht.symm hno, hi]
set_option maxRecDepth 100000 in
set_option maxHeartbeats 1000000 in
theorem index204_ok (R : Ans) (l : List OffV) (hl : l.length < 4611686018427387904) (x : OffV) : AnsF R c204 [.sl 3 false (l.map offD), offD x] (.int .i64 (idxI (fun y => decide (x = y)) l)) := by
  obtain ⟨xs, hxs⟩ : ∃ xs, xs = l.map offD := ⟨_, rfl⟩
  obtain ⟨r, hr⟩ : ∃ r, r = idxI (fun y => decide (x = y)) l := ⟨_, rfl⟩
  rw [← hxs, ← hr]
  refine wpF_sound ⟨rfl, by decide⟩ fun O hO V hV => ?_
  subst hV
  have hlen : O .len xs = l.length := by rw [o_len hO, hxs]; simp
  conv => cbv
  refine loop_of (fun n d => ∃ (i : Int) (k : Nat), d = ⟨[(0, .sl 3 false xs), (3, .ptr 3 1 0), (7, .int .i64 (O .len xs)), (8, .int .i64 i)], [(3, ⟨1, .rw, .var, [mkS x.t, mkS x.z, mkS x.k]⟩)], false⟩ ∧ i = k ∧ k ≤ l.length ∧ n = l.length - k ∧ ∀ j y, j < k → l[j]? = some y → decide (x = y) = false) ⟨_, _, ⟨_, 0, rfl, rfl, by omega, rfl, by simp⟩, ⟨⟨rfl, rfl, rfl, rfl, trivial⟩, ⟨rfl, trivial⟩, rfl⟩⟩ ?_
  rintro J up n d ⟨i, k, rfl, hi, hk, rfl, hno⟩
  conv => cbv
  rintro (_ | _) h1
  · replace h1 := f_lss hO h1
    rw [hlen] at h1
    conv => cbv
    rw [hr, idxI_none fun y hy => by
      obtain ⟨j, hj⟩ := List.mem_iff_getElem?.1 hy
      exact hno j y (by have := (List.getElem?_eq_some_iff.1 hj).1; omega) hj]
  · replace h1 := t_lss hO h1
    rw [hlen] at h1
    obtain ⟨y, hy⟩ : ∃ y, l[k]? = some y := ⟨_, List.getElem?_eq_getElem (by omega)⟩
    conv => cbv
    refine ⟨offD y, atX_map hy hxs hi, ?_⟩
    conv => cbv
    intro t ht
    replace ht := eqc_off hO ht
    cases t with
    | false =>
      conv => cbv
      refine ⟨_, _, up _ _ ⟨_, k + 1, rfl, ?_, by omega, rfl, ?_⟩, ⟨⟨rfl, rfl, rfl, rfl, trivial⟩, ⟨rfl, trivial⟩, rfl⟩, by omega⟩
      · rw [o_add64 hO (by omega) (by omega)]; omega
      · exact hno_step hno hy ht.symm
    | true =>
      conv => cbv
      rw [hr, idxI_hit hy ht.symm hno, hi]
set_option maxRecDepth 100000 in
set_option maxHeartbeats 1000000 in
theorem contains123_ok (R : Ans) (l : List TolV) (x : TolV) (hI : R.v 202 [.sl 3 false (l.map tolD), tolD x] (.int .i64 (idxI (fun y => decide (x = y)) l))) : AnsF R c123 [.sl 3 false (l.map tolD), tolD x] (.bool (l.any fun y => decide (x = y))) := by
  obtain ⟨xs, hxs⟩ : ∃ xs, xs = l.map tolD := ⟨_, rfl⟩
  have hcx : CleanL xs := cleanL_map (fun _ => ⟨rfl, rfl⟩) hxs
  obtain ⟨r, hr⟩ : ∃ r, r = l.any fun y => decide (x = y) := ⟨_, rfl⟩
  have hn := idxI_any (fun y => decide (x = y)) l
  obtain ⟨n, hn'⟩ : ∃ n, n = idxI (fun y => decide (x = y)) l := ⟨_, rfl⟩
  rw [← hn'] at hI hn
  rw [← hxs] at hI ⊢
  rw [← hr] at hn ⊢
  refine wpF_sound ⟨rfl, by decide⟩ fun O hO V hV => ?_
  subst hV
  conv => cbv
  refine ⟨hcx, _, hI, ?_⟩
  conv => cbv
  rintro (_ | _) h <;> replace h := ci hO h <;> dsimp only [CmpI] at h <;> (conv => cbv)
  all_goals (cases r <;> first | rfl | (simp at hn; omega))
set_option maxRecDepth 100000 in
set_option maxHeartbeats 1000000 in
theorem contains127_ok (R : Ans) (l : List OffV) (x : OffV) (hI : R.v 204 [.sl 3 false (l.map offD), offD x] (.int .i64 (idxI (fun y => decide (x = y)) l))) : AnsF R c127 [.sl 3 false (l.map offD), offD x] (.bool (l.any fun y => decide (x = y))) := by
  obtain ⟨xs, hxs⟩ : ∃ xs, xs = l.map offD := ⟨_, rfl⟩
  have hcx : CleanL xs := cleanL_map (fun _ => ⟨rfl, rfl⟩) hxs
  obtain ⟨r, hr⟩ : ∃ r, r = l.any fun y => decide (x = y) := ⟨_, rfl⟩
  have hn := idxI_any (fun y => decide (x = y)) l
  obtain ⟨n, hn'⟩ : ∃ n, n = idxI (fun y => decide (x = y)) l := ⟨_, rfl⟩
  rw [← hn'] at hI hn
  rw [← hxs] at hI ⊢
  rw [← hr] at hn ⊢
  refine wpF_sound ⟨rfl, by decide⟩ fun O hO V hV => ?_
  subst hV
  conv => cbv
  refine ⟨hcx, _, hI, ?_⟩
  conv => cbv
  rintro (_ | _) h <;> replace h := ci hO h <;> dsimp only [CmpI] at h <;> (conv => cbv)
  all_goals (cases r <;> first | rfl | (simp at hn; omega))
set_option maxRecDepth 100000 in
set_option maxHeartbeats 1000000 in
theorem indexf203_ok (R : Ans) (f : Nat) (p : LabV → Bool) (l : List LabV) (hl : l.length < 4611686018427387904) (x : LabV) (hp : ∀ y ∈ l, R.v f [labD y, .vptr (labD x) 0] (.bool (p y))) : AnsF R c203 [.sl 2 false (l.map labD), .fn f [] [.vptr (labD x) 0]] (.int .i64 (idxI p l)) := by
  obtain ⟨xs, hxs⟩ : ∃ xs, xs = l.map labD := ⟨_, rfl⟩
  obtain ⟨r, hr⟩ : ∃ r, r = idxI p l := ⟨_, rfl⟩
  rw [← hxs, ← hr]
  refine wpF_sound ⟨rfl, by decide⟩ fun O hO V hV => ?_
  subst hV
  have hlen : O .len xs = l.length := by rw [o_len hO, hxs]; simp
  conv => cbv
  refine loop_of (fun n d => ∃ (i : Int) (k : Nat), d = ⟨[(0, .sl 2 false xs), (1, .fn f [] [.vptr (labD x) 0]), (7, .int .i64 (O .len xs)), (8, .int .i64 i)], [], false⟩ ∧ i = k ∧ k ≤ l.length ∧ n = l.length - k ∧ ∀ j y, j < k → l[j]? = some y → p y = false) ⟨_, _, ⟨_, 0, rfl, rfl, by omega, rfl, by simp⟩, ⟨⟨rfl, rfl, rfl, rfl, trivial⟩, trivial, rfl⟩⟩ ?_
  rintro J up n d ⟨i, k, rfl, hi, hk, rfl, hno⟩
  conv => cbv
  rintro (_ | _) h1
  · replace h1 := f_lss hO h1
    rw [hlen] at h1
    conv => cbv
    rw [hr, idxI_none fun y hy => by
      obtain ⟨j, hj⟩ := List.mem_iff_getElem?.1 hy
      exact hno j y (by have := (List.getElem?_eq_some_iff.1 hj).1; omega) hj]
  · replace h1 := t_lss hO h1
    rw [hlen] at h1
    obtain ⟨y, hy⟩ : ∃ y, l[k]? = some y := ⟨_, List.getElem?_eq_getElem (by omega)⟩
    have hc := hp y (List.mem_of_getElem? hy)
    obtain ⟨q, hq⟩ : ∃ q, q = p y := ⟨_, rfl⟩
    rw [← hq] at hc
    conv => cbv
    refine ⟨labD y, atX_map hy hxs hi, ?_⟩
    conv => cbv
    refine ⟨⟨rfl, rfl⟩, _, hc, ?_⟩
    conv => cbv
    cases q with
    | false =>
      conv => cbv
      refine ⟨_, _, up _ _ ⟨_, k + 1, rfl, ?_, by omega, rfl, ?_⟩, ⟨⟨rfl, rfl, rfl, rfl, trivial⟩, trivial, rfl⟩, by omega⟩
      · rw [o_add64 hO (by omega) (by omega)]; omega
      · exact hno_step hno hy hq.symm
    | true =>
      conv => cbv
      rw [hr, idxI_hit hy hq.symm hno, hi]
set_option maxRecDepth 100000 in
set_option maxHeartbeats 1000000 in
theorem containsf125_ok (R : Ans) (f : Nat) (p : LabV → Bool) (l : List LabV) (x : LabV) (hI : R.v 203 [.sl 2 false (l.map labD), .fn f [] [.vptr (labD x) 0]] (.int .i64 (idxI p l))) : AnsF R c125 [.sl 2 false (l.map labD), .fn f [] [.vptr (labD x) 0]] (.bool (l.any p)) := by
  obtain ⟨xs, hxs⟩ : ∃ xs, xs = l.map labD := ⟨_, rfl⟩
  have hcx : CleanL xs := cleanL_map (fun _ => ⟨rfl, rfl⟩) hxs
  obtain ⟨r, hr⟩ : ∃ r, r = l.any p := ⟨_, rfl⟩
  have hn := idxI_any p l
  obtain ⟨n, hn'⟩ : ∃ n, n = idxI p l := ⟨_, rfl⟩
  rw [← hn'] at hI hn
  rw [← hxs] at hI ⊢
  rw [← hr] at hn ⊢
  refine wpF_sound ⟨rfl, by decide⟩ fun O hO V hV => ?_
  subst hV
  conv => cbv
  refine ⟨hcx, ⟨rfl, rfl⟩, _, hI, ?_⟩
  conv => cbv
  rintro (_ | _) h <;> replace h := ci hO h <;> dsimp only [CmpI] at h <;> (conv => cbv)
  all_goals (cases r <;> first | rfl | (simp at hn; omega))
end Go.Proofs.AM
namespace Go.Proofs.AM
open Go Go.Lib Cd
def iD (n : Int) : D := .int .i64 n
set_option maxRecDepth 100000 in
set_option maxHeartbeats 2000000 in
theorem first53_ok (R : Ans) (l : List Int) (hl : l.length < 4611686018427387904) : AnsF R c53 [.sl 1 false (l.map iD)] (.int .i64 (firstI l)) := by
  obtain ⟨xs, hxs⟩ : ∃ xs, xs = l.map iD := ⟨_, rfl⟩
  obtain ⟨r, hr⟩ : ∃ r, r = firstI l := ⟨_, rfl⟩
  rw [← hxs, ← hr]
  refine wpF_sound ⟨rfl, by decide⟩ fun O hO V hV => ?_
  subst hV
  have hlen : O .len xs = l.length := by rw [o_len hO, hxs]; simp
  conv => cbv
  refine loop_of (fun n d => ∃ (i : Int) (k : Nat), d = ⟨[(5, .sl 1 false xs), (6, .int .i64 (O .len xs)), (7, .int .i64 i)], [], false⟩ ∧ i = k ∧ k ≤ l.length ∧ n = l.length - k ∧ ∀ (j : Nat) y, j < k → l[j]? = some y → y = 0) ⟨_, _, ⟨_, 0, rfl, rfl, by omega, rfl, by simp⟩, ⟨⟨rfl, rfl, rfl, trivial⟩, trivial, rfl⟩⟩ ?_
  rintro J up n d ⟨i, k, rfl, hi, hk, rfl, hno⟩
  conv => cbv
  rintro (_ | _) h1
  · replace h1 := f_lss hO h1
    rw [hlen] at h1
    conv => cbv
    rw [hr, firstI_zero fun y hy => by
      obtain ⟨j, hj⟩ := List.mem_iff_getElem?.1 hy
      exact hno j y (by have := (List.getElem?_eq_some_iff.1 hj).1; omega) hj]
  · replace h1 := t_lss hO h1
    rw [hlen] at h1
    obtain ⟨y, hy⟩ : ∃ y, l[k]? = some y := ⟨_, List.getElem?_eq_getElem (by omega)⟩
    conv => cbv
    refine ⟨iD y, atX_map hy hxs hi, ?_⟩
    conv => cbv
    rintro (_ | _) h2
    · replace h2 := f_neq hO h2
      conv => cbv
      refine ⟨_, _, up _ _ ⟨_, k + 1, rfl, ?_, by omega, rfl, ?_⟩, ⟨⟨rfl, rfl, rfl, trivial⟩, trivial, rfl⟩, by omega⟩
      · rw [o_add64 hO (by omega) (by omega)]; omega
      · intro j z hj hz
        rcases Nat.lt_succ_iff_lt_or_eq.1 hj with h3 | rfl
        · exact hno j z h3 hz
        · rw [hy] at hz; simp only [Option.some.injEq] at hz; rw [← hz, h2]
    · replace h2 := t_neq hO h2
      conv => cbv
      rw [hr, firstI_hit hy h2 hno]
set_option maxRecDepth 100000 in
set_option maxHeartbeats 2000000 in
theorem amts56_ok (R : Ans) (a b : Int) (h62 : ∀ n, R.v 62 [.int .i64 n] (.int .i64 (amtE n))) : AnsF R c56 [.agg [.int .i64 a, .int .i64 b]] (.int .i64 (amtsE a b)) := by
  obtain ⟨r, hr⟩ : ∃ r, r = amtsE a b := ⟨_, rfl⟩
  have k1 := h62 a
  have k2 := h62 b
  rw [← hr]
  unfold amtsE at hr
  obtain ⟨e1, he1⟩ : ∃ e, e = amtE a := ⟨_, rfl⟩
  obtain ⟨e2, he2⟩ : ∃ e, e = amtE b := ⟨_, rfl⟩
  rw [← he1] at k1 hr
  rw [← he2] at k2 hr
  refine wpF_sound ⟨rfl, by decide⟩ fun O hO V hV => ?_
  subst hV
  conv => cbv
  refine loop_of (fun n d => ∃ (i : Int) (k : Nat), d = ⟨[(6, .agg [.int .i64 a, .int .i64 b]), (7, .int .i64 i)], [], false⟩ ∧ i = k ∧ k ≤ 2 ∧ n = 2 - k ∧ (1 ≤ k → e1 = 0) ∧ (2 ≤ k → e2 = 0)) ⟨_, _, ⟨_, 0, rfl, rfl, by omega, rfl, by omega, by omega⟩, ⟨⟨rfl, rfl, trivial⟩, trivial, rfl⟩⟩ ?_
  rintro J up n d ⟨i, k, rfl, hi, hk, rfl, hn1, hn2⟩
  rcases (by omega : k = 0 ∨ k = 1 ∨ k = 2) with rfl | rfl | rfl
  · obtain rfl : i = 0 := by omega
    conv => cbv
    rintro (_ | _) h1
    · conv => cbv
      exfalso; have := f_lss hO h1; omega
    conv => cbv
    refine ⟨_, k1, ?_⟩
    conv => cbv
    rintro (_ | _) h2
    · replace h2 := f_neq hO h2
      conv => cbv
      refine ⟨_, _, up _ _ ⟨_, 1, rfl, ?_, by omega, rfl, fun _ => h2, fun h => absurd h (by omega)⟩, ⟨⟨rfl, rfl, trivial⟩, trivial, rfl⟩, by omega⟩
      rw [o_add64 hO (by omega) (by omega)]; omega
    · replace h2 := t_neq hO h2
      conv => cbv
      rw [hr, if_neg h2]
  · obtain rfl : i = 1 := by omega
    conv => cbv
    rintro (_ | _) h1
    · conv => cbv
      exfalso; have := f_lss hO h1; omega
    conv => cbv
    refine ⟨_, k2, ?_⟩
    conv => cbv
    rintro (_ | _) h2
    · replace h2 := f_neq hO h2
      conv => cbv
      refine ⟨_, _, up _ _ ⟨_, 2, rfl, ?_, by omega, rfl, fun _ => hn1 (by omega), fun _ => h2⟩, ⟨⟨rfl, rfl, trivial⟩, trivial, rfl⟩, by omega⟩
      rw [o_add64 hO (by omega) (by omega)]; omega
    · replace h2 := t_neq hO h2
      conv => cbv
      rw [hr, if_pos (hn1 (by omega))]
  · obtain rfl : i = 2 := by omega
    conv => cbv
    rintro (_ | _) h1
    · conv => cbv
      rw [hr, hn1 (by omega), hn2 (by omega)]; rfl
    · conv => cbv
      exfalso; have := t_lss hO h1; omega
end Go.Proofs.AM
namespace Go.Proofs.AM
open Go Go.Lib Cd
noncomputable def setsL (most : Nat) (l : List ReqV) : List SetV := if reqsE most l = 0 then l.map ofSet else []
theorem clean_set (s : SetV) : Clean (setD s) := by
  have := cleanL_map clean_S (l := s.l) rfl
  exact ⟨by simp [setD, closed, closedL, this.c], by simp [setD, strip, stripL, this.s]⟩
theorem clean_req (r : ReqV) : Clean (reqD r) := by
  have := cleanL_map clean_S (l := r.l) rfl
  exact ⟨by simp [reqD, mkS, closed, closedL, this.c], by simp [reqD, mkS, strip, stripL, this.s]⟩
set_option maxRecDepth 100000 in
set_option maxHeartbeats 2000000 in
theorem sets84_ok (R : Ans) (l : List ReqV) (hl : l.length ≤ 8796093022208) (hF : ∀ q ∈ l, FR q) (most : Nat) (hm : most ≤ 16) (h180 : ∀ q, FR q → R.v 180 [reqD q] (.tup [setD (ofSet q), .int .i64 (wrongE q)])) :
    AnsF R c84 [.sl 4 false (l.map reqD), .int .i64 most] (.tup [.sl 6 false ((setsL most l).map setD), .int .i64 (reqsE most l)]) := by
  obtain ⟨xs, hxs⟩ : ∃ xs, xs = l.map reqD := ⟨_, rfl⟩
  have hcx : CleanL xs := cleanL_map clean_req hxs
  obtain ⟨rs, hrs⟩ : ∃ rs, rs = (setsL most l).map setD := ⟨_, rfl⟩
  obtain ⟨e, he⟩ : ∃ e, e = reqsE most l := ⟨_, rfl⟩
  unfold setsL at hrs
  rw [← he] at hrs
  rw [show (setsL most l).map setD = rs by rw [hrs, he]; rfl, ← hxs, ← he]
  unfold reqsE tooE at he
  obtain ⟨mo, hmo⟩ : ∃ m : Int, m = most := ⟨_, rfl⟩
  rw [← hmo]
  refine wpF_sound ⟨rfl, by decide⟩ fun O hO V hV => ?_
  subst hV
  have hlen : O .len xs = l.length := by rw [o_len hO, hxs]; simp
  conv => cbv
  rintro (_ | _) h0
  · replace h0 := f_gtr hO h0
    rw [hlen] at h0
    have hr : e = scanE (atE wrongE l) l.length := by rw [he, if_neg (by omega)]
    conv => cbv
    refine loop_of (fun n d => ∃ (i : Int) (k g : Nat) (ac : List D), d = ⟨[(6, .own 99 g), (15, .sl 4 false xs), (16, .int .i64 (O .len xs)), (17, .int .i64 i)], [(99, ⟨g, .rw, .arr 6 89, ac⟩)], false⟩ ∧ i = k ∧ k ≤ l.length ∧ n = l.length - k ∧ ac = ((l.take k).map ofSet).map setD ∧ ∀ j, j < k → atE wrongE l j = 0) ⟨_, _, ⟨_, 0, _, _, rfl, rfl, by omega, rfl, by simp, by simp⟩, ⟨⟨rfl, rfl, rfl, rfl, trivial⟩, ⟨rfl, trivial⟩, rfl⟩⟩ ?_
    rintro J up n d ⟨i, k, g, ac, rfl, hi, hk, rfl, hac, hno⟩
    have hca : CleanL ac := cleanL_map clean_set hac
    conv => cbv
    rintro (_ | _) h1
    · replace h1 := f_lss hO h1
      rw [hlen] at h1
      conv => cbv
      have e0 : e = 0 := by rw [hr, scanE_end (fun j hj => hno j (by omega))]
      have : ac = rs := by rw [hac, hrs, if_pos e0, List.take_of_length_le (by omega)]
      rw [this] at hca
      rw [this, e0]
      exact ⟨hca, rfl⟩
    · replace h1 := t_lss hO h1
      rw [hlen] at h1
      conv => cbv
      obtain ⟨y, hy⟩ : ∃ y, l[k]? = some y := ⟨_, List.getElem?_eq_getElem (by omega)⟩
      have hc := h180 y (hF y (List.mem_of_getElem? hy))
      have hg : atE wrongE l k = _ := atE_some hy
      obtain ⟨w, hw⟩ : ∃ w, w = wrongE y := ⟨_, rfl⟩
      obtain ⟨S, hS⟩ : ∃ S, S = ofSet y := ⟨_, rfl⟩
      rw [← hw] at hc hg
      rw [← hS] at hc
      obtain ⟨ss, hss⟩ : ∃ ss, ss = S.l.map mkS := ⟨_, rfl⟩
      have hcs : CleanL ss := cleanL_map clean_S hss
      unfold setD at hc
      rw [← hss] at hc
      have hat : atX xs i (reqD y) := atX_map hy hxs hi
      have hst : setD S = .agg [.bool S.m, .bool S.n, .bool S.u, .sl 1 false ss, .int .i64 S.lo, .int .i64 S.hi] := by rw [hss]; rfl
      obtain ⟨sm, sn, su, sl, slo, shi⟩ := S
      simp only at hc hst
      obtain ⟨ykey, yop, yl, yn⟩ := y
      unfold reqD at hat hc
      simp only at hat hc
      obtain ⟨ys, hys⟩ : ∃ ss, ss = yl.map mkS := ⟨_, rfl⟩
      have hcy : CleanL ys := cleanL_map clean_S hys
      rw [← hys] at hat hc
      refine ⟨_, hat, ?_⟩
      conv => cbv
      intro g8
      conv => cbv
      refine ⟨hcy, _, hc, ?_⟩
      conv => cbv
      intro g9
      conv => cbv
      rintro (_ | _) h2
      · replace h2 := f_neq hO h2
        conv => cbv
        intro g31
        conv => cbv
        have hl1 : O .len [D.agg [.bool sm, .bool sn, .bool su, .sl 1 false ss, .int .i64 slo, .int .i64 shi]] = 1 := by rw [o_len hO]; rfl
        have hla : O .len ac = k := by rw [o_len hO, hac]; simp; omega
        refine ⟨⟨by simp [closedL, closed, hcs.c]⟩, ⟨by show (O .len ac + O .len [D.agg [.bool sm, .bool sn, .bool su, .sl 1 false ss, .int .i64 slo, .int .i64 shi]]) * ((48 : Nat) : Int) ≤ _; rw [hl1, hla]; omega⟩, ?_⟩
        exact ⟨_, _, up _ _ ⟨_, k + 1, g + 1, O .app ac [D.agg [.bool sm, .bool sn, .bool su, .sl 1 false ss, .int .i64 slo, .int .i64 shi]], rfl, by rw [o_add64 hO (by omega) (by omega)]; omega, by omega, rfl, by rw [o_app hO, hac, ← hst, hS, List.take_add_one, hy]; simp, scan_step hno (by rw [hg, h2])⟩, ⟨⟨rfl, rfl, rfl, rfl, trivial⟩, ⟨rfl, trivial⟩, rfl⟩, by omega⟩
      · replace h2 := t_neq hO h2
        conv => cbv
        have e0 : e = w := by rw [hr]; exact scanE_hit (by omega) hno hg.symm h2
        have : rs = [] := by rw [hrs, if_neg (by rw [e0]; exact h2)]; rfl
        rw [this, e0]
        exact ⟨⟨rfl, rfl⟩, rfl⟩
  · replace h0 := t_gtr hO h0
    rw [hlen] at h0
    conv => cbv
    have e3 : e = 3 := by rw [he, if_pos (by omega)]
    have : rs = [] := by rw [hrs, if_neg (by omega)]; rfl
    rw [this, e3]
    exact ⟨⟨rfl, rfl⟩, rfl⟩
set_option maxRecDepth 100000 in
set_option maxHeartbeats 2000000 in
theorem check36_ok (R : Ans) (l : List ReqV) (h84 : R.v 84 [.sl 4 false (l.map reqD), .int .i64 8] (.tup [.sl 6 false ((setsL 8 l).map setD), .int .i64 (reqsE 8 l)])) : AnsF R c36 [.sl 4 false (l.map reqD)] (.int .i64 (reqsE 8 l)) := by
  obtain ⟨xs, hxs⟩ : ∃ xs, xs = l.map reqD := ⟨_, rfl⟩
  have hcx : CleanL xs := cleanL_map clean_req hxs
  obtain ⟨rs, hrs⟩ : ∃ rs, rs = (setsL 8 l).map setD := ⟨_, rfl⟩
  obtain ⟨e, he⟩ : ∃ e, e = reqsE 8 l := ⟨_, rfl⟩
  rw [← hxs, ← he]
  rw [← hxs, ← he, ← hrs] at h84
  refine wpF_sound ⟨rfl, by decide⟩ fun O hO V hV => ?_
  subst hV
  conv => cbv
  refine ⟨hcx, _, h84, ?_⟩
  conv => cbv
  trivial
set_option maxRecDepth 100000 in
set_option maxHeartbeats 2000000 in
theorem first91_ok (R : Ans) (l : List ReqV) (hl : l.length ≤ 8796093022208) (hF : ∀ q ∈ l, FR q) (h93 : ∀ q, FR q → R.v 93 [reqD q] (.tup [setD (ofSet q), .int .i64 (wrongE q)])) :
    AnsF R c91 [.sl 4 false (l.map reqD)] (.int .i64 (scanE (atE wrongE l) l.length)) := by
  obtain ⟨xs, hxs⟩ : ∃ xs, xs = l.map reqD := ⟨_, rfl⟩
  have hcx : CleanL xs := cleanL_map clean_req hxs
  obtain ⟨r, hr⟩ : ∃ e, e = scanE (atE wrongE l) l.length := ⟨_, rfl⟩
  rw [← hxs, ← hr]
  refine wpF_sound ⟨rfl, by decide⟩ fun O hO V hV => ?_
  subst hV
  have hlen : O .len xs = l.length := by rw [o_len hO, hxs]; simp
  conv => cbv
  refine loop_of (fun n d => ∃ (i : Int) (k : Nat), d = ⟨[(0, .sl 4 false xs), (3, .int .i64 i)], [], false⟩ ∧ i = k ∧ k ≤ l.length ∧ n = l.length - k ∧ ∀ j, j < k → atE wrongE l j = 0) ⟨_, _, ⟨_, 0, rfl, rfl, by omega, rfl, by simp⟩, ⟨⟨rfl, rfl, trivial⟩, trivial, rfl⟩⟩ ?_
  rintro J up n d ⟨i, k, rfl, hi, hk, rfl, hno⟩
  conv => cbv
  rintro (_ | _) h1
  · replace h1 := f_lss hO h1
    rw [hlen] at h1
    conv => cbv
    rw [hr, scanE_end (fun j hj => hno j (by omega))]
  · replace h1 := t_lss hO h1
    rw [hlen] at h1
    obtain ⟨y, hy⟩ : ∃ y, l[k]? = some y := ⟨_, List.getElem?_eq_getElem (by omega)⟩
    have hc := h93 y (hF y (List.mem_of_getElem? hy))
    have hg : atE wrongE l k = _ := atE_some hy
    obtain ⟨w, hw⟩ : ∃ w, w = wrongE y := ⟨_, rfl⟩
    obtain ⟨S, hS⟩ : ∃ S, S = ofSet y := ⟨_, rfl⟩
    rw [← hw] at hc hg
    rw [← hS] at hc
    obtain ⟨ss, hss⟩ : ∃ ss, ss = S.l.map mkS := ⟨_, rfl⟩
    unfold setD at hc
    rw [← hss] at hc
    have hat : atX xs i (reqD y) := atX_map hy hxs hi
    obtain ⟨ykey, yop, yl, yn⟩ := y
    unfold reqD at hat hc
    simp only at hat hc
    obtain ⟨ys, hys⟩ : ∃ ss, ss = yl.map mkS := ⟨_, rfl⟩
    have hcy : CleanL ys := cleanL_map clean_S hys
    rw [← hys] at hat hc
    conv => cbv
    refine ⟨_, hat, ?_⟩
    conv => cbv
    refine ⟨hcy, _, hc, ?_⟩
    conv => cbv
    intro g9
    conv => cbv
    rintro (_ | _) h2
    · replace h2 := f_neq hO h2
      conv => cbv
      exact ⟨_, _, up _ _ ⟨_, k + 1, rfl, by rw [o_add64 hO (by omega) (by omega)]; omega, by omega, rfl, scan_step hno (by rw [hg, h2])⟩, ⟨⟨rfl, rfl, trivial⟩, trivial, rfl⟩, by omega⟩
    · replace h2 := t_neq hO h2
      conv => cbv
      exact (by rw [hr]; exact congrArg (D.int .i64) (scanE_hit (by omega) hno hg.symm h2).symm)
set_option maxRecDepth 100000 in
set_option maxHeartbeats 2000000 in
theorem check37_ok (R : Ans) (l : List ReqV) (h91 : R.v 91 [.sl 4 false (l.map reqD)] (.int .i64 (scanE (atE wrongE l) l.length))) : AnsF R c37 [.sl 4 false (l.map reqD)] (.int .i64 (reqsE 8 l)) := by
  obtain ⟨xs, hxs⟩ : ∃ xs, xs = l.map reqD := ⟨_, rfl⟩
  have hcx : CleanL xs := cleanL_map clean_req hxs
  obtain ⟨e, he⟩ : ∃ e, e = reqsE 8 l := ⟨_, rfl⟩
  obtain ⟨r, hr⟩ : ∃ e, e = scanE (atE wrongE l) l.length := ⟨_, rfl⟩
  rw [← hxs, ← he]
  rw [← hxs, ← hr] at h91
  unfold reqsE tooE at he
  rw [← hr] at he
  refine wpF_sound ⟨rfl, by decide⟩ fun O hO V hV => ?_
  subst hV
  have hlen : O .len xs = l.length := by rw [o_len hO, hxs]; simp
  conv => cbv
  rintro (_ | _) h0
  · replace h0 := f_gtr hO h0
    rw [hlen] at h0
    conv => cbv
    refine ⟨hcx, _, h91, ?_⟩
    conv => cbv
    rw [he, if_neg (by omega)]
  · replace h0 := t_gtr hO h0
    rw [hlen] at h0
    conv => cbv
    rw [he, if_pos (by omega)]
end Go.Proofs.AM
namespace Go.Proofs.AM
open Go Go.Lib Cd
set_option maxRecDepth 100000 in
set_option maxHeartbeats 2000000 in
theorem term124_ok (R : Ans) (k a : Str) (ha : SL a) (h55 : ∀ l : List Str, FL l → R.v 55 [.sl 1 false (l.map mkS)] (.bool (l.all nameB))) (h54 : ∀ (b : Bool) (e : Int), R.v 54 [.bool b, .int .i64 e] (.int .i64 (wantI b e))) (h53 : ∀ l : List Int, l.length < 4611686018427387904 → R.v 53 [.sl 1 false (l.map iD)] (.int .i64 (firstI l))) :
    AnsF R c124 [mkS k, mkS a] (.int .i64 (termE k a)) := by
  have hk1 := h55 [a] ⟨by simp, by simpa using ha⟩
  obtain ⟨q, hq⟩ : ∃ q, q = nameB a := ⟨_, rfl⟩
  rw [show [a].all nameB = q by rw [hq]; simp] at hk1
  have w0 := h54 q 7
  have w1 := h54 true 1
  have w2 := h54 false 1
  have f1 := h53 [wantI true 1, wantI q 7] (by simp)
  have f2 := h53 [wantI false 1, wantI q 7] (by simp)
  obtain ⟨r, hr⟩ : ∃ r, r = termE k a := ⟨_, rfl⟩
  rw [← hr]
  unfold termE at hr
  rw [← hq] at hr
  clear hq h55 h54 h53
  refine wpF_sound ⟨rfl, by decide⟩ fun O hO V hV => ?_
  subst hV
  cases q <;> simp only [wantI_true, wantI_false, List.map] at w0 w1 w2 f1 f2 hk1 <;> conv => cbv
  all_goals (repeat' (first | (rintro (_ | _) h <;> (first | replace h := ci hO h | replace h := cs hO h) <;> (dsimp only [CmpI, CmpS] at h) <;> (conv => cbv)) | (refine ⟨_, by assumption, ?_⟩; (conv => cbv)) | (refine And.intro (by first | assumption | exact ⟨rfl⟩ | exact ⟨rfl, rfl⟩) ?_)))
  all_goals (rw [hr]; simp_all [zoneS, hostS, firstI_cons])
set_option maxRecDepth 100000 in
set_option maxHeartbeats 2000000 in
theorem same126_ok (R : Ans) (x y : LabV) : AnsF R c126 [labD x, .vptr (labD y) 0] (.bool (decide (x.k = y.k))) := by
  obtain ⟨r, hr⟩ : ∃ r, r = decide (x.k = y.k) := ⟨_, rfl⟩
  rw [← hr]
  refine wpF_sound ⟨rfl, by decide⟩ fun O hO V hV => ?_
  subst hV
  conv => cbv
  rintro (_ | _) h
  · replace h : x.k ≠ y.k := f_seql hO h
    conv => cbv
    rw [hr]; simp [h]
  · replace h : x.k = y.k := t_seql hO h
    conv => cbv
    rw [hr]; simp [h]
set_option maxRecDepth 100000 in
set_option maxHeartbeats 2000000 in
theorem less120_ok (R : Ans) (x y : OffV) : AnsF R c120 [offD x, offD y] (.bool (ltO x y)) := by
  obtain ⟨a, b, c⟩ := x
  obtain ⟨a', b', c'⟩ := y
  obtain ⟨r, hr⟩ : ∃ r, r = ltO ⟨a, b, c⟩ ⟨a', b', c'⟩ := ⟨_, rfl⟩
  rw [← hr]
  unfold ltO at hr
  simp only at hr
  refine wpF_sound ⟨rfl, by decide⟩ fun O hO V hV => ?_
  subst hV
  conv => cbv
  rintro (_ | _) h1 <;> replace h1 := cs hO h1 <;> dsimp only [CmpS] at h1 <;> conv => cbv
  · rintro (_ | _) h2 <;> replace h2 := cs hO h2 <;> dsimp only [CmpS] at h2 <;> conv => cbv
    · rintro (_ | _) h3 <;> replace h3 := cs hO h3 <;> dsimp only [CmpS] at h3 <;> conv => cbv
      all_goals (rw [hr, if_neg (by simpa using h1), if_neg (by simpa using h2)]; simp [h3])
    · rintro (_ | _) h3 <;> replace h3 := cs hO h3 <;> dsimp only [CmpS] at h3 <;> conv => cbv
      all_goals (rw [hr, if_neg (by simpa using h1), if_pos h2]; simp [h3])
  · rintro (_ | _) h3 <;> replace h3 := cs hO h3 <;> dsimp only [CmpS] at h3 <;> conv => cbv
    all_goals (rw [hr, if_pos h1]; simp [h3])
set_option maxRecDepth 100000 in
set_option maxHeartbeats 2000000 in
theorem or200_ok (R : Ans) (l : List Int) (hl : l.length < 4611686018427387904) : AnsF R c200 [.sl 1 false (l.map iD)] (.int .i64 (firstI l)) := by
  obtain ⟨xs, hxs⟩ : ∃ xs, xs = l.map iD := ⟨_, rfl⟩
  obtain ⟨r, hr⟩ : ∃ r, r = firstI l := ⟨_, rfl⟩
  rw [← hxs, ← hr]
  refine wpF_sound ⟨rfl, by decide⟩ fun O hO V hV => ?_
  subst hV
  have hlen : O .len xs = l.length := by rw [o_len hO, hxs]; simp
  conv => cbv
  refine loop_of (fun n d => ∃ (i : Int) (k : Nat), d = ⟨[(3, .int .i64 0), (6, .sl 1 false xs), (7, .int .i64 (O .len xs)), (8, .int .i64 i)], [], false⟩ ∧ i = k ∧ k ≤ l.length ∧ n = l.length - k ∧ ∀ (j : Nat) y, j < k → l[j]? = some y → y = 0) ⟨_, _, ⟨_, 0, rfl, rfl, by omega, rfl, by simp⟩, ⟨⟨rfl, rfl, rfl, rfl, trivial⟩, trivial, rfl⟩⟩ ?_
  rintro J up n d ⟨i, k, rfl, hi, hk, rfl, hno⟩
  conv => cbv
  rintro (_ | _) h1
  · replace h1 := f_lss hO h1
    rw [hlen] at h1
    conv => cbv
    rw [hr, firstI_zero fun y hy => by
      obtain ⟨j, hj⟩ := List.mem_iff_getElem?.1 hy
      exact hno j y (by have := (List.getElem?_eq_some_iff.1 hj).1; omega) hj]
  · replace h1 := t_lss hO h1
    rw [hlen] at h1
    obtain ⟨y, hy⟩ : ∃ y, l[k]? = some y := ⟨_, List.getElem?_eq_getElem (by omega)⟩
    conv => cbv
    refine ⟨iD y, atX_map hy hxs hi, ?_⟩
    conv => cbv
    rintro (_ | _) h2
    · replace h2 := f_neq hO h2
      conv => cbv
      refine ⟨_, _, up _ _ ⟨_, k + 1, rfl, ?_, by omega, rfl, ?_⟩, ⟨⟨rfl, rfl, rfl, rfl, trivial⟩, trivial, rfl⟩, by omega⟩
      · rw [o_add64 hO (by omega) (by omega)]; omega
      · intro j z hj hz
        rcases Nat.lt_succ_iff_lt_or_eq.1 hj with h3 | rfl
        · exact hno j z h3 hz
        · rw [hy] at hz; simp only [Option.some.injEq] at hz; rw [← hz, h2]
    · replace h2 := t_neq hO h2
      conv => cbv
      rw [hr, firstI_hit hy h2 hno]
set_option maxRecDepth 100000 in
set_option maxHeartbeats 2000000 in
theorem comp109_ok (R : Ans) (x y : OffV) (hx : FO x) (hy : FO y) (h88 : ∀ a b, SL a → SL b → R.v 88 [mkS a, mkS b] (.int .i64 (cmpS a b))) (h200 : ∀ l : List Int, l.length < 4611686018427387904 → R.v 200 [.sl 1 false (l.map iD)] (.int .i64 (firstI l))) : AnsF R c109 [offD x, offD y] (.int .i64 (cmpO x y)) := by
  obtain ⟨a, b, c⟩ := x
  obtain ⟨a', b', c'⟩ := y
  have k1 := h88 a a' hx.t hy.t
  have k2 := h88 b b' hx.z hy.z
  have k3 := h88 c c' hx.k hy.k
  have k4 := h200 [cmpS a a', cmpS b b', cmpS c c'] (by simp)
  obtain ⟨r, hr⟩ : ∃ r, r = cmpO ⟨a, b, c⟩ ⟨a', b', c'⟩ := ⟨_, rfl⟩
  rw [← hr]
  unfold cmpO at hr
  simp only at hr
  rw [← hr] at k4
  obtain ⟨e1, he1⟩ : ∃ e, e = cmpS a a' := ⟨_, rfl⟩
  obtain ⟨e2, he2⟩ : ∃ e, e = cmpS b b' := ⟨_, rfl⟩
  obtain ⟨e3, he3⟩ : ∃ e, e = cmpS c c' := ⟨_, rfl⟩
  rw [← he1] at k1 k4
  rw [← he2] at k2 k4
  rw [← he3] at k3 k4
  clear hr he1 he2 he3 h88 h200
  simp only [List.map] at k4
  refine wpF_sound ⟨rfl, by decide⟩ fun O hO V hV => ?_
  subst hV
  conv => cbv
  repeat' (first | (refine ⟨_, by assumption, ?_⟩; (conv => cbv)) | (refine And.intro (by first | assumption | exact ⟨rfl⟩ | exact ⟨rfl, rfl⟩) ?_))
  all_goals trivial
end Go.Proofs.AM
namespace Go.Proofs.AM
open Go Go.Lib Cd
set_option maxRecDepth 100000 in
set_option maxHeartbeats 4000000 in
theorem terms58_ok (R : Ans) (p : PodV) (hf1 : FLs FSpr p.spr) (hf2 : FLs FLab p.near) (hf3 : FLs FLab p.apart) (h1 : p.spr.length < 4611686018427387904) (h2 : p.near.length < 4611686018427387904) (h3 : p.apart.length < 4611686018427387904)
    (h124 : ∀ k a, SL a → R.v 124 [mkS k, mkS a] (.int .i64 (termE k a))) (h54 : ∀ (b : Bool) (e : Int), R.v 54 [.bool b, .int .i64 e] (.int .i64 (wantI b e))) (h53 : ∀ l : List Int, l.length < 4611686018427387904 → R.v 53 [.sl 1 false (l.map iD)] (.int .i64 (firstI l))) :
    AnsF R c58 [podD p] (.int .i64 (allTE p.spr p.near p.apart)) := by
  unfold podD podC
  obtain ⟨rs, hrs⟩ : ∃ xs, xs = p.reqs.map reqD := ⟨_, rfl⟩
  obtain ⟨ts, hts⟩ : ∃ xs, xs = p.tols.map tolD := ⟨_, rfl⟩
  obtain ⟨ss, hss⟩ : ∃ xs, xs = p.spr.map sprD := ⟨_, rfl⟩
  obtain ⟨ns, hns⟩ : ∃ xs, xs = p.near.map labD := ⟨_, rfl⟩
  obtain ⟨aps, has⟩ : ∃ xs, xs = p.apart.map labD := ⟨_, rfl⟩
  rw [← hrs, ← hts, ← hss, ← hns, ← has]
  obtain ⟨r, hr0⟩ : ∃ r, r = allTE p.spr p.near p.apart := ⟨_, rfl⟩
  rw [← hr0]
  unfold allTE at hr0
  refine wpF_sound ⟨rfl, by decide⟩ fun O hO V hV => ?_
  subst hV
  have hl1 : O .len ss = p.spr.length := by rw [o_len hO, hss]; simp
  have hl2 : O .len ns = p.near.length := by rw [o_len hO, hns]; simp
  have hl3 : O .len aps = p.apart.length := by rw [o_len hO, has]; simp
  conv => cbv
  rintro (_ | _) h0
  · replace h0 := f_gtr hO h0
    rw [hl1, hl2, hl3, o_max hO, o_max hO] at h0
    have hr : r = firstI [sprsE p.spr, termsE p.near, termsE p.apart] := by rw [hr0, if_neg (by omega)]
    conv => cbv
    refine loop_of (fun n d => ∃ (i : Int) (k : Nat), d = ⟨[(1, .ptr 1 1 0), (23, .sl 3 false ss), (24, .int .i64 (O .len ss)), (25, .int .i64 i)], [(1, ⟨1, .rw, .var, [mkS p.name, mkS p.app, .int .i64 p.n0, .int .i64 p.n1, .int .i64 p.prio, .sl 4 false rs, .sl 3 false ts, .sl 3 false ss, .sl 2 false ns, .sl 2 false aps, .int .i64 p.since, mkS p.on]⟩)], false⟩ ∧ i = k ∧ k ≤ p.spr.length ∧ n = p.spr.length - k ∧ ∀ j, j < k → atE sprE p.spr j = 0) ⟨_, _, ⟨_, 0, rfl, rfl, by omega, rfl, by simp⟩, ⟨⟨rfl, rfl, rfl, rfl, trivial⟩, ⟨rfl, trivial⟩, rfl⟩⟩ ?_
    rintro J up n d ⟨i, k, rfl, hi, hk, rfl, hno⟩
    conv => cbv
    rintro (_ | _) h1
    · replace h1 := f_lss hO h1
      rw [hl1] at h1
      have e1 : sprsE p.spr = 0 := by unfold sprsE; exact scanE_end (fun j hj => hno j (by omega))
      rw [e1, firstI_cons, if_pos rfl] at hr
      conv => cbv
      intro g53
      conv => cbv
      have hl53 : O .len [D.sl 2 false ns, D.sl 2 false aps] = 2 := by rw [o_len hO]; rfl
      refine loop_of (fun n d => ∃ (i : Int) (k : Nat), d = ⟨[(1, .ptr 1 1 0), (53, .own 53 g53), (54, .int .i64 (O .len [D.sl 2 false ns, D.sl 2 false aps])), (55, .int .i64 i)], [(1, ⟨1, .rw, .var, [mkS p.name, mkS p.app, .int .i64 p.n0, .int .i64 p.n1, .int .i64 p.prio, .sl 4 false rs, .sl 3 false ts, .sl 3 false ss, .sl 2 false ns, .sl 2 false aps, .int .i64 p.since, mkS p.on]⟩), (53, ⟨g53, .rw, .arr 1 27, [.sl 2 false ns, .sl 2 false aps]⟩)], false⟩ ∧ i = k ∧ k ≤ 2 ∧ n = 2 - k ∧ (1 ≤ k → termsE p.near = 0) ∧ (2 ≤ k → termsE p.apart = 0)) ?_ ?_
      · refine ⟨_, _, ⟨_, 0, rfl, rfl, by omega, rfl, by omega, by omega⟩, ?_⟩
        exact ⟨⟨rfl, rfl, rfl, rfl, trivial⟩, ⟨rfl, rfl, trivial⟩, rfl⟩
      clear up hno
      rintro J2 up2 n2 d2 ⟨i2, k2, rfl, hi2, hk2, rfl, hn1, hn2⟩
      rcases (by omega : k2 = 0 ∨ k2 = 1 ∨ k2 = 2) with rfl | rfl | rfl
      · obtain rfl : i2 = 0 := by omega
        conv => cbv
        rintro (_ | _) h1
        · conv => cbv
          exfalso; have := f_lss hO h1; rw [hl53] at this; omega
        conv => cbv
        have hnat : O .nat 0 = 0 := by rw [o_nat hO]; rfl
        refine ⟨⟨by omega⟩, ⟨by show (0 : Int) < O .len [D.sl 2 false ns, D.sl 2 false aps]; rw [hl53]; omega⟩, ?_⟩
        rw [hnat]
        refine ⟨_, rfl, ?_⟩
        conv => cbv
        refine loop_of (fun n d => ∃ (i : Int) (k : Nat), d = ⟨[(1, .ptr 1 1 0), (53, .own 53 g53), (54, .int .i64 (O .len [D.sl 2 false ns, D.sl 2 false aps])), (55, .int .i64 0), (59, .sl 2 false ns), (60, .int .i64 (O .len ns)), (61, .int .i64 i)], [(1, ⟨1, .rw, .var, [mkS p.name, mkS p.app, .int .i64 p.n0, .int .i64 p.n1, .int .i64 p.prio, .sl 4 false rs, .sl 3 false ts, .sl 3 false ss, .sl 2 false ns, .sl 2 false aps, .int .i64 p.since, mkS p.on]⟩), (53, ⟨g53, .rw, .arr 1 27, [.sl 2 false ns, .sl 2 false aps]⟩)], false⟩ ∧ i = k ∧ k ≤ p.near.length ∧ n = p.near.length - k ∧ ∀ j, j < k → atE (fun x => termE x.k x.v) p.near j = 0) ⟨_, _, ⟨_, 0, rfl, rfl, by omega, rfl, by simp⟩, ⟨⟨rfl, rfl, rfl, rfl, rfl, rfl, rfl, trivial⟩, ⟨rfl, rfl, trivial⟩, rfl⟩⟩ ?_
        rintro J up n d ⟨i, k, rfl, hi, hk, rfl, hno⟩
        conv => cbv
        rintro (_ | _) h1
        · replace h1 := f_lss hO h1
          rw [hl2] at h1
          conv => cbv
          have e1 : termsE p.near = 0 := by unfold termsE; exact scanE_end (fun j hj => hno j (by omega))
          exact ⟨_, _, up2 _ _ ⟨_, 1, rfl, by rw [o_add64 hO (by omega) (by omega)]; omega, by omega, rfl, fun _ => e1, fun h => absurd h (by omega)⟩, ⟨⟨rfl, rfl, rfl, rfl, trivial⟩, ⟨rfl, rfl, trivial⟩, rfl⟩, by omega⟩
        · replace h1 := t_lss hO h1
          rw [hl2] at h1
          obtain ⟨y, hy⟩ : ∃ y, p.near[k]? = some y := ⟨_, List.getElem?_eq_getElem (by omega)⟩
          have hat : atX ns i (labD y) := atX_map hy hns hi
          have hg : atE (fun x => termE x.k x.v) p.near k = _ := atE_some hy
          have hk1 := h124 y.k y.v (hf2.all y (List.mem_of_getElem? hy)).v
          obtain ⟨e, he⟩ : ∃ e, e = termE y.k y.v := ⟨_, rfl⟩
          rw [← he] at hk1
          replace hg : atE (fun x => termE x.k x.v) p.near k = e := hg.trans he.symm
          clear he
          obtain ⟨y1, y2⟩ := y
          conv => cbv
          refine ⟨_, hat, ?_⟩
          conv => cbv
          intro g9
          conv => cbv
          refine ⟨_, hk1, ?_⟩
          conv => cbv
          rintro (_ | _) h
          · replace h := f_neq hO h
            conv => cbv
            exact ⟨_, _, up _ _ ⟨_, k + 1, rfl, by rw [o_add64 hO (by omega) (by omega)]; omega, by omega, rfl, scan_step hno (hg.trans h)⟩, ⟨⟨rfl, rfl, rfl, rfl, rfl, rfl, rfl, trivial⟩, ⟨rfl, rfl, trivial⟩, rfl⟩, by omega⟩
          · replace h := t_neq hO h
            conv => cbv
            have e1 : termsE p.near = e := by unfold termsE; exact scanE_hit (by omega) hno hg.symm h
            rw [hr, e1, firstI_cons, if_neg h]
      · obtain rfl : i2 = 1 := by omega
        conv => cbv
        rintro (_ | _) h1
        · conv => cbv
          exfalso; have := f_lss hO h1; rw [hl53] at this; omega
        conv => cbv
        have hnat : O .nat 1 = 1 := by rw [o_nat hO]; rfl
        refine ⟨⟨by omega⟩, ⟨by show (1 : Int) < O .len [D.sl 2 false ns, D.sl 2 false aps]; rw [hl53]; omega⟩, ?_⟩
        rw [hnat]
        refine ⟨_, rfl, ?_⟩
        conv => cbv
        refine loop_of (fun n d => ∃ (i : Int) (k : Nat), d = ⟨[(1, .ptr 1 1 0), (53, .own 53 g53), (54, .int .i64 (O .len [D.sl 2 false ns, D.sl 2 false aps])), (55, .int .i64 1), (59, .sl 2 false aps), (60, .int .i64 (O .len aps)), (61, .int .i64 i)], [(1, ⟨1, .rw, .var, [mkS p.name, mkS p.app, .int .i64 p.n0, .int .i64 p.n1, .int .i64 p.prio, .sl 4 false rs, .sl 3 false ts, .sl 3 false ss, .sl 2 false ns, .sl 2 false aps, .int .i64 p.since, mkS p.on]⟩), (53, ⟨g53, .rw, .arr 1 27, [.sl 2 false ns, .sl 2 false aps]⟩)], false⟩ ∧ i = k ∧ k ≤ p.apart.length ∧ n = p.apart.length - k ∧ ∀ j, j < k → atE (fun x => termE x.k x.v) p.apart j = 0) ⟨_, _, ⟨_, 0, rfl, rfl, by omega, rfl, by simp⟩, ⟨⟨rfl, rfl, rfl, rfl, rfl, rfl, rfl, trivial⟩, ⟨rfl, rfl, trivial⟩, rfl⟩⟩ ?_
        rintro J up n d ⟨i, k, rfl, hi, hk, rfl, hno⟩
        conv => cbv
        rintro (_ | _) h1
        · replace h1 := f_lss hO h1
          rw [hl3] at h1
          conv => cbv
          have e1 : termsE p.apart = 0 := by unfold termsE; exact scanE_end (fun j hj => hno j (by omega))
          exact ⟨_, _, up2 _ _ ⟨_, 2, rfl, by rw [o_add64 hO (by omega) (by omega)]; omega, by omega, rfl, fun _ => hn1 (by omega), fun _ => e1⟩, ⟨⟨rfl, rfl, rfl, rfl, trivial⟩, ⟨rfl, rfl, trivial⟩, rfl⟩, by omega⟩
        · replace h1 := t_lss hO h1
          rw [hl3] at h1
          obtain ⟨y, hy⟩ : ∃ y, p.apart[k]? = some y := ⟨_, List.getElem?_eq_getElem (by omega)⟩
          have hat : atX aps i (labD y) := atX_map hy has hi
          have hg : atE (fun x => termE x.k x.v) p.apart k = _ := atE_some hy
          have hk1 := h124 y.k y.v (hf3.all y (List.mem_of_getElem? hy)).v
          obtain ⟨e, he⟩ : ∃ e, e = termE y.k y.v := ⟨_, rfl⟩
          rw [← he] at hk1
          replace hg : atE (fun x => termE x.k x.v) p.apart k = e := hg.trans he.symm
          clear he
          obtain ⟨y1, y2⟩ := y
          conv => cbv
          refine ⟨_, hat, ?_⟩
          conv => cbv
          intro g9
          conv => cbv
          refine ⟨_, hk1, ?_⟩
          conv => cbv
          rintro (_ | _) h
          · replace h := f_neq hO h
            conv => cbv
            exact ⟨_, _, up _ _ ⟨_, k + 1, rfl, by rw [o_add64 hO (by omega) (by omega)]; omega, by omega, rfl, scan_step hno (hg.trans h)⟩, ⟨⟨rfl, rfl, rfl, rfl, rfl, rfl, rfl, trivial⟩, ⟨rfl, rfl, trivial⟩, rfl⟩, by omega⟩
          · replace h := t_neq hO h
            conv => cbv
            have e1 : termsE p.apart = e := by unfold termsE; exact scanE_hit (by omega) hno hg.symm h
            rw [hr, hn1 (by omega), e1, firstI_cons, if_pos rfl, firstI_cons, if_neg h]
      · obtain rfl : i2 = 2 := by omega
        conv => cbv
        rintro (_ | _) h1
        · conv => cbv
          rw [hr, hn1 (by omega), hn2 (by omega)]; rfl
        · conv => cbv
          exfalso; have := t_lss hO h1; rw [hl53] at this; omega
    · replace h1 := t_lss hO h1
      rw [hl1] at h1
      obtain ⟨y, hy⟩ : ∃ y, p.spr[k]? = some y := ⟨_, List.getElem?_eq_getElem (by omega)⟩
      have hat : atX ss i (sprD y) := atX_map hy hss hi
      have hg : atE sprE p.spr k = _ := atE_some hy
      obtain ⟨e, he⟩ : ∃ e, e = sprE y := ⟨_, rfl⟩
      rw [← he] at hg
      have hk1 := h124 y.k y.a (hf1.all y (List.mem_of_getElem? hy)).a
      obtain ⟨w, hw⟩ : ∃ w, w = termE y.k y.a := ⟨_, rfl⟩
      unfold sprE btw at he
      rw [← hw] at hk1 he
      have w1 := h54 true 1
      have w2 := h54 false 1
      have f1 := h53 [w, wantI true 1] (by simp)
      have f2 := h53 [w, wantI false 1] (by simp)
      simp only [wantI_true, wantI_false, List.map] at w1 w2 f1 f2
      obtain ⟨v1, hv1⟩ : ∃ v, v = firstI [w, 0] := ⟨_, rfl⟩
      obtain ⟨v2, hv2⟩ : ∃ v, v = firstI [w, 1] := ⟨_, rfl⟩
      rw [← hv1] at f1
      rw [← hv2] at f2
      simp only [firstI_cons, firstI_nil] at hv1 hv2
      clear hw
      obtain ⟨y1, y2, y3⟩ := y
      simp only at he hk1
      have hr1 : ∀ x : Int, x = e → x ≠ 0 → r = x := fun x h1 h2 => by
        rw [hr, firstI_cons, if_neg]
        · unfold sprsE; exact scanE_hit (by omega) hno (by rw [hg]; exact h1) h2
        · rw [show sprsE p.spr = x by unfold sprsE; exact scanE_hit (by omega) hno (by rw [hg]; exact h1) h2]; exact h2
      conv => cbv
      refine ⟨_, hat, ?_⟩
      conv => cbv
      intro g4
      rcases Classical.em (w = 0) with hw0 | hw0
      all_goals simp [hw0] at hv1 hv2 he
      all_goals subst hv1 hv2
      all_goals conv => cbv
      all_goals (repeat' (first | (rintro (_ | _) h <;> (first | replace h := ci hO h | replace h := cs hO h) <;> (dsimp only [CmpI, CmpS] at h) <;> (try simp [h] at he) <;> (conv => cbv)) | (refine ⟨_, by assumption, ?_⟩; (conv => cbv)) | (refine And.intro (by first | assumption | exact ⟨by omega⟩ | exact ⟨by rw [hlen]; omega⟩ | exact ⟨rfl⟩ | exact ⟨rfl, rfl⟩) ?_)))
      all_goals (try first | rw [if_pos (by omega)] at he | rw [if_neg (by omega)] at he)
      all_goals first
        | (exfalso; omega)
        | exact ⟨_, _, up _ _ ⟨_, k + 1, rfl, by rw [o_add64 hO (by omega) (by omega)]; omega, by omega, rfl, scan_step hno (hg.trans he)⟩, ⟨⟨rfl, rfl, rfl, rfl, trivial⟩, ⟨rfl, trivial⟩, rfl⟩, by omega⟩
        | exact congrArg (D.int .i64) (hr1 _ he.symm (by first | decide | exact h | exact hw0)).symm
  · replace h0 := t_gtr hO h0
    rw [hl1, hl2, hl3, o_max hO, o_max hO] at h0
    conv => cbv
    rw [hr0, if_pos (by omega)]
end Go.Proofs.AM
