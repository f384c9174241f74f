/- Part 9 of the lemmas: TrydLay, GLa, GLb, VVa, VVb, VVd, VVe, VVh, VVi, VVj, VVk, VVl, VVm. -/
import Derived.Shelf.LaysM
import Derived.Shelf.LaysC
import Derived.Shelf.Strconv.Itoa4
import Derived.Shelf.Strconv.ParseInt10All
import Derived.Shelf.Strconv.ParseIntPublic10
import Derived.Shelf.Strconv.ErrVarParseInt
import Derived.Shelf.SlIter.Nil
import Derived.Shelf.SortM.Plain
import Derived.Shelf.SortM.SortNone
import Derived.Ground.GgzProg
import Derived.Ground.SlgmProg
import Derived.Test.YteaklhcejjiinaaDoorProg
import Derived.Test.YteaklhcejjiinaaDoorM06
import Derived.Test.YteaklhcejjiinaaDoorM08
import Derived.Lib.LaidTab
import Derived.Lib.ParseIntBTie
import Derived.WalkKit
import Derived.Shelf.Abstract
import Derived.Test.YteaklhcejjiinaaDoorM07
namespace Go.Proofs
open Go.Shelf
def Tryd.laysM173_ren : Go.Shelf.Ren := ⟨fun | 173 => 36 | 246 => 53 | 283 => 65 | 284 => 66 | 285 => 67 | 286 => 68 | 129 => 79 | 317 => 78 | 318 => 80 | 319 => 81 | 320 => 82 | 337 => 94 | 338 => 95 | n => n, fun | 2 => 2 | 3 => 3 | 9 => 9 | 4 => 4 | 171 => 81 | 0 => 0 | 53 => 73 | 37 => 55 | 5 => 5 | 173 => 84 | 212 => 97 | 51 => 98 | 20 => 20 | 213 => 99 | 46 => 76 | 232 => 121 | 233 => 122 | n => n, fun | 17 => 2 | 18 => 3 | 19 => 4 | n => n⟩
theorem Tryd.laysM173 : Go.Proofs.LaysM.n173 Tryd.prog Tryd.laysM173_ren := {
  mixed := by kernel_rfl
  f129 := Tryd.func79.trans (congrArg some (by kernel_rfl))
  f173 := Tryd.func36.trans (congrArg some (by kernel_rfl))
  f246 := Tryd.func53.trans (congrArg some (by kernel_rfl))
  f283 := Tryd.func65.trans (congrArg some (by kernel_rfl))
  f284 := Tryd.func66.trans (congrArg some (by kernel_rfl))
  f285 := Tryd.func67.trans (congrArg some (by kernel_rfl))
  f286 := Tryd.func68.trans (congrArg some (by kernel_rfl))
  f317 := Tryd.func78.trans (congrArg some (by kernel_rfl))
  f318 := Tryd.func80.trans (congrArg some (by kernel_rfl))
  f319 := Tryd.func81.trans (congrArg some (by kernel_rfl))
  f320 := Tryd.func82.trans (congrArg some (by kernel_rfl))
  f337 := Tryd.func94.trans (congrArg some (by kernel_rfl))
  f338 := Tryd.func95.trans (congrArg some (by kernel_rfl))
  t0 := Tryd.underlying0
  a0 := Tryd.isAgg0
  z0 := Tryd.sizeOf0
  v0 := Tryd.zeroValue0
  t2 := Tryd.underlying2
  a2 := Tryd.isAgg2
  z2 := Tryd.sizeOf2
  v2 := Tryd.zeroValue2
  t3 := Tryd.underlying3
  a3 := Tryd.isAgg3
  z3 := Tryd.sizeOf3
  v3 := Tryd.zeroValue3
  t4 := Tryd.underlying4
  a4 := Tryd.isAgg4
  z4 := Tryd.sizeOf4
  v4 := Tryd.zeroValue4
  t5 := Tryd.underlying5
  a5 := Tryd.isAgg5
  z5 := Tryd.sizeOf5
  v5 := Tryd.zeroValue5
  t9 := Tryd.underlying9
  a9 := Tryd.isAgg9
  z9 := Tryd.sizeOf9
  v9 := Tryd.zeroValue9
  t20 := Tryd.underlying20
  a20 := Tryd.isAgg20
  z20 := Tryd.sizeOf20
  v20 := Tryd.zeroValue20
  t37 := Tryd.underlying55
  a37 := Tryd.isAgg55
  z37 := Tryd.sizeOf55
  v37 := Tryd.zeroValue55
  t46 := Tryd.underlying76
  a46 := Tryd.isAgg76
  z46 := Tryd.sizeOf76
  v46 := Tryd.zeroValue76
  t51 := Tryd.underlying98
  a51 := Tryd.isAgg98
  z51 := Tryd.sizeOf98
  v51 := Tryd.zeroValue98
  t53 := Tryd.underlying73
  a53 := Tryd.isAgg73
  z53 := Tryd.sizeOf73
  v53 := Tryd.zeroValue73
  t171 := Tryd.underlying81
  a171 := Tryd.isAgg81
  z171 := Tryd.sizeOf81
  v171 := Tryd.zeroValue81
  t173 := Tryd.underlying84
  a173 := Tryd.isAgg84
  z173 := Tryd.sizeOf84
  v173 := Tryd.zeroValue84
  t212 := Tryd.underlying97
  a212 := Tryd.isAgg97
  z212 := Tryd.sizeOf97
  v212 := Tryd.zeroValue97
  t213 := Tryd.underlying99
  a213 := Tryd.isAgg99
  z213 := Tryd.sizeOf99
  t232 := Tryd.underlying121
  a232 := Tryd.isAgg121
  z232 := Tryd.sizeOf121
  v232 := Tryd.zeroValue121
  t233 := Tryd.underlying122
  a233 := Tryd.isAgg122
  z233 := Tryd.sizeOf122
  v233 := Tryd.zeroValue122
  g17 := by kernel_rfl
  g18 := by kernel_rfl
  g19 := by kernel_rfl
  i0 := by kernel_rfl
  i2 := by kernel_rfl
  i3 := by kernel_rfl
  i4 := by kernel_rfl
  i5 := by kernel_rfl
  i9 := by kernel_rfl
  i20 := by kernel_rfl
  i37 := by kernel_rfl
  i46 := by kernel_rfl
  i51 := by kernel_rfl
  i53 := by kernel_rfl
  i171 := by kernel_rfl
  i173 := by kernel_rfl
  i212 := by kernel_rfl
  i232 := by kernel_rfl
  i233 := by kernel_rfl
  m17 := by kernel_rfl
  m18 := by kernel_rfl
  m19 := by kernel_rfl }
def Tryd.laysC174_ren : Go.Shelf.Ren := ⟨fun | 174 => 35 | 247 => 51 | 245 => 52 | 287 => 60 | 279 => 61 | 280 => 62 | 281 => 63 | 282 => 64 | 321 => 73 | 322 => 74 | 316 => 75 | 171 => 77 | 205 => 76 | 243 => 93 | 246 => 53 | 283 => 65 | 284 => 66 | 285 => 67 | 286 => 68 | 129 => 79 | 317 => 78 | 318 => 80 | 319 => 81 | 320 => 82 | 337 => 94 | 338 => 95 | n => n, fun | 9 => 9 | 3 => 3 | 2 => 2 | 75 => 50 | 85 => 51 | 4 => 4 | 167 => 72 | 5 => 5 | 53 => 73 | 175 => 74 | 46 => 76 | 168 => 77 | 37 => 55 | 0 => 0 | 210 => 93 | 21 => 21 | 127 => 111 | 145 => 114 | 143 => 112 | 171 => 81 | 173 => 84 | 212 => 97 | 51 => 98 | 20 => 20 | 213 => 99 | 232 => 121 | 233 => 122 | 80 => 126 | n => n, fun | 15 => 0 | 16 => 1 | 17 => 2 | 18 => 3 | 19 => 4 | n => n⟩
theorem Tryd.laysC174 : Go.Proofs.LaysC.n174 Tryd.prog Tryd.laysC174_ren := {
  mixed := by kernel_rfl
  f129 := Tryd.func79.trans (congrArg some (by kernel_rfl))
  f171 := Tryd.func77.trans (congrArg some (by kernel_rfl))
  f174 := Tryd.func35.trans (congrArg some (by kernel_rfl))
  f205 := Tryd.func76.trans (congrArg some (by kernel_rfl))
  f243 := Tryd.func93.trans (congrArg some (by kernel_rfl))
  f245 := Tryd.func52.trans (congrArg some (by kernel_rfl))
  f246 := Tryd.func53.trans (congrArg some (by kernel_rfl))
  f247 := Tryd.func51.trans (congrArg some (by kernel_rfl))
  f279 := Tryd.func61.trans (congrArg some (by kernel_rfl))
  f280 := Tryd.func62.trans (congrArg some (by kernel_rfl))
  f281 := Tryd.func63.trans (congrArg some (by kernel_rfl))
  f282 := Tryd.func64.trans (congrArg some (by kernel_rfl))
  f283 := Tryd.func65.trans (congrArg some (by kernel_rfl))
  f284 := Tryd.func66.trans (congrArg some (by kernel_rfl))
  f285 := Tryd.func67.trans (congrArg some (by kernel_rfl))
  f286 := Tryd.func68.trans (congrArg some (by kernel_rfl))
  f287 := Tryd.func60.trans (congrArg some (by kernel_rfl))
  f316 := Tryd.func75.trans (congrArg some (by kernel_rfl))
  f317 := Tryd.func78.trans (congrArg some (by kernel_rfl))
  f318 := Tryd.func80.trans (congrArg some (by kernel_rfl))
  f319 := Tryd.func81.trans (congrArg some (by kernel_rfl))
  f320 := Tryd.func82.trans (congrArg some (by kernel_rfl))
  f321 := Tryd.func73.trans (congrArg some (by kernel_rfl))
  f322 := Tryd.func74.trans (congrArg some (by kernel_rfl))
  f337 := Tryd.func94.trans (congrArg some (by kernel_rfl))
  f338 := Tryd.func95.trans (congrArg some (by kernel_rfl))
  t0 := Tryd.underlying0
  a0 := Tryd.isAgg0
  z0 := Tryd.sizeOf0
  v0 := Tryd.zeroValue0
  t2 := Tryd.underlying2
  a2 := Tryd.isAgg2
  z2 := Tryd.sizeOf2
  v2 := Tryd.zeroValue2
  t3 := Tryd.underlying3
  a3 := Tryd.isAgg3
  z3 := Tryd.sizeOf3
  v3 := Tryd.zeroValue3
  t4 := Tryd.underlying4
  a4 := Tryd.isAgg4
  z4 := Tryd.sizeOf4
  v4 := Tryd.zeroValue4
  t5 := Tryd.underlying5
  a5 := Tryd.isAgg5
  z5 := Tryd.sizeOf5
  v5 := Tryd.zeroValue5
  t9 := Tryd.underlying9
  a9 := Tryd.isAgg9
  z9 := Tryd.sizeOf9
  v9 := Tryd.zeroValue9
  t20 := Tryd.underlying20
  a20 := Tryd.isAgg20
  z20 := Tryd.sizeOf20
  v20 := Tryd.zeroValue20
  t21 := Tryd.underlying21
  a21 := Tryd.isAgg21
  z21 := Tryd.sizeOf21
  v21 := Tryd.zeroValue21
  t37 := Tryd.underlying55
  a37 := Tryd.isAgg55
  z37 := Tryd.sizeOf55
  v37 := Tryd.zeroValue55
  t46 := Tryd.underlying76
  a46 := Tryd.isAgg76
  z46 := Tryd.sizeOf76
  v46 := Tryd.zeroValue76
  t51 := Tryd.underlying98
  a51 := Tryd.isAgg98
  z51 := Tryd.sizeOf98
  v51 := Tryd.zeroValue98
  t53 := Tryd.underlying73
  a53 := Tryd.isAgg73
  z53 := Tryd.sizeOf73
  v53 := Tryd.zeroValue73
  t75 := Tryd.underlying50
  a75 := Tryd.isAgg50
  z75 := Tryd.sizeOf50
  v75 := Tryd.zeroValue50
  t85 := Tryd.underlying51
  a85 := Tryd.isAgg51
  z85 := Tryd.sizeOf51
  v85 := Tryd.zeroValue51
  t127 := Tryd.underlying111
  a127 := Tryd.isAgg111
  z127 := Tryd.sizeOf111
  v127 := Tryd.zeroValue111
  t143 := Tryd.underlying112
  a143 := Tryd.isAgg112
  z143 := Tryd.sizeOf112
  v143 := Tryd.zeroValue112
  t145 := Tryd.underlying114
  a145 := Tryd.isAgg114
  z145 := Tryd.sizeOf114
  v145 := Tryd.zeroValue114
  t167 := Tryd.underlying72
  a167 := Tryd.isAgg72
  z167 := Tryd.sizeOf72
  v167 := Tryd.zeroValue72
  t168 := Tryd.underlying77
  a168 := Tryd.isAgg77
  z168 := Tryd.sizeOf77
  v168 := Tryd.zeroValue77
  t171 := Tryd.underlying81
  a171 := Tryd.isAgg81
  z171 := Tryd.sizeOf81
  v171 := Tryd.zeroValue81
  t173 := Tryd.underlying84
  a173 := Tryd.isAgg84
  z173 := Tryd.sizeOf84
  v173 := Tryd.zeroValue84
  t175 := Tryd.underlying74
  a175 := Tryd.isAgg74
  z175 := Tryd.sizeOf74
  v175 := Tryd.zeroValue74
  t210 := Tryd.underlying93
  a210 := Tryd.isAgg93
  z210 := Tryd.sizeOf93
  v210 := Tryd.zeroValue93
  t212 := Tryd.underlying97
  a212 := Tryd.isAgg97
  z212 := Tryd.sizeOf97
  v212 := Tryd.zeroValue97
  t213 := Tryd.underlying99
  a213 := Tryd.isAgg99
  z213 := Tryd.sizeOf99
  t232 := Tryd.underlying121
  a232 := Tryd.isAgg121
  z232 := Tryd.sizeOf121
  v232 := Tryd.zeroValue121
  t233 := Tryd.underlying122
  a233 := Tryd.isAgg122
  z233 := Tryd.sizeOf122
  v233 := Tryd.zeroValue122
  g15 := by kernel_rfl
  g16 := by kernel_rfl
  g17 := by kernel_rfl
  g18 := by kernel_rfl
  g19 := by kernel_rfl
  t80 := Tryd.underlying126
  a80 := Tryd.isAgg126
  z80 := Tryd.sizeOf126
  v80 := Tryd.zeroValue126
  i0 := by kernel_rfl
  i2 := by kernel_rfl
  i3 := by kernel_rfl
  i4 := by kernel_rfl
  i5 := by kernel_rfl
  i9 := by kernel_rfl
  i20 := by kernel_rfl
  i21 := by kernel_rfl
  i37 := by kernel_rfl
  i46 := by kernel_rfl
  i51 := by kernel_rfl
  i53 := by kernel_rfl
  i75 := by kernel_rfl
  i80 := by kernel_rfl
  i85 := by kernel_rfl
  i127 := by kernel_rfl
  i143 := by kernel_rfl
  i145 := by kernel_rfl
  i167 := by kernel_rfl
  i168 := by kernel_rfl
  i171 := by kernel_rfl
  i173 := by kernel_rfl
  i175 := by kernel_rfl
  i210 := by kernel_rfl
  i212 := by kernel_rfl
  i232 := by kernel_rfl
  i233 := by kernel_rfl
  m15 := by kernel_rfl
  m16 := by kernel_rfl
  m17 := by kernel_rfl
  m18 := by kernel_rfl
  m19 := by kernel_rfl
  c0 := by kernel_rfl
  c2 := by kernel_rfl
  c3 := by kernel_rfl
  c4 := by kernel_rfl
  c5 := by kernel_rfl
  c9 := by kernel_rfl
  c20 := by kernel_rfl
  c21 := by kernel_rfl
  c37 := by kernel_rfl
  c46 := by kernel_rfl
  c51 := by kernel_rfl
  c53 := by kernel_rfl
  c75 := by kernel_rfl
  c80 := by kernel_rfl
  c85 := by kernel_rfl
  c127 := by kernel_rfl
  c143 := by kernel_rfl
  c145 := by kernel_rfl
  c167 := by kernel_rfl
  c168 := by kernel_rfl
  c171 := by kernel_rfl
  c173 := by kernel_rfl
  c175 := by kernel_rfl
  c210 := by kernel_rfl
  c212 := by kernel_rfl
  c213 := by kernel_rfl
  c232 := by kernel_rfl
  c233 := by kernel_rfl }
def Tryd.keysL_ren : Go.Shelf.Ren := ⟨fun | 7 => 50 | 10 => 59 | n => n, fun | 23 => 45 | 26 => 9 | 3 => 4 | 28 => 65 | 0 => 0 | 27 => 64 | 33 => 33 | 4 => 4 | n => n, fun | n => n⟩
theorem Tryd.keysL : Go.Proofs.SlLaysZ.n7 Tryd.prog Tryd.keysL_ren := {
  mixed := by kernel_rfl
  f7 := ⟨Tryd.f50.name, by decide, Tryd.func50.trans (congrArg some (by kernel_rfl))⟩
  f10 := ⟨Tryd.f59.name, by decide, Tryd.func59.trans (congrArg some (by kernel_rfl))⟩
  t0 := Tryd.underlying0
  a0 := Tryd.isAgg0
  z0 := Tryd.sizeOf0
  v0 := Tryd.zeroValue0
  t4 := Tryd.underlying4
  a4 := Tryd.isAgg4
  z4 := Tryd.sizeOf4
  v4 := Tryd.zeroValue4
  t23 := Tryd.underlying45
  a23 := Tryd.isAgg45
  z23 := Tryd.sizeOf45
  v23 := Tryd.zeroValue45
  t26 := Tryd.underlying9
  a26 := Tryd.isAgg9
  z26 := Tryd.sizeOf9
  v26 := Tryd.zeroValue9
  t27 := Tryd.underlying64
  a27 := Tryd.isAgg64
  z27 := Tryd.sizeOf64
  v27 := Tryd.zeroValue64
  t28 := Tryd.underlying65
  a28 := Tryd.isAgg65
  z28 := Tryd.sizeOf65
  v28 := Tryd.zeroValue65
  t33 := Tryd.underlying33
  a33 := Tryd.isAgg33
  z33 := Tryd.sizeOf33
  v33 := Tryd.zeroValue33 }
def Tryd.sortedL_ren : Go.Shelf.Ren := ⟨fun | 6 => 49 | 8 => 57 | 9 => 58 | 11 => 70 | 13 => 72 | 12 => 71 | 23 => 92 | 24 => 79 | 14 => 83 | 15 => 84 | 16 => 85 | 17 => 86 | 18 => 87 | 19 => 88 | 20 => 89 | 21 => 90 | 22 => 91 | 25 => 96 | 26 => 97 | 27 => 98 | 28 => 99 | 29 => 100 | 30 => 101 | 31 => 102 | n => n, fun | 26 => 9 | 28 => 65 | 24 => 22 | 0 => 0 | 3 => 3 | 37 => 76 | 48 => 98 | 50 => 73 | 4 => 4 | 40 => 103 | 39 => 102 | 45 => 108 | 5 => 5 | 9 => 9 | 51 => 115 | 55 => 119 | 57 => 123 | 58 => 124 | 33 => 33 | n => n, fun | n => n⟩
theorem Tryd.sortedL : Go.Proofs.SlLaysZ.n6 Tryd.prog Tryd.sortedL_ren := {
  mixed := by kernel_rfl
  f6 := ⟨Tryd.f49.name, by decide, Tryd.func49.trans (congrArg some (by kernel_rfl))⟩
  f8 := ⟨Tryd.f57.name, by decide, Tryd.func57.trans (congrArg some (by kernel_rfl))⟩
  f11 := ⟨Tryd.f70.name, by decide, Tryd.func70.trans (congrArg some (by kernel_rfl))⟩
  t0 := Tryd.underlying0
  a0 := Tryd.isAgg0
  z0 := Tryd.sizeOf0
  v0 := Tryd.zeroValue0
  t24 := Tryd.underlying22
  a24 := Tryd.isAgg22
  z24 := Tryd.sizeOf22
  v24 := Tryd.zeroValue22
  t26 := Tryd.underlying9
  a26 := Tryd.isAgg9
  z26 := Tryd.sizeOf9
  v26 := Tryd.zeroValue9
  t28 := Tryd.underlying65
  a28 := Tryd.isAgg65
  z28 := Tryd.sizeOf65
  v28 := Tryd.zeroValue65
  i26 := by kernel_rfl }
def Tryd.sortL_ren : Go.Shelf.Ren := ⟨fun | 6 => 58 | 8 => 72 | 9 => 71 | 19 => 92 | 20 => 79 | 21 => 83 | 22 => 84 | 23 => 85 | 24 => 86 | 25 => 87 | 26 => 88 | 27 => 89 | 28 => 90 | 29 => 91 | 36 => 96 | 31 => 97 | 32 => 98 | 37 => 99 | 38 => 100 | 39 => 101 | 41 => 102 | n => n, fun | 27 => 22 | 29 => 9 | 3 => 3 | 32 => 76 | 26 => 22 | 0 => 0 | 44 => 98 | 46 => 73 | 4 => 4 | 36 => 103 | 35 => 102 | 41 => 108 | 5 => 5 | 9 => 9 | 53 => 115 | 57 => 119 | 63 => 123 | 64 => 124 | n => n, fun | n => n⟩
theorem Tryd.sortL : Go.Proofs.SlLaysM.n6 Tryd.prog Tryd.sortL_ren := {
  mixed := by kernel_rfl
  f6 := ⟨Tryd.f58.name, by decide, Tryd.func58.trans (congrArg some (by kernel_rfl))⟩
  f8 := Tryd.func72.trans (congrArg some (by kernel_rfl))
  f9 := ⟨Tryd.f71.name, by decide, Tryd.func71.trans (congrArg some (by kernel_rfl))⟩
  f19 := Tryd.func92.trans (congrArg some (by kernel_rfl))
  f20 := Tryd.func79.trans (congrArg some (by kernel_rfl))
  f21 := ⟨Tryd.f83.name, by decide, Tryd.func83.trans (congrArg some (by kernel_rfl))⟩
  f22 := ⟨Tryd.f84.name, by decide, Tryd.func84.trans (congrArg some (by kernel_rfl))⟩
  f23 := ⟨Tryd.f85.name, by decide, Tryd.func85.trans (congrArg some (by kernel_rfl))⟩
  f24 := ⟨Tryd.f86.name, by decide, Tryd.func86.trans (congrArg some (by kernel_rfl))⟩
  f25 := ⟨Tryd.f87.name, by decide, Tryd.func87.trans (congrArg some (by kernel_rfl))⟩
  f26 := ⟨Tryd.f88.name, by decide, Tryd.func88.trans (congrArg some (by kernel_rfl))⟩
  f27 := ⟨Tryd.f89.name, by decide, Tryd.func89.trans (congrArg some (by kernel_rfl))⟩
  f28 := ⟨Tryd.f90.name, by decide, Tryd.func90.trans (congrArg some (by kernel_rfl))⟩
  f29 := ⟨Tryd.f91.name, by decide, Tryd.func91.trans (congrArg some (by kernel_rfl))⟩
  f31 := Tryd.func97.trans (congrArg some (by kernel_rfl))
  f32 := Tryd.func98.trans (congrArg some (by kernel_rfl))
  f36 := ⟨Tryd.f96.name, by decide, Tryd.func96.trans (congrArg some (by kernel_rfl))⟩
  f37 := ⟨Tryd.f99.name, by decide, Tryd.func99.trans (congrArg some (by kernel_rfl))⟩
  f38 := ⟨Tryd.f100.name, by decide, Tryd.func100.trans (congrArg some (by kernel_rfl))⟩
  f39 := ⟨Tryd.f101.name, by decide, Tryd.func101.trans (congrArg some (by kernel_rfl))⟩
  f41 := ⟨Tryd.f102.name, by decide, Tryd.func102.trans (congrArg some (by kernel_rfl))⟩
  t0 := Tryd.underlying0
  a0 := Tryd.isAgg0
  z0 := Tryd.sizeOf0
  v0 := Tryd.zeroValue0
  t3 := Tryd.underlying3
  a3 := Tryd.isAgg3
  z3 := Tryd.sizeOf3
  v3 := Tryd.zeroValue3
  t4 := Tryd.underlying4
  a4 := Tryd.isAgg4
  z4 := Tryd.sizeOf4
  v4 := Tryd.zeroValue4
  t5 := Tryd.underlying5
  a5 := Tryd.isAgg5
  z5 := Tryd.sizeOf5
  v5 := Tryd.zeroValue5
  t9 := Tryd.underlying9
  a9 := Tryd.isAgg9
  z9 := Tryd.sizeOf9
  v9 := Tryd.zeroValue9
  t26 := Tryd.underlying22
  a26 := Tryd.isAgg22
  z26 := Tryd.sizeOf22
  v26 := Tryd.zeroValue22
  t27 := Tryd.underlying22
  a27 := Tryd.isAgg22
  z27 := Tryd.sizeOf22
  v27 := Tryd.zeroValue22
  t29 := Tryd.underlying9
  a29 := Tryd.isAgg9
  z29 := Tryd.sizeOf9
  v29 := Tryd.zeroValue9
  t32 := Tryd.underlying76
  a32 := Tryd.isAgg76
  z32 := Tryd.sizeOf76
  v32 := Tryd.zeroValue76
  t35 := Tryd.underlying102
  a35 := Tryd.isAgg102
  z35 := Tryd.sizeOf102
  v35 := Tryd.zeroValue102
  t36 := Tryd.underlying103
  a36 := Tryd.isAgg103
  z36 := Tryd.sizeOf103
  v36 := Tryd.zeroValue103
  t41 := Tryd.underlying108
  a41 := Tryd.isAgg108
  z41 := Tryd.sizeOf108
  v41 := Tryd.zeroValue108
  t44 := Tryd.underlying98
  a44 := Tryd.isAgg98
  z44 := Tryd.sizeOf98
  v44 := Tryd.zeroValue98
  t46 := Tryd.underlying73
  a46 := Tryd.isAgg73
  z46 := Tryd.sizeOf73
  v46 := Tryd.zeroValue73
  t53 := Tryd.underlying115
  a53 := Tryd.isAgg115
  z53 := Tryd.sizeOf115
  v53 := Tryd.zeroValue115
  t57 := Tryd.underlying119
  a57 := Tryd.isAgg119
  z57 := Tryd.sizeOf119
  v57 := Tryd.zeroValue119
  t63 := Tryd.underlying123
  a63 := Tryd.isAgg123
  z63 := Tryd.sizeOf123
  v63 := Tryd.zeroValue123
  t64 := Tryd.underlying124
  a64 := Tryd.isAgg124
  z64 := Tryd.sizeOf124
  v64 := Tryd.zeroValue124 }
end Go.Proofs
namespace Go.Proofs.AM
open Go Go.Lib Go.RowKit Go.Maps Go.Sort Go.Shelf
structure Gd (P : Program) (w : World) : Prop where
  syn : ∃ tp p, w.var? P "strconv.ErrSyntax" = some #[.iface tp p]
  rng : ∃ tp p, w.var? P "strconv.ErrRange" = some #[.iface tp p]
  tab : Lib.TabIs P w "internal/strconv.uint64pow10" .u64 Lib.pow10Tab
theorem var_below {P : Program} {w w' : World} {n : String} {cs : Array Value} (h : w.var? P n = some cs) (hb : Below w.heap.size w w') : w'.var? P n = some cs := by
  unfold World.var? at h ⊢
  rw [Option.bind_eq_some_iff] at h ⊢
  obtain ⟨g, h1, h2⟩ := h
  refine ⟨g, h1, ?_⟩
  cases hg : w.heap[g]? with
  | none => rw [hg] at h2; simp at h2
  | some o =>
    have hlt : g < w.heap.size := (Array.getElem?_eq_some_iff.mp hg).1
    rw [hb.block g hlt]
    exact h2
theorem Gd.grows (P : Program) : Grows (Gd P) := by
  intro w w' h hb
  obtain ⟨⟨t1, p1, h1⟩, ⟨t2, p2, h2⟩, h3⟩ := h
  exact ⟨⟨t1, p1, var_below h1 hb⟩, ⟨t2, p2, var_below h2 hb⟩, var_below h3 hb⟩
theorem below_grow (w : World) (k : Nat) (os : Array Obj) : RowKit.Below w.heap.size w (Go.Sort.grow (w.drewN k) os) where
  os := rfl
  tape := rfl
  output := rfl
  size := by simp [Go.Sort.grow, World.drewN]
  block := fun j hj => by
    show (w.heap ++ os)[j]? = w.heap[j]?
    rw [Array.getElem?_append_left hj]
theorem fmt36 (n : Int) (hn : FI n) : (PR Tryd.prog (Gd Tryd.prog)).v 36 [.int .i64 n, .int .i64 10] (mkS (itoa n)) := by
  refine ⟨enters_of Tryd.func36 (by kernel_rfl) rfl, rfl, fun w S vs hG hv => ?_⟩
  simp only [RVs, RV] at hv
  obtain ⟨_, _, e1, rfl, _, _, rfl, rfl, rfl⟩ := hv
  obtain rfl : vs = #[.int .i64 n, .int .i64 10] := by apply Array.toList_inj.1; rw [e1]
  refine (Any.strconv_FormatInt_10 Tryd.laysM173 n hn.1 hn.2 w hG.tab).mono ?_
  rintro e w' ⟨rfl, k, os, rfl⟩
  exact ⟨_, rfl, below_grow w k os, rfl⟩
theorem parse35 : ParseC (PR Tryd.prog (Gd Tryd.prog)) 35 := by
  intro s hs
  unfold SL at hs
  have hen : Enters Tryd.prog 35 := enters_of Tryd.func35 (by kernel_rfl) rfl
  have hsz : (⟨⟨s⟩⟩ : ByteArray).size = s.length := rfl
  have args : ∀ {c : Cx} {vs : Array Value}, RVs c [mkS s, .int .i64 10, .int .i64 64] vs.toList → vs = #[.string ⟨⟨s⟩⟩, .int .i64 10, .int .i64 64] := by
    intro c vs hv
    simp only [RVs, RV, mkS] at hv
    obtain ⟨_, _, e1, rfl, _, _, rfl, rfl, _, _, rfl, rfl, rfl⟩ := hv
    apply Array.toList_inj.1
    rw [e1]
  rcases hp : parseIntB 64 s with v | _ | _
  · have hb := parseIntB_bounds hp
    have e63 : ((2 ^ (64 - 1) : Nat) : Int) = 9223372036854775808 := by decide
    rw [e63] at hb
    refine ⟨v, .nili, ⟨hen, rfl, fun w S vs hG hv => ?_⟩, ⟨by omega, by omega⟩, .inl ⟨rfl, rfl⟩⟩
    obtain rfl := args hv
    refine (Any.strconv_ParseInt_10_at64_ok Tryd.laysC174 ⟨⟨s⟩⟩ (by rw [hsz]; omega) v hp w).mono ?_
    rintro e w' ⟨rfl, hw⟩
    refine ⟨_, rfl, ?_, by simp [RV, RVs]⟩
    rcases hw with rfl | ⟨t, rfl⟩
    · exact Below.refl _ _
    · exact bytesWorld_below w _ t
  · refine ⟨0, .opq, ⟨hen, rfl, fun w S vs hG hv => ?_⟩, ⟨by omega, by omega⟩, .inr ⟨rfl, fun n hn => by simp at hn⟩⟩
    obtain rfl := args hv
    obtain ⟨tp, p, hvar⟩ := hG.syn
    refine (Any.strconv_ParseInt_10_at64_syntax_var Tryd.laysC174 ⟨⟨s⟩⟩ (by rw [hsz]; omega) hp tp p w hvar).mono ?_
    rintro e w' ⟨N, rfl, _, _, hb⟩
    exact ⟨_, rfl, hb, by simp only [RV, RVs]; exact ⟨_, rfl, _, _, rfl, rfl, _, _, rfl, ⟨_, _, rfl⟩, rfl⟩⟩
  · have hsat : FI (intSat 64 s) := by
      have e63 : ((2 ^ (64 - 1) : Nat) : Int) = 9223372036854775808 := by decide
      cases s with
      | nil => simp [parseIntB] at hp
      | cons c r =>
        by_cases h45 : c = 45
        · subst h45; rw [intSat_minus, e63]; exact ⟨by omega, by omega⟩
        · rw [intSat_other _ _ _ (fun e => h45 (by apply UInt8.toNat_inj.1; rw [e]; rfl))]
          have : ((2 ^ (64 - 1) - 1 : Nat) : Int) = 9223372036854775807 := by decide
          rw [this]
          exact ⟨by omega, by omega⟩
    refine ⟨intSat 64 s, .opq, ⟨hen, rfl, fun w S vs hG hv => ?_⟩, hsat, .inr ⟨rfl, fun n hn => by simp at hn⟩⟩
    obtain rfl := args hv
    obtain ⟨tp, p, hvar⟩ := hG.rng
    refine (Any.strconv_ParseInt_10_at64_range_var Tryd.laysC174 ⟨⟨s⟩⟩ (by rw [hsz]; omega) hp tp p w hvar).mono ?_
    rintro e w' ⟨N, rfl, _, _, hb⟩
    exact ⟨_, rfl, hb, by simp only [RV, RVs]; exact ⟨_, rfl, _, _, rfl, rfl, _, _, rfl, ⟨_, _, rfl⟩, rfl⟩⟩
theorem insert_perm {H : Type} (x : Lit × DataW H) : ∀ l : List (Lit × DataW H), (DataW.insert x l).Perm (x :: l)
  | [] => List.Perm.refl _
  | y :: r => by
    unfold DataW.insert
    split
    · exact List.Perm.refl _
    · exact ((insert_perm x r).cons y).trans (List.Perm.swap x y r)
theorem sorted_perm {H : Type} : ∀ l : List (Lit × DataW H), (l.foldr DataW.insert []).Perm l
  | [] => List.Perm.refl _
  | x :: r => (insert_perm x _).trans ((sorted_perm r).cons x)
theorem sort_rising {ss K : List Str} (h : ss.Perm K) (hK : K.Nodup) : ss.mergeSort (fun x y => decide (x ≤ y)) = risingS K := by
  have hp := List.mergeSort_perm ss fun x y => decide (x ≤ y)
  have hs := List.pairwise_mergeSort (le := fun x y : Str => decide (x ≤ y)) (fun a b c h1 h2 => by
      simp only [decide_eq_true_eq] at h1 h2 ⊢
      exact List.le_trans h1 h2) (fun a b => by
      simp only [Bool.or_eq_true, decide_eq_true_eq]
      exact List.le_total a b) ss
  have hn : (ss.mergeSort fun x y => decide (x ≤ y)).Nodup := (hp.trans h).nodup_iff.2 hK
  refine rises_ext ?_ (risingS_rises K) fun z => by rw [(hp.trans h).mem_iff, risingS_mem]
  unfold Rises
  refine (hs.and hn).imp fun {a b} hab => ?_
  obtain ⟨h1, h2⟩ := hab
  simp only [decide_eq_true_eq] at h1
  rcases lt_total a b with k | k | k
  · exact k
  · exact absurd k h2
  · exact absurd h1 (List.not_le.2 k)
def keyOnly : Value → Option (DataW Unit × List MemPlace) := fun _ => some (.nil, [])
theorem ents_own {b : Nat} {K : List Str} (hKs : ∀ s ∈ K, SL s) (hKl : K.length ≤ 8796093022208) {w : World} {mes : Array MapEntry} {clk : Nat} (hb : w.heap[b]? = some (.map mes clk)) (hst : Stp mes clk)
    (hes : mes.toList.map (·.key) = K.map fun s => .string ⟨⟨s⟩⟩) : ∃ D0 : DataW Unit, w.ownsMap Tryd.prog 9 keyOnly b mes.size D0 ∧ Maps.size D0 = K.length ∧ (strKeys D0).Perm K := by
  have hlen : mes.size = K.length := by have := congrArg List.length hes; simpa using this
  have hrd : ∀ x ∈ mes.toList, ∃ s ∈ K, x.key = .string ⟨⟨s⟩⟩ := fun x hx => by
    have : x.key ∈ mes.toList.map (·.key) := List.mem_map.2 ⟨x, hx, rfl⟩
    rw [hes] at this
    obtain ⟨s, h1, h2⟩ := List.mem_map.1 this
    exact ⟨s, h1, h2.symm⟩
  have hko : ∀ s, SL s → keyOf Tryd.prog 9 (.string ⟨⟨s⟩⟩) = some (.string s) := fun s hs => Go.WideMaps.keyOf_string_mk (s := ⟨⟨s⟩⟩) Tryd.underlying9 (by
    have hsz : (⟨⟨s⟩⟩ : ByteArray).size = s.length := rfl
    unfold SL at hs
    have : maxLen = 9223372036854775807 := by decide
    omega)
  have hrg : mes.toList.map (fun x => Go.strOf (Go.WideElems.rg Tryd.prog 9 keyOnly x).1) = K := by
    have : ∀ (l : List MapEntry) (K : List Str), (∀ s ∈ K, SL s) → l.map (·.key) = K.map (fun s => Value.string ⟨⟨s⟩⟩) → l.map (fun x => Go.strOf (Go.WideElems.rg Tryd.prog 9 keyOnly x).1) = K := by
      intro l
      induction l with
      | nil => intro K _ h; cases K with
        | nil => rfl
        | cons _ _ => simp at h
      | cons x l ih =>
        intro K hK h
        cases K with
        | nil => simp at h
        | cons s K =>
          simp only [List.map_cons, List.cons.injEq] at h ⊢
          refine ⟨?_, ih K (fun s hs => hK s (by simp [hs])) h.2⟩
          unfold Go.WideElems.rg Go.WideElems.rd keyOnly
          rw [h.1, hko s (hK s (by simp))]
          rfl
    exact this _ _ hKs hes
  refine ⟨_, ⟨mes, clk, hb, ⟨by
    have : maxLen = 9223372036854775807 := by decide
    omega, hst, fun x hx => ?_⟩, Nat.le_refl _, rfl⟩, ?_, ?_⟩
  · obtain ⟨s, hs, hk⟩ := hrd x hx
    exact ⟨(.string s, .nil), by unfold Go.WideElems.rd keyOnly; rw [hk, hko s (hKs s hs)]; rfl⟩
  · rw [Maps.size_eq, (sorted_perm _).length_eq]
    simpa using hlen
  · show (List.map _ _).Perm K
    refine ((sorted_perm _).map _).trans ?_
    rw [List.map_map]
    generalize Go.WideElems.rg Tryd.prog 9 (keyOnly) = F at hrg ⊢
    exact List.Perm.of_eq hrg
theorem sortsL (m : Nat) : AnyZ.SortsIn Tryd.prog Tryd.sortedL_ren Fence.wide m :=
  ⟨fun blk off cap ss W hH hblk hsz => callsIn_wide.2 (AnyM.slices_Sort_string Tryd.sortL blk off cap ss W hH hblk hsz), fun p cap W => callsIn_wide.2 (AnyM.slices_Sort_string_none Tryd.sortL p cap W)⟩
theorem keys_call (mb : Option Nat) (W : World) : CallsIn Fence.wide 5 Tryd.prog 50 #[.map mb] W fun e w' => e = .returned (.func (.func 59) #[] #[.pointer (some ⟨W.heap.size, 0, none⟩)]) ∧ w' = W.alloc (.cells #[.map mb] 45) :=
  AnyZ.keys_in Tryd.keysL Fence.wide 5 trivial rfl mb W
set_option maxHeartbeats 1000000 in
theorem sorted_call {H : Type} (b nn : Nat) (D0 : DataW H) (R : Value → Option (DataW H × List MemPlace)) (w : World) (hown : w.ownsMap Tryd.prog 9 R b nn D0) (hmax : Maps.size D0 ≤ maxLen) (hbytes : Maps.size D0 * 16 ≤ 140737488355328) :
    CallsIn Fence.wide 5 Tryd.prog 49 #[.func (.func 59) #[] #[.pointer (some ⟨w.heap.size, 0, none⟩)]] (w.alloc (.cells #[.map (some b)] 45)) fun e w' => ∃ (v : Value) (ss : List (List UInt8)), e = .returned v ∧ ss.Perm (strKeys D0) ∧
      w'.ownsRow (w.alloc (.cells #[.map (some b)] 45)).heap.size 9 1 v ss.length ((ss.mergeSort (fun x y => decide (x ≤ y))).map encStr) ∧ (v = .slice none 0 0 ↔ ss = []) ∧ RowKit.Below (w.alloc (.cells #[.map (some b)] 45)).heap.size (w.alloc (.cells #[.map (some b)] 45)) w' := by
  have hbl := hown.lt
  have hseq : SeqGives Fence.wide 2 Tryd.prog 59 #[.pointer (some ⟨w.heap.size, 0, none⟩)] encStr (fun ss => ss.Perm (strKeys D0)) (Maps.size D0) (w.alloc (.cells #[.map (some b)] 45)) :=
    AnyZ.keys_gives (ρ := Tryd.keysL_ren) { Tryd.keysL with } Fence.wide _ trivial rfl (by omega) w.heap.size b nn D0 _ (by simp) (by simp) (by
      obtain ⟨es, clock, hb, Ft, hs, hD⟩ := hown
      exact ⟨es, clock, (Below.heap_alloc _ _ b hbl).trans hb, Ft, hs, hD⟩)
  exact AnyZ.sorted_in Tryd.sortedL Fence.wide 5 trivial trivial trivial trivial rfl (by omega) (sortsL _) (enters_of Tryd.func58 (by kernel_rfl) rfl) 59 #[.pointer (some ⟨w.heap.size, 0, none⟩)] trivial (enters_of Tryd.func59 (by kernel_rfl) rfl) _ _ hmax hbytes _ hseq
set_option maxHeartbeats 1000000 in
theorem rising_calls (b : Nat) (K : List Str) (hK : K.Nodup) (hKs : ∀ s ∈ K, SL s) (hKl : K.length ≤ 8796093022208) (w : World) (mes : Array MapEntry) (clk : Nat) (hb : w.heap[b]? = some (.map mes clk)) (hst : Stp mes clk)
    (hes : mes.toList.map (·.key) = K.map fun s => .string ⟨⟨s⟩⟩) :
    Calls Tryd.prog 32 #[.map (some b)] w fun e w' => ∃ v : Value, e = .returned v ∧ w'.ownsRow w.heap.size 9 1 v K.length ((risingS K).map encStr) ∧ Below w.heap.size w w' := by
  obtain ⟨D0, hown, hsz, hperm⟩ := ents_own hKs hKl hb hst hes
  have hmax : Maps.size D0 ≤ maxLen := by
    have : maxLen = 9223372036854775807 := by decide
    omega
  have hbytes : Maps.size D0 * 16 ≤ 140737488355328 := by omega
  refine (callsIn_wide (n := 6)).1 ?_
  have hfK : Fence.wide.fn 50 := trivial
  have hfS : Fence.wide.fn 49 := trivial
  refine callsIn_of_wp Tryd.func32 rfl trivial ?_ rfl
  simp only [Tryd.ntmps32, List.size_toArray, List.length_cons, List.length_nil, Nat.reduceAdd, Nat.reduceSub, Array.replicate_succ, Array.replicate_zero, List.push_toArray, List.append_toArray, List.nil_append, List.cons_append]
  gi_wp2_with (first
    | (gi_at_call 50; refine (keys_call _ _).mono ?_; rintro e w' ⟨rfl, rfl⟩)
    | (gi_at_call 49; refine (sorted_call b _ D0 _ w hown hmax hbytes).mono ?_; rintro e w' ⟨v, ss, rfl, hS, hrow, hnil, hb⟩))
  go_ret
  have hp := hS.trans hperm
  have e1 := sort_rising hp hK
  have hrow' := ownsRow_base_a (base' := w.heap.size) hrow (by simp)
  rw [e1, hp.length_eq] at hrow'
  exact ⟨v, rfl, hrow', ((Below.refl _ w).alloc (Nat.le_refl _) _).trans (hb.mono (by simp))⟩
theorem row_told {w : World} {S : Nat → Prop} {base : Nat} {v : Value} {l : List Str} {n : Nat} (h : w.ownsRow base 9 1 v n (l.map encStr)) (hS : ∀ b, base ≤ b → S b) : RV ⟨w, S, bx0, noLoc⟩ (.sl 1 false (l.map mkS)) v := by
  obtain ⟨hlen, h⟩ := h
  have hn : n = l.length := by simpa using hlen.symm
  subst hn
  simp only [RV, List.length_map]
  rcases h with ⟨rfl, h0⟩ | ⟨g, cap, cur, rfl, hg, hgb, h1, h2, h3, h4⟩
  · have : l = [] := List.eq_nil_of_length_eq_zero h0
    subst this
    exact ⟨none, 0, rfl, Nat.le_refl _, by simp, by simp, trivial⟩
  · refine ⟨some ⟨g, 0, none⟩, cap, rfl, h1, by simp, by simp, ?_⟩
    have hlt : g < w.heap.size := (Array.getElem?_eq_some_iff.mp hgb).1
    have key : ∀ (r : List Str) (i : Nat), (∀ (j : Nat) s, r[j]? = some s → l[i + j]? = some s) → RSl ⟨w, S, bx0, noLoc⟩ 1 (some ⟨g, 0, none⟩) i (r.map mkS) := by
      intro r
      induction r with
      | nil => intro i _; trivial
      | cons s r ih =>
        intro i hr
        simp only [List.map_cons, RSl]
        refine ⟨⟨⟨g, 0, none⟩, .string ⟨⟨s⟩⟩, rfl, hS g hg, hlt, rfl, rfl, by simp [Value.cells, Value.oneCell'], fun j hj => ?_⟩, ih (i + 1) fun j s hj => by have := hr (j + 1) s (by simpa using hj); rw [← this]; congr 1; omega⟩
        have hj0 : j = 0 := by omega
        subst hj0
        have hs := hr 0 s rfl
        rw [Nat.add_zero] at hs
        have hi : i < l.length := (List.getElem?_eq_some_iff.1 hs).1
        have hc : cur[i]? = some (encStr s) := by
          have e1 : (cur.toList.take (l.length * 1))[i]? = some (encStr s) := by rw [h4, List.getElem?_map, hs]; rfl
          rw [List.getElem?_take_of_lt (by omega)] at e1
          simpa using e1
        show w.cell? (Addr.add ⟨g, 0, none⟩ (i * 1 + 0)) = _
        rw [add_lit]
        unfold World.cell?
        simp only [Nat.zero_add, Nat.mul_one, Nat.add_zero]
        rw [hgb]
        simpa [encStr, Value.cells] using hc
    exact key l 0 fun j s hj => by simpa using hj
theorem keys_of_REs {c : Cx} : ∀ {K : List Str} {l : List MapEntry}, REs c (K.map ent) l → l.map (·.key) = K.map fun s => .string ⟨⟨s⟩⟩
  | [], l, h => by simp only [List.map_nil, REs] at h; subst h; rfl
  | s :: K, l, h => by
    simp only [List.map_cons, REs, ent, RV, RVs, mkS] at h
    obtain ⟨e, r, rfl, ⟨vs, h1, _, _, h2, rfl, _, _, rfl, rfl, rfl⟩, h3⟩ := h
    simp only [Value.tuple.injEq] at h1
    subst h1
    simp only [List.cons.injEq] at h2
    simp only [List.map_cons, List.cons.injEq]
    exact ⟨h2.1, keys_of_REs h3⟩
theorem rising32 (K : List Str) (hK : K.Nodup) (hKs : ∀ s ∈ K, SL s) (hKl : K.length ≤ 8796093022208) : (PR Tryd.prog (Gd Tryd.prog)).v 32 [.mapv (K.map ent)] (.sl 1 false ((risingS K).map mkS)) := by
  have hc : CleanL ((risingS K).map mkS) := cleanL_map clean_S rfl
  refine ⟨enters_of Tryd.func32 (by kernel_rfl) rfl, by simp [closed, hc.c], fun w S vs hG hv => ?_⟩
  simp only [RVs, RV] at hv
  obtain ⟨_, _, e1, ⟨b, mes, clk, rfl, hA, ⟨hb, hst⟩, hes⟩, rfl⟩ := hv
  obtain rfl : vs = #[.map (some b)] := by apply Array.toList_inj.1; rw [e1]
  refine (rising_calls b K hK hKs hKl w mes clk hb hst (keys_of_REs hes)).mono ?_
  rintro e w' ⟨v, rfl, hrow, hbl⟩
  exact ⟨_, rfl, hbl, row_told hrow fun b hb => .inr hb⟩
end Go.Proofs.AM
namespace Go.Proofs.AM
open Go Go.RowKit Go.Shelf Cd
set_option maxRecDepth 100000
theorem follows_mixed : Tryd.prog.follows .mixedOrders = true := by kernel_rfl
theorem E12 : Enters Tryd.prog 12 := enters_of Tryd.func12 (by kernel_rfl) rfl
theorem T12 : funcT Tryd.prog [] Tryd.f12 = some c12.erase := by kernel_rfl
theorem E13 : Enters Tryd.prog 13 := enters_of Tryd.func13 (by kernel_rfl) rfl
theorem T13 : funcT Tryd.prog [] Tryd.f13 = some c13.erase := by kernel_rfl
theorem E15 : Enters Tryd.prog 15 := enters_of Tryd.func15 (by kernel_rfl) rfl
theorem T15 : funcT Tryd.prog [] Tryd.f15 = some c15.erase := by kernel_rfl
theorem E16 : Enters Tryd.prog 16 := enters_of Tryd.func16 (by kernel_rfl) rfl
theorem T16 : funcT Tryd.prog [] Tryd.f16 = some c16.erase := by kernel_rfl
theorem E17 : Enters Tryd.prog 17 := enters_of Tryd.func17 (by kernel_rfl) rfl
theorem T17 : funcT Tryd.prog [] Tryd.f17 = some c17.erase := by kernel_rfl
theorem E18 : Enters Tryd.prog 18 := enters_of Tryd.func18 (by kernel_rfl) rfl
theorem T18 : funcT Tryd.prog [] Tryd.f18 = some c18.erase := by kernel_rfl
theorem E19 : Enters Tryd.prog 19 := enters_of Tryd.func19 (by kernel_rfl) rfl
theorem T19 : funcT Tryd.prog [] Tryd.f19 = some c19.erase := by kernel_rfl
theorem E20 : Enters Tryd.prog 20 := enters_of Tryd.func20 (by kernel_rfl) rfl
theorem T20 : funcT Tryd.prog [] Tryd.f20 = some c20.erase := by kernel_rfl
theorem E21 : Enters Tryd.prog 21 := enters_of Tryd.func21 (by kernel_rfl) rfl
theorem T21 : funcT Tryd.prog [] Tryd.f21 = some c21.erase := by kernel_rfl
theorem E22 : Enters Tryd.prog 22 := enters_of Tryd.func22 (by kernel_rfl) rfl
theorem T22 : funcT Tryd.prog [] Tryd.f22 = some c22.erase := by kernel_rfl
theorem E23 : Enters Tryd.prog 23 := enters_of Tryd.func23 (by kernel_rfl) rfl
theorem T23 : funcT Tryd.prog [] Tryd.f23 = some c23.erase := by kernel_rfl
theorem E24 : Enters Tryd.prog 24 := enters_of Tryd.func24 (by kernel_rfl) rfl
theorem T24 : funcT Tryd.prog [52, 109, 65, 51] Tryd.f24 = some c24.erase := by kernel_rfl
theorem E25 : Enters Tryd.prog 25 := enters_of Tryd.func25 (by kernel_rfl) rfl
theorem T25 : funcT Tryd.prog [] Tryd.f25 = some c25.erase := by kernel_rfl
theorem E26 : Enters Tryd.prog 26 := enters_of Tryd.func26 (by kernel_rfl) rfl
theorem T26 : funcT Tryd.prog [] Tryd.f26 = some c26.erase := by kernel_rfl
theorem E27 : Enters Tryd.prog 27 := enters_of Tryd.func27 (by kernel_rfl) rfl
theorem T27 : funcT Tryd.prog [] Tryd.f27 = some c27.erase := by kernel_rfl
theorem E28 : Enters Tryd.prog 28 := enters_of Tryd.func28 (by kernel_rfl) rfl
theorem T28 : funcT Tryd.prog [] Tryd.f28 = some c28.erase := by kernel_rfl
theorem E29 : Enters Tryd.prog 29 := enters_of Tryd.func29 (by kernel_rfl) rfl
theorem T29 : funcT Tryd.prog [] Tryd.f29 = some c29.erase := by kernel_rfl
theorem E30 : Enters Tryd.prog 30 := enters_of Tryd.func30 (by kernel_rfl) rfl
theorem T30 : funcT Tryd.prog [] Tryd.f30 = some c30.erase := by kernel_rfl
theorem E31 : Enters Tryd.prog 31 := enters_of Tryd.func31 (by kernel_rfl) rfl
theorem T31 : funcT Tryd.prog [] Tryd.f31 = some c31.erase := by kernel_rfl
theorem E33 : Enters Tryd.prog 33 := enters_of Tryd.func33 (by kernel_rfl) rfl
theorem T33 : funcT Tryd.prog [] Tryd.f33 = some c33.erase := by kernel_rfl
theorem E34 : Enters Tryd.prog 34 := enters_of Tryd.func34 (by kernel_rfl) rfl
theorem T34 : funcT Tryd.prog [] Tryd.f34 = some c34.erase := by kernel_rfl
theorem E37 : Enters Tryd.prog 37 := enters_of Tryd.func37 (by kernel_rfl) rfl
theorem T37 : funcT Tryd.prog [] Tryd.f37 = some c37.erase := by kernel_rfl
theorem E38 : Enters Tryd.prog 38 := enters_of Tryd.func38 (by kernel_rfl) rfl
theorem T38 : funcT Tryd.prog [] Tryd.f38 = some c38.erase := by kernel_rfl
theorem E39 : Enters Tryd.prog 39 := enters_of Tryd.func39 (by kernel_rfl) rfl
theorem T39 : funcT Tryd.prog [] Tryd.f39 = some c39.erase := by kernel_rfl
theorem E40 : Enters Tryd.prog 40 := enters_of Tryd.func40 (by kernel_rfl) rfl
theorem T40 : funcT Tryd.prog [] Tryd.f40 = some c40.erase := by kernel_rfl
theorem E41 : Enters Tryd.prog 41 := enters_of Tryd.func41 (by kernel_rfl) rfl
theorem T41 : funcT Tryd.prog [] Tryd.f41 = some c41.erase := by kernel_rfl
theorem E42 : Enters Tryd.prog 42 := enters_of Tryd.func42 (by kernel_rfl) rfl
theorem T42 : funcT Tryd.prog [] Tryd.f42 = some c42.erase := by kernel_rfl
theorem E43 : Enters Tryd.prog 43 := enters_of Tryd.func43 (by kernel_rfl) rfl
theorem T43 : funcT Tryd.prog [] Tryd.f43 = some c43.erase := by kernel_rfl
theorem E44 : Enters Tryd.prog 44 := enters_of Tryd.func44 (by kernel_rfl) rfl
theorem T44 : funcT Tryd.prog [22, 23, 27, 29, 30] Tryd.f44 = some c44.erase := by kernel_rfl
theorem E45 : Enters Tryd.prog 45 := enters_of Tryd.func45 (by kernel_rfl) rfl
theorem T45 : funcT Tryd.prog [] Tryd.f45 = some c45.erase := by kernel_rfl
theorem E46 : Enters Tryd.prog 46 := enters_of Tryd.func46 (by kernel_rfl) rfl
theorem T46 : funcT Tryd.prog [] Tryd.f46 = some c46.erase := by kernel_rfl
theorem E47 : Enters Tryd.prog 47 := enters_of Tryd.func47 (by kernel_rfl) rfl
theorem T47 : funcT Tryd.prog [] Tryd.f47 = some c47.erase := by kernel_rfl
theorem E48 : Enters Tryd.prog 48 := enters_of Tryd.func48 (by kernel_rfl) rfl
theorem T48 : funcT Tryd.prog [] Tryd.f48 = some c48.erase := by kernel_rfl
theorem E54 : Enters Tryd.prog 54 := enters_of Tryd.func54 (by kernel_rfl) rfl
theorem T54 : funcT Tryd.prog [] Tryd.f54 = some c54.erase := by kernel_rfl
theorem E55 : Enters Tryd.prog 55 := enters_of Tryd.func55 (by kernel_rfl) rfl
theorem T55 : funcT Tryd.prog [] Tryd.f55 = some c55.erase := by kernel_rfl
theorem E56 : Enters Tryd.prog 56 := enters_of Tryd.func56 (by kernel_rfl) rfl
theorem T56 : funcT Tryd.prog [] Tryd.f56 = some c56.erase := by kernel_rfl
theorem E69 : Enters Tryd.prog 69 := enters_of Tryd.func69 (by kernel_rfl) rfl
theorem T69 : funcT Tryd.prog [] Tryd.f69 = some c69.erase := by kernel_rfl
theorem E3 : Enters Tryd.prog 3 := enters_of Tryd.func3 (by kernel_rfl) rfl
theorem T3 : funcT Tryd.prog [] Tryd.f3 = some c3.erase := by kernel_rfl
theorem E4 : Enters Tryd.prog 4 := enters_of Tryd.func4 (by kernel_rfl) rfl
theorem T4 : funcT Tryd.prog [] Tryd.f4 = some c4.erase := by kernel_rfl
theorem E5 : Enters Tryd.prog 5 := enters_of Tryd.func5 (by kernel_rfl) rfl
theorem T5 : funcT Tryd.prog [] Tryd.f5 = some c5.erase := by kernel_rfl
theorem E6 : Enters Tryd.prog 6 := enters_of Tryd.func6 (by kernel_rfl) rfl
theorem T6 : funcT Tryd.prog [] Tryd.f6 = some c6.erase := by kernel_rfl
theorem E7 : Enters Tryd.prog 7 := enters_of Tryd.func7 (by kernel_rfl) rfl
theorem T7 : funcT Tryd.prog [] Tryd.f7 = some c7.erase := by kernel_rfl
theorem E8 : Enters Tryd.prog 8 := enters_of Tryd.func8 (by kernel_rfl) rfl
theorem T8 : funcT Tryd.prog [] Tryd.f8 = some c8.erase := by kernel_rfl
theorem E9 : Enters Tryd.prog 9 := enters_of Tryd.func9 (by kernel_rfl) rfl
theorem T9 : funcT Tryd.prog [] Tryd.f9 = some c9.erase := by kernel_rfl
theorem E10 : Enters Tryd.prog 10 := enters_of Tryd.func10 (by kernel_rfl) rfl
theorem T10 : funcT Tryd.prog [47, 48, 49, 50, 51, 52, 53, 54, 55, 56] Tryd.f10 = some c10.erase := by kernel_rfl
theorem E11 : Enters Tryd.prog 11 := enters_of Tryd.func11 (by kernel_rfl) rfl
theorem T11 : funcT Tryd.prog [] Tryd.f11 = some c11.erase := by kernel_rfl
theorem E14 : Enters Tryd.prog 14 := enters_of Tryd.func14 (by kernel_rfl) rfl
theorem T14 : funcT Tryd.prog [] Tryd.f14 = some c14.erase := by kernel_rfl
end Go.Proofs.AM
namespace Go.Proofs.AM
open Go Go.Lib Cd
theorem name18_ok (R : Ans) (s : Str) (hs : SL s) : AnsF R c18 [mkS s] (.bool (nameB s)) := by
  obtain ⟨r, hr⟩ : ∃ r, r = nameB s := ⟨_, rfl⟩
  rw [← hr]
  unfold SL at hs
  refine wpF_sound ⟨rfl, by decide⟩ fun O hO V hV => ?_
  have hlen : O .len (O .bytes ⟨⟨s⟩⟩) = s.length := by rw [o_len hO, o_bytes hO]; simp
  conv => cbv
  refine loop_of (fun n d => ∃ (i : Int) (k : Nat), d = ⟨[(0, mkS s), (7, .sl 1 false (O .bytes ⟨⟨s⟩⟩)), (8, .int .i64 (O .len (O .bytes ⟨⟨s⟩⟩))), (9, .int .i64 i)], [], false⟩ ∧ i = k ∧ k ≤ s.length ∧ n = s.length - k ∧ ∀ j c, j < k → s[j]? = some c → okc c ∧ (j = 0 → small c)) ⟨_, _, ⟨_, 0, rfl, rfl, by omega, rfl, by simp⟩, ⟨⟨rfl, rfl, rfl, rfl, trivial⟩, trivial, rfl⟩⟩ ?_
  rintro J up n d ⟨i, k, rfl, hi, hk, rfl, hno⟩
  conv => cbv
  rintro (_ | _) h1
  · replace h1 := f_lss hO h1
    rw [hlen] at h1
    have hall : ∀ j c, s[j]? = some c → okc c ∧ (j = 0 → small c) := fun j c hc => hno j c (by have := (List.getElem?_eq_some_iff.1 hc).1; omega) hc
    conv => cbv
    rintro (_ | _) h2
    · replace h2 : s = [] := f_sneq hO h2
      conv => cbv
      rw [hr, nameB_len (by rw [h2]; simp)]
    · replace h2 : s ≠ [] := t_sneq hO h2
      have h3 : 1 ≤ s.length := List.length_pos_iff.2 h2
      conv => cbv
      rintro (_ | _) h4
      · replace h4 := f_leq hO h4
        rw [o_slen hO] at h4
        conv => cbv
        rw [hr, nameB_len (by omega)]
      · replace h4 := t_leq hO h4
        rw [o_slen hO] at h4
        conv => cbv
        rw [hr, nameB_true h3 (by omega) hall]
  · replace h1 := t_lss hO h1
    rw [hlen] at h1
    obtain ⟨c, hc⟩ : ∃ c, s[k]? = some c := ⟨_, List.getElem?_eq_getElem (by omega)⟩
    obtain ⟨v, hv⟩ : ∃ v : Int, v = c.toNat := ⟨_, rfl⟩
    have hat : atX (O .bytes ⟨⟨s⟩⟩) i (.int .u8 v) := by rw [hv]; exact atX_map hc (o_bytes hO s) hi
    conv => cbv
    refine ⟨_, hat, ?_⟩
    repeat' ((conv => cbv); rintro (_ | _) _)
    all_goals (conv => cbv)
    all_goals simp only [o_geq hO, o_leq hO, o_lss hO, o_gtr hO, o_eql hO, o_neq hO, true_eq_decide_iff, false_eq_decide_iff] at *
    all_goals first
      | (rw [hr, nameB_false hc (by unfold okc small; omega)]; done)
      | (refine ⟨_, _, up _ _ ⟨_, k + 1, rfl, ?_, by omega, rfl, ?_⟩, ⟨⟨rfl, rfl, rfl, rfl, trivial⟩, trivial, rfl⟩, by omega⟩
         · rw [o_add64 hO (by omega) (by omega)]; omega
         · intro j c' hj hc'
           by_cases e : j = k
           · subst e
             rw [hc] at hc'
             simp only [Option.some.injEq] at hc'
             subst hc'
             unfold okc small
             omega
           · exact hno j c' (by omega) hc')
end Go.Proofs.AM
namespace Go.Proofs.AM
open Go Go.Lib Cd
theorem name16_ok (R : Ans) (s : Str) (hs : SL s) : AnsF R c16 [mkS s] (.bool (nameB s)) := by
  obtain ⟨r, hr⟩ : ∃ r, r = nameB s := ⟨_, rfl⟩
  rw [← hr]
  unfold SL at hs
  refine wpF_sound ⟨rfl, by decide⟩ fun O hO V hV => ?_
  conv => cbv
  rintro (_ | _) h1
  · replace h1 := f_lss hO h1
    rw [o_slen hO] at h1
    conv => cbv
    rintro (_ | _) h2
    · replace h2 := f_gtr hO h2
      rw [o_slen hO] at h2
      obtain ⟨c, hc⟩ : ∃ c, s[0]? = some c := ⟨_, List.getElem?_eq_getElem (by omega)⟩
      conv => cbv
      refine ⟨c, ⟨by decide⟩, hc, ?_⟩
      obtain ⟨v, hv⟩ : ∃ v : Int, v = O .u8 c := ⟨_, rfl⟩
      rw [← hv]
      rw [o_u8 hO] at hv
      conv => cbv
      rintro (_ | _) h3
      · replace h3 := f_lss hO h3
        conv => cbv
        refine ⟨c, ⟨by decide⟩, hc, ?_⟩
        have hv2 : O .u8 c = v := by rw [o_u8 hO, hv]
        rw [hv2]
        conv => cbv
        rintro (_ | _) h4
        · replace h4 := f_gtr hO h4
          conv => cbv
          refine loop_of (fun n d => ∃ (i : Int) (k : Nat), d = ⟨[(0, mkS s), (3, .int .i64 i)], [], false⟩ ∧ i = k ∧ k ≤ s.length ∧ n = s.length - k ∧ ∀ j c, j < k → s[j]? = some c → okc c ∧ (j = 0 → small c)) ⟨_, _, ⟨_, 0, rfl, rfl, by omega, rfl, by simp⟩, ⟨⟨rfl, rfl, trivial⟩, trivial, rfl⟩⟩ ?_
          rintro J up n d ⟨i, k, rfl, hi, hk, rfl, hno⟩
          conv => cbv
          rintro (_ | _) h5
          · replace h5 := f_lss hO h5
            rw [o_slen hO] at h5
            conv => cbv
            rw [hr, nameB_true (by omega) (by omega) fun j c hc => hno j c (by have := (List.getElem?_eq_some_iff.1 hc).1; omega) hc]
          · replace h5 := t_lss hO h5
            rw [o_slen hO] at h5
            obtain ⟨b, hb⟩ : ∃ b, s[k]? = some b := ⟨_, List.getElem?_eq_getElem (by omega)⟩
            obtain ⟨u, hu⟩ : ∃ u : Int, u = O .u8 b := ⟨_, rfl⟩
            have hu2 := hu
            rw [o_u8 hO] at hu2
            conv => cbv
            refine ⟨b, ⟨by omega⟩, by rw [hi]; exact hb, ?_⟩
            rw [← hu]
            have h0 : k = 0 → c = b := fun e => by subst e; rw [hc] at hb; simpa using hb
            have h00 : k = 0 → v = u := fun e => by rw [hv, hu2, h0 e]
            repeat' ((conv => cbv); rintro (_ | _) _)
            all_goals (conv => cbv)
            all_goals simp only [o_lss hO, o_gtr hO, o_neq hO, true_eq_decide_iff, false_eq_decide_iff] at *
            all_goals first
              | (rw [hr, nameB_false hb (by unfold okc small; omega)]; done)
              | (refine ⟨_, _, up _ _ ⟨_, k + 1, rfl, ?_, by omega, rfl, ?_⟩, ⟨⟨rfl, rfl, trivial⟩, trivial, rfl⟩, by omega⟩
                 · rw [o_add64 hO (by omega) (by omega)]; omega
                 · intro j c' hj hc'
                   by_cases e : j = k
                   · subst e
                     rw [hb] at hc'
                     simp only [Option.some.injEq] at hc'
                     subst hc'
                     unfold okc small
                     omega
                   · exact hno j c' (by omega) hc')
        · replace h4 := t_gtr hO h4
          conv => cbv
          rw [hr, nameB_false hc (by unfold okc small; omega)]
      · replace h3 := t_lss hO h3
        conv => cbv
        rw [hr, nameB_false hc (by unfold okc small; omega)]
    · replace h2 := t_gtr hO h2
      rw [o_slen hO] at h2
      conv => cbv
      rw [hr, nameB_len (by omega)]
  · replace h1 := t_lss hO h1
    rw [o_slen hO] at h1
    conv => cbv
    rw [hr, nameB_len (by omega)]
end Go.Proofs.AM
namespace Go.Proofs.AM
open Go Go.Lib Cd
theorem in45_ok (R : Ans) (l : List Str) (hl : l.length < 4611686018427387904) (x : Str) : AnsF R c45 [.sl 1 false (l.map mkS), mkS x] (.bool (decide (x ∈ l))) := by
  obtain ⟨xs, hxs⟩ : ∃ xs, xs = l.map mkS := ⟨_, rfl⟩
  obtain ⟨r, hr⟩ : ∃ r, r = decide (x ∈ l) := ⟨_, rfl⟩
  rw [← hxs, ← hr]
  refine wpF_sound ⟨rfl, by decide⟩ fun O hO V hV => ?_
  have hlen : O .len xs = l.length := by rw [o_len hO, hxs]; simp
  conv => cbv
  refine loop_of (fun n d => ∃ (i : Int) (k : Nat), d = ⟨[(0, .sl 1 false xs), (1, mkS x), (5, .int .i64 i)], [], false⟩ ∧ i = k ∧ k ≤ l.length ∧ n = l.length - k ∧ ∀ j, j < k → l[j]? ≠ some x) ⟨_, _, ⟨_, 0, rfl, rfl, by omega, rfl, by simp⟩, ⟨⟨rfl, rfl, rfl, trivial⟩, trivial, rfl⟩⟩ ?_
  rintro J up n d ⟨i, k, rfl, hi, hk, rfl, hno⟩
  conv => cbv
  rintro (_ | _) h1
  · replace h1 := f_lss hO h1
    rw [hlen] at h1
    conv => cbv
    rw [hr]
    simp
    intro hm
    obtain ⟨j, hj⟩ := List.getElem?_of_mem hm
    exact hno j (by have := (List.getElem?_eq_some_iff.1 hj).1; omega) hj
  · replace h1 := t_lss hO h1
    rw [hlen] at h1
    obtain ⟨y, hy⟩ : ∃ y, l[k]? = some y := ⟨_, List.getElem?_eq_getElem (by omega)⟩
    conv => cbv
    refine ⟨mkS y, atX_map hy hxs hi, ?_⟩
    conv => cbv
    rintro (_ | _) h2
    · replace h2 : y ≠ x := f_seql hO h2
      conv => cbv
      refine ⟨_, _, up _ _ ⟨_, k + 1, rfl, ?_, by omega, rfl, ?_⟩, ⟨⟨rfl, rfl, rfl, trivial⟩, trivial, rfl⟩, by omega⟩
      · rw [o_add64 hO (by omega) (by omega)]; omega
      · intro j hj
        by_cases e : j = k
        · subst e; rw [hy]; simpa using h2
        · exact hno j (by omega)
    · replace h2 : y = x := t_seql hO h2
      conv => cbv
      rw [hr]
      subst h2
      simp [List.mem_of_getElem? hy]
theorem first_ix {x : Str} : ∀ {l : List Str}, x ∈ l → ∃ k : Nat, l[k]? = some x ∧ ∀ j, j < k → l[j]? ≠ some x
  | [], h => by simp at h
  | y :: r, h => by
    by_cases e : y = x
    · exact ⟨0, by simp [e], fun j hj => by omega⟩
    · have hm : x ∈ r := by
        rcases List.mem_cons.1 h with h | h
        · exact absurd h.symm e
        · exact h
      obtain ⟨k, h1, h2⟩ := first_ix hm
      refine ⟨k + 1, by simpa using h1, fun j hj => ?_⟩
      cases j with
      | zero => simpa using e
      | succ j => simpa using h2 j (by omega)
theorem index69_ok (R : Ans) (l : List Str) (hl : l.length < 4611686018427387904) (x : Str) : ∃ n : Int, AnsF R c69 [.sl 1 false (l.map mkS), mkS x] (.int .i64 n) ∧ (x ∈ l → 0 ≤ n) ∧ (x ∉ l → n = -1) := by
  obtain ⟨xs, hxs⟩ : ∃ xs, xs = l.map mkS := ⟨_, rfl⟩
  obtain ⟨r, hr⟩ : ∃ r : Int, (x ∉ l ∧ r = -1) ∨ ∃ k : Nat, r = k ∧ l[k]? = some x ∧ ∀ j, j < k → l[j]? ≠ some x := by
    by_cases hm : x ∈ l
    · obtain ⟨k, hk, hmin⟩ := first_ix hm
      exact ⟨k, .inr ⟨k, rfl, hk, hmin⟩⟩
    · exact ⟨-1, .inl ⟨hm, rfl⟩⟩
  refine ⟨r, ?_, ?_, ?_⟩
  · rw [← hxs]
    refine wpF_sound ⟨rfl, by decide⟩ fun O hO V hV => ?_
    have hlen : O .len xs = l.length := by rw [o_len hO, hxs]; simp
    conv => cbv
    refine loop_of (fun n d => ∃ (i : Int) (k : Nat), d = ⟨[(0, .sl 1 false xs), (1, mkS x), (7, .int .i64 (O .len xs)), (8, .int .i64 i)], [], false⟩ ∧ i = k ∧ k ≤ l.length ∧ n = l.length - k ∧ ∀ j, j < k → l[j]? ≠ some x) ⟨_, _, ⟨_, 0, rfl, rfl, by omega, rfl, by simp⟩, ⟨⟨rfl, rfl, rfl, rfl, trivial⟩, trivial, rfl⟩⟩ ?_
    rintro J up n d ⟨i, k, rfl, hi, hk, rfl, hno⟩
    conv => cbv
    rintro (_ | _) h1
    · replace h1 := f_lss hO h1
      rw [hlen] at h1
      rcases hr with ⟨_, rfl⟩ | ⟨j, _, hj, _⟩
      · conv => cbv
        trivial
      · exact absurd hj (hno j (by have := (List.getElem?_eq_some_iff.1 hj).1; omega))
    · replace h1 := t_lss hO h1
      rw [hlen] at h1
      obtain ⟨y, hy⟩ : ∃ y, l[k]? = some y := ⟨_, List.getElem?_eq_getElem (by omega)⟩
      conv => cbv
      refine ⟨mkS y, atX_map hy hxs hi, ?_⟩
      conv => cbv
      rintro (_ | _) h2
      · replace h2 : x ≠ y := f_seql hO h2
        conv => cbv
        refine ⟨_, _, up _ _ ⟨_, k + 1, rfl, ?_, by omega, rfl, ?_⟩, ⟨⟨rfl, rfl, rfl, rfl, trivial⟩, trivial, rfl⟩, by omega⟩
        · rw [o_add64 hO (by omega) (by omega)]; omega
        · intro j hj
          by_cases e : j = k
          · subst e; rw [hy]; simpa using Ne.symm h2
          · exact hno j (by omega)
      · replace h2 : x = y := t_seql hO h2
        conv => cbv
        subst h2
        rcases hr with ⟨hm, _⟩ | ⟨j, rfl, hj, hmin⟩
        · exact absurd (List.mem_of_getElem? hy) hm
        · have : j = k := by
            rcases Nat.lt_trichotomy j k with h | h | h
            · exact absurd hj (hno j h)
            · exact h
            · exact absurd hy (hmin k h)
          rw [hi, this]
  · intro hm
    rcases hr with ⟨h, _⟩ | ⟨k, rfl, _⟩
    · exact absurd hm h
    · omega
  · intro hm
    rcases hr with ⟨_, h⟩ | ⟨k, _, hk, _⟩
    · exact h
    · exact absurd (List.mem_of_getElem? hk) hm
theorem contains55_ok (R : Ans) (l : List Str) (x : Str) (h69 : ∃ n : Int, R.v 69 [.sl 1 false (l.map mkS), mkS x] (.int .i64 n) ∧ (x ∈ l → 0 ≤ n) ∧ (x ∉ l → n = -1)) : AnsF R c55 [.sl 1 false (l.map mkS), mkS x] (.bool (decide (x ∈ l))) := by
  obtain ⟨n, hn, h1, h2⟩ := h69
  have hc : CleanL (l.map mkS) := cleanL_map clean_S rfl
  obtain ⟨xs, hxs⟩ : ∃ xs, xs = l.map mkS := ⟨_, rfl⟩
  obtain ⟨r, hr⟩ : ∃ r, r = decide (x ∈ l) := ⟨_, rfl⟩
  rw [← hxs] at hn hc ⊢
  rw [← hr]
  refine wpF_sound ⟨rfl, by decide⟩ fun O hO V hV => ?_
  subst hV
  conv => cbv
  refine ⟨hc, _, hn, ?_⟩
  conv => cbv
  rintro (_ | _) h3
  · replace h3 := f_geq hO h3
    conv => cbv
    by_cases hm : x ∈ l
    · have := h1 hm; omega
    · rw [hr]; simp [hm]
  · replace h3 := t_geq hO h3
    conv => cbv
    by_cases hm : x ∈ l
    · rw [hr]; simp [hm]
    · have := h2 hm; omega
end Go.Proofs.AM
namespace Go.Proofs.AM
open Go Go.Lib Cd
theorem ne_at {l l' : List Str} {k : Nat} {x y : Str} (h1 : l[k]? = some x) (h2 : l'[k]? = some y) (h : x ≠ y) : l ≠ l' := fun e => by
  subst e; rw [h1] at h2; simp only [Option.some.injEq] at h2; exact h h2
theorem equal46_ok (R : Ans) (l l' : List Str) (hl : FL l) (hl' : FL l') : AnsF R c46 [.sl 1 false (l.map mkS), .sl 1 false (l'.map mkS)] (.bool (decide (l = l'))) := by
  obtain ⟨xs, hxs⟩ : ∃ xs, xs = l.map mkS := ⟨_, rfl⟩
  obtain ⟨ys, hys⟩ : ∃ ys, ys = l'.map mkS := ⟨_, rfl⟩
  obtain ⟨r, hr⟩ : ∃ r, r = decide (l = l') := ⟨_, rfl⟩
  rw [← hxs, ← hys, ← hr]
  have hl1 := hl.len
  refine wpF_sound ⟨rfl, by decide⟩ fun O hO V hV => ?_
  have hlx : O .len xs = l.length := by rw [o_len hO, hxs]; simp
  have hly : O .len ys = l'.length := by rw [o_len hO, hys]; simp
  conv => cbv
  rintro (_ | _) h1
  · replace h1 := f_neq hO h1
    rw [hlx, hly] at h1
    conv => cbv
    refine loop_of (fun n d => ∃ (i : Int) (k : Nat), d = ⟨[(0, .sl 1 false xs), (1, .sl 1 false ys), (12, .int .i64 (O .len xs)), (13, .int .i64 i)], [], false⟩ ∧ i = k ∧ k ≤ l.length ∧ n = l.length - k ∧ ∀ j, j < k → l[j]? = l'[j]?) ⟨_, _, ⟨_, 0, rfl, rfl, by omega, rfl, by simp⟩, ⟨⟨rfl, rfl, rfl, rfl, trivial⟩, trivial, rfl⟩⟩ ?_
    rintro J up n d ⟨i, k, rfl, hi, hk, rfl, hno⟩
    conv => cbv
    rintro (_ | _) h2
    · replace h2 := f_lss hO h2
      rw [hlx] at h2
      conv => cbv
      have : l = l' := by
        apply List.ext_getElem?
        intro j
        by_cases hj : j < k
        · exact hno j hj
        · rw [List.getElem?_eq_none (by omega), List.getElem?_eq_none (by omega)]
      rw [hr]
      simp [this]
    · replace h2 := t_lss hO h2
      rw [hlx] at h2
      obtain ⟨x, hx⟩ : ∃ x, l[k]? = some x := ⟨_, List.getElem?_eq_getElem (by omega)⟩
      obtain ⟨y, hy⟩ : ∃ y, l'[k]? = some y := ⟨_, List.getElem?_eq_getElem (by omega)⟩
      conv => cbv
      refine ⟨mkS x, atX_map hx hxs hi, ?_⟩
      conv => cbv
      refine ⟨mkS y, atX_map hy hys hi, ?_⟩
      conv => cbv
      rintro (_ | _) h3
      · replace h3 : x = y := f_sneq hO h3
        conv => cbv
        refine ⟨_, _, up _ _ ⟨_, k + 1, rfl, ?_, by omega, rfl, ?_⟩, ⟨⟨rfl, rfl, rfl, rfl, trivial⟩, trivial, rfl⟩, by omega⟩
        · rw [o_add64 hO (by omega) (by omega)]; omega
        · intro j hj
          by_cases e : j = k
          · subst e; rw [hx, hy, h3]
          · exact hno j (by omega)
      · replace h3 : x ≠ y := t_sneq hO h3
        conv => cbv
        rw [hr]
        simp [ne_at hx hy h3]
  · replace h1 := t_neq hO h1
    rw [hlx, hly] at h1
    conv => cbv
    rw [hr]
    have : l ≠ l' := fun e => by subst e; exact h1 rfl
    simp [this]
theorem same41_ok (R : Ans) (a b : SetV) (ha : FS a) (hb : FS b) : AnsF R c41 [setD a, setD b] (.bool (decide (a = b))) := by
  obtain ⟨r, hr⟩ : ∃ r, r = decide (a = b) := ⟨_, rfl⟩
  rw [← hr]
  have hrf : ¬ (a.m = b.m ∧ a.n = b.n ∧ a.u = b.u ∧ a.lo = b.lo ∧ a.hi = b.hi ∧ a.l = b.l) → r = false := fun h => by rw [hr]; simpa [SetV.eq_iff] using h
  have hrt : (a.m = b.m ∧ a.n = b.n ∧ a.u = b.u ∧ a.lo = b.lo ∧ a.hi = b.hi ∧ a.l = b.l) → r = true := fun h => by rw [hr]; simpa [SetV.eq_iff] using h
  have hl1 := ha.l.len
  obtain ⟨m, n, u, l, lo, hi⟩ := a
  obtain ⟨m', n', u', l', lo', hi'⟩ := b
  simp only at hrf hrt hl1
  clear hr ha hb
  unfold setD
  simp only
  obtain ⟨xs, hxs⟩ : ∃ xs, xs = l.map mkS := ⟨_, rfl⟩
  obtain ⟨ys, hys⟩ : ∃ ys, ys = l'.map mkS := ⟨_, rfl⟩
  rw [← hxs, ← hys]
  refine wpF_sound ⟨rfl, by decide⟩ fun O hO V hV => ?_
  have hlx : O .len xs = l.length := by rw [o_len hO, hxs]; simp
  have hly : O .len ys = l'.length := by rw [o_len hO, hys]; simp
  conv => cbv
  rintro (_ | _) h1
  · replace h1 := b_ne hO h1
    conv => cbv
    rintro (_ | _) h2
    · replace h2 := b_ne hO h2
      conv => cbv
      rintro (_ | _) h3
      · replace h3 := b_ne hO h3
        conv => cbv
        rintro (_ | _) h4
        · replace h4 := f_neq hO h4
          conv => cbv
          rintro (_ | _) h5
          · replace h5 := f_neq hO h5
            conv => cbv
            rintro (_ | _) h6
            · replace h6 := f_neq hO h6
              rw [hlx, hly] at h6
              conv => cbv
              refine loop_of (fun c d => ∃ (i : Int) (k : Nat), d = ⟨[(2, .ptr 2 1 0), (3, .ptr 3 1 0), (5, .int .i64 i)], [(2, ⟨1, .rw, .var, [.bool m, .bool n, .bool u, .sl 1 false xs, .int .i64 lo, .int .i64 hi]⟩), (3, ⟨1, .rw, .var, [.bool m', .bool n', .bool u', .sl 1 false ys, .int .i64 lo', .int .i64 hi']⟩)], false⟩ ∧ i = k ∧ k ≤ l.length ∧ c = l.length - k ∧ ∀ j, j < k → l[j]? = l'[j]?) ⟨_, _, ⟨_, 0, rfl, rfl, by omega, rfl, by simp⟩, ⟨⟨rfl, rfl, rfl, trivial⟩, ⟨rfl, rfl, trivial⟩, rfl⟩⟩ ?_
              rintro J up c d ⟨i, k, rfl, hi, hk, rfl, hno⟩
              conv => cbv
              rintro (_ | _) h7
              · replace h7 := f_lss hO h7
                rw [hlx] at h7
                conv => cbv
                have : l = l' := by
                  apply List.ext_getElem?
                  intro j
                  by_cases hj : j < k
                  · exact hno j hj
                  · rw [List.getElem?_eq_none (by omega), List.getElem?_eq_none (by omega)]
                rw [hrt ⟨by simpa using h1, by simpa using h2, by simpa using h3, h4, h5, this⟩]
              · replace h7 := t_lss hO h7
                rw [hlx] at h7
                obtain ⟨x, hx⟩ : ∃ x, l[k]? = some x := ⟨_, List.getElem?_eq_getElem (by omega)⟩
                obtain ⟨y, hy⟩ : ∃ y, l'[k]? = some y := ⟨_, List.getElem?_eq_getElem (by omega)⟩
                conv => cbv
                refine ⟨mkS x, atX_map hx hxs hi, ?_⟩
                conv => cbv
                refine ⟨mkS y, atX_map hy hys hi, ?_⟩
                conv => cbv
                rintro (_ | _) h8
                · replace h8 : x = y := f_sneq hO h8
                  conv => cbv
                  refine ⟨_, _, up _ _ ⟨_, k + 1, rfl, ?_, by omega, rfl, ?_⟩, ⟨⟨rfl, rfl, rfl, trivial⟩, ⟨rfl, rfl, trivial⟩, rfl⟩, by omega⟩
                  · rw [o_add64 hO (by omega) (by omega)]; omega
                  · intro j hj
                    by_cases e : j = k
                    · subst e; rw [hx, hy, h8]
                    · exact hno j (by omega)
                · replace h8 : x ≠ y := t_sneq hO h8
                  conv => cbv
                  rw [hrf (fun h => ne_at hx hy h8 h.2.2.2.2.2)]
            · replace h6 := t_neq hO h6
              rw [hlx, hly] at h6
              conv => cbv
              rw [hrf (fun h => h6 (by rw [h.2.2.2.2.2]))]
          · replace h5 := t_neq hO h5
            conv => cbv
            rw [hrf (fun h => h5 h.2.2.2.2.1)]
        · replace h4 := t_neq hO h4
          conv => cbv
          rw [hrf (fun h => h4 h.2.2.2.1)]
      · replace h3 := b_ne hO h3
        conv => cbv
        rw [hrf (fun h => by rw [h.2.2.1] at h3; simp at h3)]
    · replace h2 := b_ne hO h2
      conv => cbv
      rw [hrf (fun h => by rw [h.2.1] at h2; simp at h2)]
  · replace h1 := b_ne hO h1
    conv => cbv
    rw [hrf (fun h => by rw [h.1] at h1; simp at h1)]
theorem same30_ok (R : Ans) (a b : SetV) (h46 : R.v 46 [.sl 1 false (a.l.map mkS), .sl 1 false (b.l.map mkS)] (.bool (decide (a.l = b.l)))) : AnsF R c30 [setD a, setD b] (.bool (decide (a = b))) := by
  obtain ⟨r, hr⟩ : ∃ r, r = decide (a = b) := ⟨_, rfl⟩
  rw [← hr]
  have hrf : ¬ (a.m = b.m ∧ a.n = b.n ∧ a.u = b.u ∧ a.lo = b.lo ∧ a.hi = b.hi ∧ a.l = b.l) → r = false := fun h => by rw [hr]; simpa [SetV.eq_iff] using h
  have hrt : (a.m = b.m ∧ a.n = b.n ∧ a.u = b.u ∧ a.lo = b.lo ∧ a.hi = b.hi ∧ a.l = b.l) → r = true := fun h => by rw [hr]; simpa [SetV.eq_iff] using h
  obtain ⟨m, n, u, l, lo, hi⟩ := a
  obtain ⟨m', n', u', l', lo', hi'⟩ := b
  simp only at hrf hrt h46
  clear hr
  unfold setD
  simp only
  have hcx : CleanL (l.map mkS) := cleanL_map clean_S rfl
  have hcy : CleanL (l'.map mkS) := cleanL_map clean_S rfl
  obtain ⟨xs, hxs⟩ : ∃ xs, xs = l.map mkS := ⟨_, rfl⟩
  obtain ⟨ys, hys⟩ : ∃ ys, ys = l'.map mkS := ⟨_, rfl⟩
  rw [← hxs, ← hys] at h46
  rw [← hxs] at hcx
  rw [← hys] at hcy
  rw [← hxs, ← hys]
  obtain ⟨q, hq⟩ : ∃ q, q = decide (l = l') := ⟨_, rfl⟩
  rw [← hq] at h46
  refine wpF_sound ⟨rfl, by decide⟩ fun O hO V hV => ?_
  subst hV
  conv => cbv
  rintro (_ | _) h1
  · replace h1 := b_eq hO h1
    conv => cbv
    rw [hrf (fun h => by rw [h.1] at h1; simp at h1)]
  replace h1 := b_eq hO h1
  conv => cbv
  rintro (_ | _) h2
  · replace h2 := b_eq hO h2
    conv => cbv
    rw [hrf (fun h => by rw [h.2.1] at h2; simp at h2)]
  replace h2 := b_eq hO h2
  conv => cbv
  rintro (_ | _) h3
  · replace h3 := b_eq hO h3
    conv => cbv
    rw [hrf (fun h => by rw [h.2.2.1] at h3; simp at h3)]
  replace h3 := b_eq hO h3
  conv => cbv
  rintro (_ | _) h4
  · replace h4 := f_eql hO h4
    conv => cbv
    rw [hrf (fun h => h4 h.2.2.2.1)]
  replace h4 := t_eql hO h4
  conv => cbv
  rintro (_ | _) h5
  · replace h5 := f_eql hO h5
    conv => cbv
    rw [hrf (fun h => h5 h.2.2.2.2.1)]
  replace h5 := t_eql hO h5
  conv => cbv
  refine ⟨hcx, hcy, _, h46, ?_⟩
  conv => cbv
  by_cases e : l = l'
  · rw [hrt ⟨by simpa using h1, by simpa using h2, by simpa using h3, h4, h5, e⟩, hq]
    simp [e]
  · rw [hrf (fun h => e h.2.2.2.2.2), hq]
    simp [e]
theorem same21_ok (R : Ans) (a b : SetV) (h41 : R.v 41 [setD a, setD b] (.bool (decide (a = b)))) : AnsF R c21 [setD a, setD b] (.bool (decide (a = b))) := by
  obtain ⟨r, hr⟩ : ∃ r, r = decide (a = b) := ⟨_, rfl⟩
  rw [← hr] at h41 ⊢
  obtain ⟨m, n, u, l, lo, hi⟩ := a
  obtain ⟨m', n', u', l', lo', hi'⟩ := b
  clear hr
  unfold setD at h41 ⊢
  simp only at h41 ⊢
  have hcx : CleanL (l.map mkS) := cleanL_map clean_S rfl
  have hcy : CleanL (l'.map mkS) := cleanL_map clean_S rfl
  obtain ⟨xs, hxs⟩ : ∃ xs, xs = l.map mkS := ⟨_, rfl⟩
  obtain ⟨ys, hys⟩ : ∃ ys, ys = l'.map mkS := ⟨_, rfl⟩
  rw [← hxs] at hcx
  rw [← hys] at hcy
  rw [← hxs, ← hys] at h41 ⊢
  refine wpF_sound ⟨rfl, by decide⟩ fun O hO V hV => ?_
  subst hV
  conv => cbv
  refine ⟨hcx, hcy, _, h41, ?_⟩
  conv => cbv
  trivial
end Go.Proofs.AM
namespace Go.Proofs.AM
open Go Go.Lib Cd
set_option maxHeartbeats 4000000 in
theorem put54_ok (R : Ans) (l : List Str) (hl : l.length < 8796093022208) (x : Str) : AnsF R c54 [.sl 1 false (l.map mkS), mkS x] (.sl 1 false ((putS x l).map mkS)) := by
  obtain ⟨xs, hxs⟩ : ∃ xs, xs = l.map mkS := ⟨_, rfl⟩
  have hcx : CleanL xs := cleanL_map clean_S hxs
  obtain ⟨rs, hrs⟩ : ∃ rs, rs = (putS x l).map mkS := ⟨_, rfl⟩
  have hcr : CleanL rs := cleanL_map clean_S hrs
  rw [← hxs, ← hrs]
  refine wpF_sound ⟨rfl, by decide⟩ fun O hO V hV => ?_
  have hlen : O .len xs = l.length := by rw [o_len hO, hxs]; simp
  conv => cbv
  refine loop_of (fun n d => ∃ (i : Int) (k : Nat), d = ⟨[(0, .sl 1 false xs), (1, mkS x), (5, .int .i64 i)], [], false⟩ ∧ i = k ∧ k ≤ l.length ∧ n = l.length - k ∧ ∀ j y, j < k → l[j]? = some y → y < x) ⟨_, _, ⟨_, 0, rfl, rfl, by omega, rfl, by simp⟩, ⟨⟨rfl, rfl, rfl, trivial⟩, trivial, rfl⟩⟩ ?_
  rintro J up n d ⟨i, k, rfl, hi, hk, rfl, hno⟩
  have lay : (∀ y, l[k]? = some y → ¬ y < x) → l[k]? ≠ some x → rs = O .app (O .app (O .subL xs 0 i) [mkS x]) (O .subL xs i (O .len xs)) ∧ CleanL (O .subL xs 0 i) ∧ CleanL (O .subL xs i (O .len xs)) ∧ O .len (O .subL xs 0 i) = k ∧ O .len [mkS x] = 1 ∧ O .len (O .app (O .subL xs 0 i) [mkS x]) = k + 1 ∧ O .len (O .subL xs i (O .len xs)) = l.length - k := by
    intro h1 h2
    obtain ⟨_, hp⟩ := putS_at x l k hk hno h1
    have e1 : O .subL xs 0 i = (l.take k).map mkS := by rw [o_subL hO, hxs, hi, ← List.map_take]; simp
    have e2 : O .subL xs i (O .len xs) = (l.drop k).map mkS := by rw [o_subL hO, hlen, hxs, hi, List.take_of_length_le (by simp)]; simp
    refine ⟨?_, cleanL_map clean_S e1, cleanL_map clean_S e2, ?_, ?_, ?_, ?_⟩
    · rw [hrs, hp h2, e1, e2, o_app hO, o_app hO]; simp
    · rw [o_len hO, e1]; simp; omega
    · rw [o_len hO]; rfl
    · rw [o_len hO, o_app hO, e1]; simp; omega
    · rw [o_len hO, e2]; simp; omega
  have h1x : CleanL [mkS x] := ⟨rfl, rfl⟩
  conv => cbv
  rintro (_ | _) h1
  · replace h1 := f_lss hO h1
    rw [hlen] at h1
    conv => cbv
    have hn : l[k]? = none := List.getElem?_eq_none (by omega)
    obtain ⟨hr, hc1, hc2, g1, g2, g3, g4⟩ := lay (by rw [hn]; simp) (by rw [hn]; simp)
    obtain ⟨ys, hys⟩ : ∃ ys, ys = O .subL xs 0 i := ⟨_, rfl⟩
    obtain ⟨zs, hzs⟩ : ∃ zs, zs = O .subL xs i (O .len xs) := ⟨_, rfl⟩
    obtain ⟨ws, hws⟩ : ∃ ws, ws = O .app ys [mkS x] := ⟨_, rfl⟩
    rw [← hys, ← hzs, ← hws] at hr
    rw [← hys] at hc1 g1
    rw [← hzs] at hc2 g4
    rw [← hys, ← hws] at g3
    rintro (_ | _) h2
    · conv => cbv
      refine ⟨⟨by omega⟩, ⟨by omega⟩, ⟨by omega⟩, ?_⟩
      rw [← hys]
      conv => cbv
      refine ⟨hc1.x, ⟨by rw [g1]; omega⟩, fun g => ?_⟩
      conv => cbv
      intro g'
      conv => cbv
      refine ⟨h1x.x, ⟨by rw [g1]; show ((k : Int) + O .len [mkS x]) * _ ≤ _; rw [g2]; omega⟩, ?_⟩
      conv => cbv
      refine ⟨⟨by omega⟩, ⟨by omega⟩, ⟨by omega⟩, ?_⟩
      rw [← hzs]
      conv => cbv
      refine ⟨hc2.x, ⟨?_⟩, ?_⟩
      · show (O .len (O .app ys [mkS x]) + O .len zs) * _ ≤ _
        rw [← hws, g3, g4]; omega
      · conv => cbv
        have : O .app (O .app ys [D.str ⟨⟨x⟩⟩]) zs = rs := by rw [hr, hws]; rfl
        rw [this]
        refine ⟨hcr, ?_⟩
        conv => cbv
        trivial
    · replace h2 := t_lss hO h2
      rw [hlen] at h2
      exfalso
      omega
  · replace h1 := t_lss hO h1
    rw [hlen] at h1
    obtain ⟨y, hy⟩ : ∃ y, l[k]? = some y := ⟨_, List.getElem?_eq_getElem (by omega)⟩
    conv => cbv
    refine ⟨mkS y, atX_map hy hxs hi, ?_⟩
    conv => cbv
    rintro (_ | _) h2
    · replace h2 : ¬ y < x := f_slss hO h2
      have hk1 : ∀ z, l[k]? = some z → ¬ z < x := fun z hz => by rw [hy] at hz; simp only [Option.some.injEq] at hz; subst hz; exact h2
      conv => cbv
      rintro (_ | _) h3
      · replace h3 := f_lss hO h3
        rw [hlen] at h3
        exfalso
        omega
      · conv => cbv
        refine ⟨mkS y, atX_map hy hxs hi, ?_⟩
        conv => cbv
        rintro (_ | _) h4
        · replace h4 : y ≠ x := f_seql hO h4
          conv => cbv
          obtain ⟨hr, hc1, hc2, g1, g2, g3, g4⟩ := lay hk1 (by rw [hy]; simpa using h4)
          obtain ⟨ys, hys⟩ : ∃ ys, ys = O .subL xs 0 i := ⟨_, rfl⟩
          obtain ⟨zs, hzs⟩ : ∃ zs, zs = O .subL xs i (O .len xs) := ⟨_, rfl⟩
          obtain ⟨ws, hws⟩ : ∃ ws, ws = O .app ys [mkS x] := ⟨_, rfl⟩
          rw [← hys, ← hzs, ← hws] at hr
          rw [← hys] at hc1 g1
          rw [← hzs] at hc2 g4
          rw [← hys, ← hws] at g3
          refine ⟨⟨by omega⟩, ⟨by omega⟩, ⟨by omega⟩, ?_⟩
          rw [← hys]
          conv => cbv
          refine ⟨hc1.x, ⟨by rw [g1]; omega⟩, fun g => ?_⟩
          conv => cbv
          intro g'
          conv => cbv
          refine ⟨h1x.x, ⟨by rw [g1]; show ((k : Int) + O .len [mkS x]) * _ ≤ _; rw [g2]; omega⟩, ?_⟩
          conv => cbv
          refine ⟨⟨by omega⟩, ⟨by omega⟩, ⟨by omega⟩, ?_⟩
          rw [← hzs]
          conv => cbv
          refine ⟨hc2.x, ⟨?_⟩, ?_⟩
          · show (O .len (O .app ys [mkS x]) + O .len zs) * _ ≤ _
            rw [← hws, g3, g4]; omega
          · conv => cbv
            have : O .app (O .app ys [D.str ⟨⟨x⟩⟩]) zs = rs := by rw [hr, hws]; rfl
            rw [this]
            refine ⟨hcr, ?_⟩
            conv => cbv
            trivial
        · replace h4 : y = x := t_seql hO h4
          have hp := (putS_at x l k hk hno hk1).1 (by rw [hy, h4])
          rw [hp, ← hxs] at hrs
          conv => cbv
          rw [hrs]
          refine ⟨hcx, ?_⟩
          conv => cbv
          trivial
    · replace h2 : y < x := t_slss hO h2
      conv => cbv
      refine ⟨_, _, up _ _ ⟨_, k + 1, rfl, ?_, by omega, rfl, ?_⟩, ⟨⟨rfl, rfl, rfl, trivial⟩, trivial, rfl⟩, by omega⟩
      · rw [o_add64 hO (by omega) (by omega)]; omega
      · intro j z hj hz
        by_cases e : j = k
        · subst e; rw [hy] at hz; simp only [Option.some.injEq] at hz; subst hz; exact h2
        · exact hno j z (by omega) hz
end Go.Proofs.AM
namespace Go.Proofs.AM
open Go Go.Lib Cd
theorem foldl_take {l : List Str} {k : Nat} {y : Str} (h : l[k]? = some y) (f : List Str → Str → List Str) (a : List Str) : (l.take (k + 1)).foldl f a = f ((l.take k).foldl f a) y := by
  rw [List.take_add_one, h, List.foldl_append]
  rfl
set_option maxHeartbeats 1000000 in
theorem rising39_ok (R : Ans) (h54 : ∀ (l : List Str) (x : Str), l.length < 8796093022208 → R.v 54 [.sl 1 false (l.map mkS), mkS x] (.sl 1 false ((putS x l).map mkS))) (l : List Str) (hl : l.length ≤ 8796093022208) : AnsF R c39 [.sl 1 false (l.map mkS)] (.sl 1 false ((risingS l).map mkS)) := by
  obtain ⟨xs, hxs⟩ : ∃ xs, xs = l.map mkS := ⟨_, rfl⟩
  have hcx : CleanL xs := cleanL_map clean_S hxs
  obtain ⟨rs, hrs⟩ : ∃ rs, rs = (risingS l).map mkS := ⟨_, rfl⟩
  rw [← hxs, ← hrs]
  refine wpF_sound ⟨rfl, by decide⟩ fun O hO V hV => ?_
  subst hV
  have hlen : O .len xs = l.length := by rw [o_len hO, hxs]; simp
  conv => cbv
  refine loop_of (fun n d => ∃ (i : Int) (k : Nat) (nl : Bool) (ac : List D), d = ⟨[(0, .sl 1 false xs), (3, .sl 1 nl ac), (4, .int .i64 i)], [], false⟩ ∧ i = k ∧ k ≤ l.length ∧ n = l.length - k ∧ ac = ((l.take k).foldl (fun a x => putS x a) []).map mkS) ⟨_, _, ⟨_, 0, _, _, rfl, rfl, by omega, rfl, by simp⟩, ⟨⟨rfl, rfl, rfl, trivial⟩, trivial, rfl⟩⟩ ?_
  rintro J up n d ⟨i, k, nl, ac, rfl, hi, hk, rfl, has⟩
  have hca : CleanL ac := cleanL_map clean_S has
  have hla : ((l.take k).foldl (fun a x => putS x a) []).length ≤ k := by
    have := (rising_aux (l.take k) [] (by simp [Rises])).2.2
    simp at this
    omega
  conv => cbv
  rintro (_ | _) h1
  · replace h1 := f_lss hO h1
    rw [hlen] at h1
    have : ac = rs := by rw [has, hrs, List.take_of_length_le (by omega)]; rfl
    conv => cbv
    rw [this] at hca ⊢
    exact ⟨hca, rfl⟩
  · replace h1 := t_lss hO h1
    rw [hlen] at h1
    conv => cbv
    obtain ⟨y, hy⟩ : ∃ y, l[k]? = some y := ⟨_, List.getElem?_eq_getElem (by omega)⟩
    have hc := h54 ((l.take k).foldl (fun a x => putS x a) []) y (by omega)
    rw [← has] at hc
    obtain ⟨bs, hbs⟩ : ∃ bs, bs = (putS y ((l.take k).foldl (fun a x => putS x a) [])).map mkS := ⟨_, rfl⟩
    rw [← hbs] at hc
    refine ⟨mkS y, atX_map hy hxs hi, ?_⟩
    conv => cbv
    refine ⟨hca, _, hc, ?_⟩
    conv => cbv
    refine ⟨_, _, up _ _ ⟨_, k + 1, false, bs, rfl, ?_, by omega, rfl, ?_⟩, ⟨⟨rfl, rfl, rfl, trivial⟩, trivial, rfl⟩, by omega⟩
    · rw [o_add64 hO (by omega) (by omega)]; omega
    · rw [hbs, foldl_take hy]
set_option maxHeartbeats 1000000 in
theorem ordered42_ok (R : Ans) (h17 : ∀ s, SL s → R.v 17 [mkS s] (.bool (valueB s))) (l : List Str) (hl : FL l) : AnsF R c42 [.sl 1 false (l.map mkS)] (.bool (ordB l)) := by
  obtain ⟨xs, hxs⟩ : ∃ xs, xs = l.map mkS := ⟨_, rfl⟩
  obtain ⟨r, hr⟩ : ∃ r, r = ordB l := ⟨_, rfl⟩
  have hl1 := hl.len
  rw [← hxs, ← hr]
  refine wpF_sound ⟨rfl, by decide⟩ fun O hO V hV => ?_
  subst hV
  have hlen : O .len xs = l.length := by rw [o_len hO, hxs]; simp
  conv => cbv
  rintro (_ | _) h1
  · replace h1 := f_gtr hO h1
    rw [hlen] at h1
    conv => cbv
    refine loop_of (fun n d => ∃ (i : Int) (k : Nat), d = ⟨[(0, .sl 1 false xs), (3, .int .i64 i)], [], false⟩ ∧ i = k ∧ k ≤ l.length ∧ n = l.length - k ∧ (∀ j x, j < k → l[j]? = some x → valueB x = true) ∧ ∀ (j : Nat) x y, j + 1 < k → l[j]? = some x → l[j + 1]? = some y → x < y) ⟨_, _, ⟨_, 0, rfl, rfl, by omega, rfl, by simp, by simp⟩, ⟨⟨rfl, rfl, trivial⟩, trivial, rfl⟩⟩ ?_
    rintro J up n d ⟨i, k, rfl, hi, hk, rfl, hno, hadj⟩
    conv => cbv
    rintro (_ | _) h2
    · replace h2 := f_lss hO h2
      rw [hlen] at h2
      conv => cbv
      rw [hr, ordB_true ⟨by omega, fun j x hx => hno j x (by have := (List.getElem?_eq_some_iff.1 hx).1; omega) hx, fun j x y hx hy => hadj j x y (by have := (List.getElem?_eq_some_iff.1 hy).1; omega) hx hy⟩]
    · replace h2 := t_lss hO h2
      rw [hlen] at h2
      conv => cbv
      obtain ⟨y, hy⟩ : ∃ y, l[k]? = some y := ⟨_, List.getElem?_eq_getElem (by omega)⟩
      have hv := h17 y (hl.all y (List.mem_of_getElem? hy))
      obtain ⟨q, hq⟩ : ∃ q, q = valueB y := ⟨_, rfl⟩
      rw [← hq] at hv
      refine ⟨mkS y, atX_map hy hxs hi, ?_⟩
      conv => cbv
      refine ⟨_, hv, ?_⟩
      cases q
      · conv => cbv
        rw [hr, ordB_false fun h => by rw [h.2.1 k y hy] at hq; simp at hq]
      · conv => cbv
        rintro (_ | _) h3
        · replace h3 := f_gtr hO h3
          conv => cbv
          refine ⟨_, _, up _ _ ⟨_, k + 1, rfl, ?_, by omega, rfl, ?_, ?_⟩, ⟨⟨rfl, rfl, trivial⟩, trivial, rfl⟩, by omega⟩
          · rw [o_add64 hO (by omega) (by omega)]; omega
          · intro j x hj hx
            by_cases e : j = k
            · subst e; rw [hy] at hx; simp only [Option.some.injEq] at hx; subst hx; exact hq.symm
            · exact hno j x (by omega) hx
          · intro j x z hj; omega
        · replace h3 := t_gtr hO h3
          conv => cbv
          obtain ⟨w, hw⟩ : ∃ w, l[k - 1]? = some w := ⟨_, List.getElem?_eq_getElem (by omega)⟩
          have hsub : O .iop .sub .i64 i 1 = ((k - 1 : Nat) : Int) := by rw [o_sub64 hO (by omega) (by omega)]; omega
          refine ⟨mkS w, atX_map hw hxs hsub, ?_⟩
          conv => cbv
          refine ⟨mkS y, atX_map hy hxs hi, ?_⟩
          conv => cbv
          rintro (_ | _) h4
          · replace h4 : w < y := f_sgeq hO h4
            conv => cbv
            refine ⟨_, _, up _ _ ⟨_, k + 1, rfl, ?_, by omega, rfl, ?_, ?_⟩, ⟨⟨rfl, rfl, trivial⟩, trivial, rfl⟩, by omega⟩
            · rw [o_add64 hO (by omega) (by omega)]; omega
            · intro j x hj hx
              by_cases e : j = k
              · subst e; rw [hy] at hx; simp only [Option.some.injEq] at hx; subst hx; exact hq.symm
              · exact hno j x (by omega) hx
            · intro j x z hj hx hz
              by_cases e : j + 1 = k
              · have e2 : j = k - 1 := by omega
                subst e2
                rw [e] at hz
                rw [hw] at hx
                rw [hy] at hz
                simp only [Option.some.injEq] at hx hz
                subst hx hz
                exact h4
              · exact hadj j x z (by omega) hx hz
          · replace h4 : ¬ w < y := t_sgeq hO h4
            conv => cbv
            rw [hr, ordB_false fun h => h4 (h.2.2 (k - 1) w y hw (by rw [show k - 1 + 1 = k by omega]; exact hy))]
  · replace h1 := t_gtr hO h1
    rw [hlen] at h1
    conv => cbv
    rw [hr, ordB_false fun h => by have := h.1; omega]
end Go.Proofs.AM
namespace Go.Proofs.AM
open Go Go.Lib Cd
theorem span_eq {O : Ops} (hO : O = Ops.std) {xs : List D} {n : Nat} (hlen : O .len xs = n) (hn : n ≤ 8796093022208) {lo hi : Int} (h1 : least ≤ lo) (h2 : hi ≤ most) (h3 : lo ≤ hi) : O .iop .sub .i64 (O .iop .add .i64 (O .iop .sub .i64 hi lo) 1) (O .len xs) = hi - lo + 1 - n := by
  unfold least at h1
  unfold most at h2
  have e1 : O .iop .sub .i64 hi lo = hi - lo := o_sub64 hO (by omega) (by omega)
  rw [e1, o_add64 hO (by omega) (by omega), hlen, o_sub64 hO (by omega) (by omega)]
set_option maxRecDepth 100000 in
set_option maxHeartbeats 2000000 in
theorem check22_ok (R : Ans) (s : SetV) (hs : FS s) (h42 : R.v 42 [.sl 1 false (s.l.map mkS)] (.bool (ordB s.l))) (h15 : ∀ s, SL s → ∀ v b, NumR s v b → R.v 15 [mkS s] (.tup [.int .i64 v, .bool b])) : AnsF R c22 [setD s] (.int .i64 (checkE s)) := by
  obtain ⟨r, hr⟩ : ∃ r, r = checkE s := ⟨_, rfl⟩
  rw [← hr]
  have hr0 : CheckP s → r = 0 := fun h => by rw [hr, checkE_0 h]
  have hr1 : ¬ CheckP s → r = 1 := fun h => by rw [hr, checkE_1 h]
  clear hr
  have hall := hs.l.all
  have hl1 := hs.l.len
  have hlo := hs.lo
  have hhi := hs.hi
  clear hs
  obtain ⟨m, n, u, l, lo, hi⟩ := s
  simp only at h42 hall hl1 hlo hhi
  unfold FI at hlo hhi
  unfold setD
  simp only
  obtain ⟨xs, hxs⟩ : ∃ xs, xs = l.map mkS := ⟨_, rfl⟩
  have hcx : CleanL xs := cleanL_map clean_S hxs
  obtain ⟨q, hq⟩ : ∃ q, q = ordB l := ⟨_, rfl⟩
  rw [← hxs, ← hq] at h42
  rw [← hxs]
  refine wpF_sound ⟨rfl, by decide⟩ fun O hO V hV => ?_
  subst hV
  have hlen : O .len xs = l.length := by rw [o_len hO, hxs]; simp
  conv => cbv
  refine ⟨hcx, _, h42, ?_⟩
  cases q with
  | false =>
    conv => cbv
    rw [hr1 fun h => by rw [ordB_true h.ord] at hq; simp at hq]
  | true =>
    have hord : OrdP l := ordB_iff.1 hq.symm
    cases u with
    | false =>
      conv => cbv
      rintro (_ | _) h1
      · replace h1 := f_neq hO h1
        conv => cbv
        rintro (_ | _) h2
        · replace h2 := f_neq hO h2
          conv => cbv
          rw [hr0 ⟨hord, by simp, fun _ => ⟨h1, h2⟩, by simp⟩]
        · replace h2 := t_neq hO h2
          conv => cbv
          rw [hr1 fun h => h2 (h.nu rfl).2]
      · replace h1 := t_neq hO h1
        conv => cbv
        rw [hr1 fun h => h1 (h.nu rfl).1]
    | true =>
      cases n with
      | false =>
        conv => cbv
        rw [hr1 fun h => by have := h.un rfl; simp at this]
      | true =>
        conv => cbv
        rintro (_ | _) h1
        · replace h1 := f_lss hO h1
          conv => cbv
          rintro (_ | _) h2
          · replace h2 := f_gtr hO h2
            conv => cbv
            rintro (_ | _) h3
            · replace h3 := f_gtr hO h3
              conv => cbv
              rintro (_ | _) h4
              · replace h4 := f_leq hO h4
                rw [span_eq hO hlen hl1 h1 h2 h3] at h4
                conv => cbv
                refine loop_of (fun c d => ∃ (i : Int) (k : Nat), d = ⟨[(1, .ptr 1 1 0), (4, .int .i64 i)], [(1, ⟨1, .rw, .var, [.bool m, .bool true, .bool true, .sl 1 false xs, .int .i64 lo, .int .i64 hi]⟩)], false⟩ ∧ i = k ∧ k ≤ l.length ∧ c = l.length - k ∧ ∀ j x, j < k → l[j]? = some x → ∃ n, numS x = some n ∧ lo < n ∧ n < hi) ⟨_, _, ⟨_, 0, rfl, rfl, by omega, rfl, by simp⟩, ⟨⟨rfl, rfl, trivial⟩, ⟨rfl, trivial⟩, rfl⟩⟩ ?_
                rintro J up c d ⟨i, k, rfl, hi', hk, rfl, hno⟩
                conv => cbv
                rintro (_ | _) h5
                · replace h5 := f_lss hO h5
                  rw [hlen] at h5
                  conv => cbv
                  rw [hr0 ⟨hord, fun _ => rfl, by simp, fun _ => ⟨h1, h2, h3, h4, fun j x hx => hno j x (by have : j < l.length := (List.getElem?_eq_some_iff.1 hx).1; omega) hx⟩⟩]
                · replace h5 := t_lss hO h5
                  rw [hlen] at h5
                  conv => cbv
                  obtain ⟨y, hy⟩ : ∃ y, l[k]? = some y := ⟨_, List.getElem?_eq_getElem (by omega)⟩
                  obtain ⟨v, b, hvb⟩ := NumR.ex y
                  have hv := h15 y (hall y (List.mem_of_getElem? hy)) v b hvb
                  have bad : ¬ (∃ n, numS y = some n ∧ lo < n ∧ n < hi) → r = 1 := fun h => hr1 fun hc => h ((hc.u rfl).2.2.2.2 k y hy)
                  refine ⟨mkS y, atX_map hy hxs hi', ?_⟩
                  conv => cbv
                  refine ⟨_, hv, ?_⟩
                  cases b with
                  | false =>
                    conv => cbv
                    rw [bad fun ⟨n, hn, _⟩ => by have := (hvb.of hn).1; simp at this]
                  | true =>
                    have hnum : numS y = some v := by
                      rcases hvb with ⟨_, h⟩ | ⟨h, _⟩
                      · exact h
                      · simp at h
                    conv => cbv
                    rintro (_ | _) h6
                    · replace h6 := f_leq hO h6
                      conv => cbv
                      rintro (_ | _) h7
                      · replace h7 := f_geq hO h7
                        conv => cbv
                        refine ⟨_, _, up _ _ ⟨_, k + 1, rfl, ?_, by omega, rfl, ?_⟩, ⟨⟨rfl, rfl, trivial⟩, ⟨rfl, trivial⟩, rfl⟩, by omega⟩
                        · rw [o_add64 hO (by omega) (by omega)]; omega
                        · intro j x hj hx
                          by_cases e : j = k
                          · subst e; rw [hy] at hx; simp only [Option.some.injEq] at hx; subst hx; exact ⟨v, hnum, h6, h7⟩
                          · exact hno j x (by omega) hx
                      · replace h7 := t_geq hO h7
                        conv => cbv
                        rw [bad fun ⟨n, hn, h8, h9⟩ => by rw [hnum] at hn; simp only [Option.some.injEq] at hn; omega]
                    · replace h6 := t_leq hO h6
                      conv => cbv
                      rw [bad fun ⟨n, hn, h8, h9⟩ => by rw [hnum] at hn; simp only [Option.some.injEq] at hn; omega]
              · replace h4 := t_leq hO h4
                rw [span_eq hO hlen hl1 h1 h2 h3] at h4
                conv => cbv
                rw [hr1 fun h => by have := (h.u rfl).2.2.2.1; simp only at this; omega]
            · replace h3 := t_gtr hO h3
              conv => cbv
              rw [hr1 fun h => by have := (h.u rfl).2.2.1; simp only at this; omega]
          · replace h2 := t_gtr hO h2
            conv => cbv
            rw [hr1 fun h => by have := (h.u rfl).2.1; simp only at this; unfold most at this; omega]
        · replace h1 := t_lss hO h1
          conv => cbv
          rw [hr1 fun h => by have := (h.u rfl).1; simp only at this; unfold least at this; omega]
end Go.Proofs.AM
namespace Go.Proofs.AM
open Go Go.Lib Cd
set_option maxRecDepth 100000 in
set_option maxHeartbeats 4000000 in
theorem check23_ok (R : Ans) (s : SetV) (hs : FS s) (h19 : ∀ s, SL s → R.v 19 [mkS s] (.bool (valueB s))) (h13 : ∀ s, SL s → ∀ v b, NumR s v b → R.v 13 [mkS s] (.tup [.int .i64 v, .bool b])) : AnsF R c23 [setD s] (.int .i64 (checkE s)) := by
  obtain ⟨r, hr⟩ : ∃ r, r = checkE s := ⟨_, rfl⟩
  rw [← hr]
  have hr0 : CheckP s → r = 0 := fun h => by rw [hr, checkE_0 h]
  have hr1 : ¬ CheckP s → r = 1 := fun h => by rw [hr, checkE_1 h]
  clear hr
  have hall := hs.l.all
  have hl1 := hs.l.len
  have hlo := hs.lo
  have hhi := hs.hi
  clear hs
  obtain ⟨m, n, u, l, lo, hi⟩ := s
  simp only at hall hl1 hlo hhi
  unfold FI at hlo hhi
  obtain ⟨S, hS⟩ : ∃ S : SetV, S = ⟨m, n, u, l, lo, hi⟩ := ⟨_, rfl⟩
  rw [← hS] at hr0 hr1
  have bad1 : 64 < l.length → ¬ CheckP S := fun h hc => by subst hS; have := hc.ord.1; simp only at this; omega
  have bad2 : ∀ (j : Nat) x, l[j]? = some x → valueB x = false → ¬ CheckP S := fun j x hx hv hc => by subst hS; have := hc.ord.2.1 j x hx; rw [hv] at this; simp at this
  have bad3 : ∀ (j : Nat) x y, l[j]? = some x → l[j + 1]? = some y → ¬ x < y → ¬ CheckP S := fun j x y hx hy h hc => h (by subst hS; exact hc.ord.2.2 j x y hx hy)
  have bad4 : u = true → n = false → ¬ CheckP S := fun h1 h2 hc => by subst hS; have := hc.un h1; simp only at this; rw [h2] at this; simp at this
  have bad5 : u = false → (lo ≠ 0 ∨ hi ≠ 0) → ¬ CheckP S := fun h1 h2 hc => by subst hS; have := hc.nu h1; simp only at this; omega
  have bad6 : u = true → ¬ (least ≤ lo ∧ hi ≤ most ∧ lo ≤ hi ∧ 64 < hi - lo + 1 - l.length) → ¬ CheckP S := fun h1 h2 hc => by subst hS; have := hc.u h1; exact h2 ⟨this.1, this.2.1, this.2.2.1, this.2.2.2.1⟩
  have bad7 : u = true → ∀ (j : Nat) x, l[j]? = some x → ¬ (∃ n, numS x = some n ∧ lo < n ∧ n < hi) → ¬ CheckP S := fun h1 j x hx h2 hc => by subst hS; exact h2 ((hc.u h1).2.2.2.2 j x hx)
  have good : OrdP l → (u = true → n = true) → (u = false → lo = 0 ∧ hi = 0) → (u = true → (least ≤ lo ∧ hi ≤ most ∧ lo ≤ hi ∧ 64 < hi - lo + 1 - l.length) ∧ ∀ (j : Nat) x, l[j]? = some x → ∃ n, numS x = some n ∧ lo < n ∧ n < hi) → CheckP S := fun h1 h2 h3 h4 => by
    subst hS
    exact ⟨h1, h2, h3, fun h => ⟨(h4 h).1.1, (h4 h).1.2.1, (h4 h).1.2.2.1, (h4 h).1.2.2.2, (h4 h).2⟩⟩
  clear hS
  unfold setD
  simp only
  obtain ⟨xs, hxs⟩ : ∃ xs, xs = l.map mkS := ⟨_, rfl⟩
  rw [← hxs]
  refine wpF_sound ⟨rfl, by decide⟩ fun O hO V hV => ?_
  subst hV
  have hlen : O .len xs = l.length := by rw [o_len hO, hxs]; simp
  obtain ⟨B, hB⟩ : ∃ B : List (Nat × Box), B = [(1, ⟨1, .rw, .var, [.bool m, .bool n, .bool u, .sl 1 false xs, .int .i64 lo, .int .i64 hi]⟩)] := ⟨_, rfl⟩
  conv => cbv
  refine join_of (fun d => ∃ bad : Bool, d = ⟨[(1, .ptr 1 1 0), (3, .bool bad)], B, false⟩ ∧ (bad = true → ¬ CheckP S) ∧ (bad = false → l.length ≤ 64 ∧ (u = true → n = true) ∧ (u = false → lo = 0 ∧ hi = 0))) (fun M up => ?_) ?_
  · subst hB
    conv => cbv
    rintro (_ | _) h1
    · replace h1 := f_gtr hO h1
      rw [hlen] at h1
      cases u with
      | false =>
        conv => cbv
        rintro (_ | _) h2
        · replace h2 := f_neq hO h2
          conv => cbv
          rintro (_ | _) h3
          · replace h3 := f_neq hO h3
            conv => cbv
            exact ⟨_, up _ ⟨false, rfl, by simp, fun _ => ⟨by omega, by simp, fun _ => ⟨h2, h3⟩⟩⟩, ⟨⟨rfl, rfl, trivial⟩, ⟨rfl, trivial⟩, rfl⟩⟩
          · replace h3 := t_neq hO h3
            conv => cbv
            exact ⟨_, up _ ⟨true, rfl, fun _ => bad5 rfl (.inr h3), by simp⟩, ⟨⟨rfl, rfl, trivial⟩, ⟨rfl, trivial⟩, rfl⟩⟩
        · replace h2 := t_neq hO h2
          conv => cbv
          exact ⟨_, up _ ⟨true, rfl, fun _ => bad5 rfl (.inl h2), by simp⟩, ⟨⟨rfl, rfl, trivial⟩, ⟨rfl, trivial⟩, rfl⟩⟩
      | true =>
        cases n with
        | false =>
          conv => cbv
          exact ⟨_, up _ ⟨true, rfl, fun _ => bad4 rfl rfl, by simp⟩, ⟨⟨rfl, rfl, trivial⟩, ⟨rfl, trivial⟩, rfl⟩⟩
        | true =>
          conv => cbv
          exact ⟨_, up _ ⟨false, rfl, by simp, fun _ => ⟨by omega, fun _ => rfl, by simp⟩⟩, ⟨⟨rfl, rfl, trivial⟩, ⟨rfl, trivial⟩, rfl⟩⟩
    · replace h1 := t_gtr hO h1
      rw [hlen] at h1
      conv => cbv
      exact ⟨_, up _ ⟨true, rfl, fun _ => bad1 (by omega), by simp⟩, ⟨⟨rfl, rfl, trivial⟩, ⟨rfl, trivial⟩, rfl⟩⟩
  rintro d ⟨bad, rfl, hb1, hb0⟩
  subst hB
  conv => cbv
  refine loop_of (fun c d => ∃ (i : Int) (k : Nat) (bad : Bool), d = ⟨[(1, .ptr 1 1 0), (3, .bool bad), (37, .sl 1 false xs), (38, .int .i64 (O .len xs)), (39, .int .i64 i)], [(1, ⟨1, .rw, .var, [.bool m, .bool n, .bool u, .sl 1 false xs, .int .i64 lo, .int .i64 hi]⟩)], false⟩ ∧ i = k ∧ k ≤ l.length ∧ c = l.length - k ∧ (bad = true → ¬ CheckP S) ∧ (bad = false → (l.length ≤ 64 ∧ (u = true → n = true) ∧ (u = false → lo = 0 ∧ hi = 0)) ∧ (∀ j x, j < k → l[j]? = some x → valueB x = true) ∧ (∀ (j : Nat) x y, j + 1 < k → l[j]? = some x → l[j + 1]? = some y → x < y) ∧ (u = true → ∀ j x, j < k → l[j]? = some x → ∃ n, numS x = some n ∧ lo < n ∧ n < hi))) ⟨_, _, ⟨_, 0, bad, rfl, rfl, by omega, rfl, hb1, fun h => ⟨hb0 h, by simp, by simp, by simp⟩⟩, ⟨⟨rfl, rfl, rfl, rfl, rfl, trivial⟩, ⟨rfl, trivial⟩, rfl⟩⟩ ?_
  rintro J up c d ⟨i, k, bad, rfl, hi', hk, rfl, hb1, hb0⟩
  conv => cbv
  rintro (_ | _) h1
  · replace h1 := f_lss hO h1
    rw [hlen] at h1
    have hke : k = l.length := by omega
    have done : bad = false → OrdP l ∧ (u = true → n = true) ∧ (u = false → lo = 0 ∧ hi = 0) ∧ (u = true → ∀ (j : Nat) x, l[j]? = some x → ∃ n, numS x = some n ∧ lo < n ∧ n < hi) := fun h => by
      obtain ⟨⟨g1, g2, g3⟩, g4, g5, g6⟩ := hb0 h
      exact ⟨⟨g1, fun j x hx => g4 j x (by rw [hke]; exact (List.getElem?_eq_some_iff.1 hx).1) hx, fun j x y hx hy => g5 j x y (by rw [hke]; exact (List.getElem?_eq_some_iff.1 hy).1) hx hy⟩, g2, g3, fun hu j x hx => g6 hu j x (by rw [hke]; exact (List.getElem?_eq_some_iff.1 hx).1) hx⟩
    conv => cbv
    refine join_of (fun d => ∃ bad : Bool, d = ⟨[(3, .bool bad)], [], false⟩ ∧ (bad = true → ¬ CheckP S) ∧ (bad = false → CheckP S)) (fun M up3 => ?_) ?_
    · cases u with
      | false =>
        conv => cbv
        exact ⟨_, up3 _ ⟨bad, rfl, hb1, fun h => by obtain ⟨g1, g2, g3, g4⟩ := done h; exact good g1 g2 g3 (by simp)⟩, ⟨⟨rfl, trivial⟩, trivial, rfl⟩⟩
      | true =>
        cases bad with
        | true =>
          conv => cbv
          exact ⟨_, up3 _ ⟨true, rfl, hb1, by simp⟩, ⟨⟨rfl, trivial⟩, trivial, rfl⟩⟩
        | false =>
          obtain ⟨g1, g2, g3, g4⟩ := done rfl
          conv => cbv
          rintro (_ | _) h2
          · replace h2 := f_lss hO h2
            conv => cbv
            rintro (_ | _) h3
            · replace h3 := f_gtr hO h3
              conv => cbv
              rintro (_ | _) h4
              · replace h4 := f_gtr hO h4
                conv => cbv
                rintro (_ | _) h5
                · replace h5 := f_leq hO h5
                  rw [span_eq hO hlen hl1 h2 h3 h4] at h5
                  conv => cbv
                  exact ⟨_, up3 _ ⟨false, rfl, by simp, fun _ => good g1 g2 g3 fun hu => ⟨⟨h2, h3, h4, h5⟩, g4 hu⟩⟩, ⟨⟨rfl, trivial⟩, trivial, rfl⟩⟩
                · replace h5 := t_leq hO h5
                  rw [span_eq hO hlen hl1 h2 h3 h4] at h5
                  conv => cbv
                  exact ⟨_, up3 _ ⟨true, rfl, fun _ => bad6 rfl (fun h => by omega), by simp⟩, ⟨⟨rfl, trivial⟩, trivial, rfl⟩⟩
              · replace h4 := t_gtr hO h4
                conv => cbv
                exact ⟨_, up3 _ ⟨true, rfl, fun _ => bad6 rfl (fun h => by omega), by simp⟩, ⟨⟨rfl, trivial⟩, trivial, rfl⟩⟩
            · replace h3 := t_gtr hO h3
              conv => cbv
              exact ⟨_, up3 _ ⟨true, rfl, fun _ => bad6 rfl (fun h => by have := h.2.1; unfold most at this; omega), by simp⟩, ⟨⟨rfl, trivial⟩, trivial, rfl⟩⟩
          · replace h2 := t_lss hO h2
            conv => cbv
            exact ⟨_, up3 _ ⟨true, rfl, fun _ => bad6 rfl (fun h => by have := h.1; unfold least at this; omega), by simp⟩, ⟨⟨rfl, trivial⟩, trivial, rfl⟩⟩
    · rintro d ⟨b, rfl, h1, h0⟩
      cases b with
      | false =>
        conv => cbv
        rw [hr0 (h0 rfl)]
      | true =>
        conv => cbv
        rw [hr1 (h1 rfl)]
  · replace h1 := t_lss hO h1
    rw [hlen] at h1
    conv => cbv
    obtain ⟨y, hy⟩ : ∃ y, l[k]? = some y := ⟨_, List.getElem?_eq_getElem (by omega)⟩
    have hSL := hall y (List.mem_of_getElem? hy)
    refine ⟨mkS y, atX_map hy hxs hi', ?_⟩
    conv => cbv
    refine join_of (fun d => ∃ bad : Bool, d = ⟨[(1, .ptr 1 1 0), (3, .bool bad), (5, mkS y), (37, .sl 1 false xs), (38, .int .i64 (O .len xs)), (39, .int .i64 i)], [(1, ⟨1, .rw, .var, [.bool m, .bool n, .bool u, .sl 1 false xs, .int .i64 lo, .int .i64 hi]⟩)], false⟩ ∧ (bad = true → ¬ CheckP S) ∧ (bad = false → (l.length ≤ 64 ∧ (u = true → n = true) ∧ (u = false → lo = 0 ∧ hi = 0)) ∧ (∀ j x, j < k + 1 → l[j]? = some x → valueB x = true) ∧ (∀ (j : Nat) x y, j + 1 < k + 1 → l[j]? = some x → l[j + 1]? = some y → x < y) ∧ (u = true → ∀ j x, j < k → l[j]? = some x → ∃ n, numS x = some n ∧ lo < n ∧ n < hi))) (fun M up2 => ?_) ?_
    · cases bad with
      | true =>
        conv => cbv
        exact ⟨_, up2 _ ⟨true, rfl, hb1, by simp⟩, ⟨⟨rfl, rfl, rfl, rfl, rfl, rfl, trivial⟩, ⟨rfl, trivial⟩, rfl⟩⟩
      | false =>
        obtain ⟨g0, g4, g5, g6⟩ := hb0 rfl
        have hv := h19 y hSL
        obtain ⟨q, hq⟩ : ∃ q, q = valueB y := ⟨_, rfl⟩
        rw [← hq] at hv
        have g4' : q = true → ∀ j x, j < k + 1 → l[j]? = some x → valueB x = true := fun hqt j x hj hx => by
          by_cases e : j = k
          · subst e; rw [hy] at hx; simp only [Option.some.injEq] at hx; subst hx; rw [← hq, hqt]
          · exact g4 j x (by omega) hx
        conv => cbv
        refine ⟨_, hv, ?_⟩
        cases q with
        | false =>
          conv => cbv
          exact ⟨_, up2 _ ⟨true, rfl, fun _ => bad2 k y hy hq.symm, by simp⟩, ⟨⟨rfl, rfl, rfl, rfl, rfl, rfl, trivial⟩, ⟨rfl, trivial⟩, rfl⟩⟩
        | true =>
          conv => cbv
          rintro (_ | _) h3
          · replace h3 := f_gtr hO h3
            conv => cbv
            exact ⟨_, up2 _ ⟨false, rfl, by simp, fun _ => ⟨g0, g4' rfl, fun j x z hj => by omega, g6⟩⟩, ⟨⟨rfl, rfl, rfl, rfl, rfl, rfl, trivial⟩, ⟨rfl, trivial⟩, rfl⟩⟩
          · replace h3 := t_gtr hO h3
            conv => cbv
            obtain ⟨w, hw⟩ : ∃ w, l[k - 1]? = some w := ⟨_, List.getElem?_eq_getElem (by omega)⟩
            have hsub : O .iop .sub .i64 i 1 = ((k - 1 : Nat) : Int) := by rw [o_sub64 hO (by omega) (by omega)]; omega
            have hk1 : k - 1 + 1 = k := by omega
            refine ⟨mkS w, atX_map hw hxs hsub, ?_⟩
            conv => cbv
            rintro (_ | _) h4
            · replace h4 : w < y := f_sgeq hO h4
              conv => cbv
              refine ⟨_, up2 _ ⟨false, rfl, by simp, fun _ => ⟨g0, g4' rfl, fun j x z hj hx hz => ?_, g6⟩⟩, ⟨⟨rfl, rfl, rfl, rfl, rfl, rfl, trivial⟩, ⟨rfl, trivial⟩, rfl⟩⟩
              by_cases e : j + 1 = k
              · have e2 : j = k - 1 := by omega
                subst e2
                rw [e] at hz
                rw [hw] at hx
                rw [hy] at hz
                simp only [Option.some.injEq] at hx hz
                subst hx hz
                exact h4
              · exact g5 j x z (by omega) hx hz
            · replace h4 : ¬ w < y := t_sgeq hO h4
              conv => cbv
              exact ⟨_, up2 _ ⟨true, rfl, fun _ => bad3 (k - 1) w y hw (by rw [hk1]; exact hy) h4, by simp⟩, ⟨⟨rfl, rfl, rfl, rfl, rfl, rfl, trivial⟩, ⟨rfl, trivial⟩, rfl⟩⟩
    · rintro d ⟨bad, rfl, hb1, hb0⟩
      have hadd : O .iop .add .i64 i 1 = ((k + 1 : Nat) : Int) := by rw [o_add64 hO (by omega) (by omega)]; omega
      cases u with
      | false =>
        conv => cbv
        exact ⟨_, _, up _ _ ⟨_, k + 1, bad, rfl, hadd, by omega, rfl, hb1, fun h => by obtain ⟨g0, g4, g5, g6⟩ := hb0 h; exact ⟨g0, g4, g5, by simp⟩⟩, ⟨⟨rfl, rfl, rfl, rfl, rfl, trivial⟩, ⟨rfl, trivial⟩, rfl⟩, by omega⟩
      | true =>
        cases bad with
        | true =>
          conv => cbv
          exact ⟨_, _, up _ _ ⟨_, k + 1, true, rfl, hadd, by omega, rfl, hb1, by simp⟩, ⟨⟨rfl, rfl, rfl, rfl, rfl, trivial⟩, ⟨rfl, trivial⟩, rfl⟩, by omega⟩
        | false =>
          obtain ⟨g0, g4, g5, g6⟩ := hb0 rfl
          obtain ⟨v, b, hvb⟩ := NumR.ex y
          have hv := h13 y hSL v b hvb
          conv => cbv
          refine ⟨_, hv, ?_⟩
          cases b with
          | false =>
            conv => cbv
            exact ⟨_, _, up _ _ ⟨_, k + 1, true, rfl, hadd, by omega, rfl, fun _ => bad7 rfl k y hy (fun ⟨n, hn, _⟩ => by have := (hvb.of hn).1; simp at this), by simp⟩, ⟨⟨rfl, rfl, rfl, rfl, rfl, trivial⟩, ⟨rfl, trivial⟩, rfl⟩, by omega⟩
          | true =>
            have hnum : numS y = some v := by
              rcases hvb with ⟨_, h⟩ | ⟨h, _⟩
              · exact h
              · simp at h
            have nope : ¬ (lo < v ∧ v < hi) → ¬ CheckP S := fun h => bad7 rfl k y hy (fun ⟨n, hn, h8⟩ => by rw [hnum] at hn; simp only [Option.some.injEq] at hn; subst hn; exact h h8)
            conv => cbv
            rintro (_ | _) h6
            · replace h6 := f_leq hO h6
              conv => cbv
              rintro (_ | _) h7
              · replace h7 := f_geq hO h7
                conv => cbv
                refine ⟨_, _, up _ _ ⟨_, k + 1, false, rfl, hadd, by omega, rfl, by simp, fun _ => ⟨g0, g4, g5, fun _ j x hj hx => ?_⟩⟩, ⟨⟨rfl, rfl, rfl, rfl, rfl, trivial⟩, ⟨rfl, trivial⟩, rfl⟩, by omega⟩
                by_cases e : j = k
                · subst e; rw [hy] at hx; simp only [Option.some.injEq] at hx; subst hx; exact ⟨v, hnum, h6, h7⟩
                · exact g6 rfl j x (by omega) hx
              · replace h7 := t_geq hO h7
                conv => cbv
                exact ⟨_, _, up _ _ ⟨_, k + 1, true, rfl, hadd, by omega, rfl, fun _ => nope (by omega), by simp⟩, ⟨⟨rfl, rfl, rfl, rfl, rfl, trivial⟩, ⟨rfl, trivial⟩, rfl⟩, by omega⟩
            · replace h6 := t_leq hO h6
              conv => cbv
              exact ⟨_, _, up _ _ ⟨_, k + 1, true, rfl, hadd, by omega, rfl, fun _ => nope (by omega), by simp⟩, ⟨⟨rfl, rfl, rfl, rfl, rfl, trivial⟩, ⟨rfl, trivial⟩, rfl⟩, by omega⟩
end Go.Proofs.AM
namespace Go.Proofs.AM
open Go Go.Lib Cd
set_option maxRecDepth 100000 in
set_option maxHeartbeats 2000000 in
theorem has43_ok (R : Ans) (s : SetV) (x : Str) (hx : SL x) (h55 : R.v 55 [.sl 1 false (s.l.map mkS), mkS x] (.bool (decide (x ∈ s.l)))) (h13 : ∀ s, SL s → ∀ v b, NumR s v b → R.v 13 [mkS s] (.tup [.int .i64 v, .bool b])) : AnsF R c43 [setD s, mkS x] (.bool (hasRaw s x)) := by
  obtain ⟨v, b, hvb⟩ := NumR.ex x
  have hv := h13 x hx v b hvb
  have hrg : rangeB s x = (b && decide (s.lo ≤ v ∧ v ≤ s.hi)) := by
    rcases hvb with ⟨rfl, h⟩ | ⟨rfl, _, h⟩
    · rw [rangeB_some h]; simp
    · rw [rangeB_none h]; simp
  obtain ⟨r, hr⟩ : ∃ r, r = hasRaw s x := ⟨_, rfl⟩
  rw [← hr]
  unfold hasRaw at hr
  rw [hrg] at hr
  obtain ⟨q, hq⟩ : ∃ q, q = decide (x ∈ s.l) := ⟨_, rfl⟩
  rw [← hq] at hr
  rw [← hq] at h55
  clear hq hrg hvb
  obtain ⟨m, n, u, l, lo, hi⟩ := s
  simp only at h55 hr
  unfold setD
  simp only
  have hcx : CleanL (l.map mkS) := cleanL_map clean_S rfl
  obtain ⟨xs, hxs⟩ : ∃ xs, xs = l.map mkS := ⟨_, rfl⟩
  rw [← hxs] at hcx h55 ⊢
  refine wpF_sound ⟨rfl, by decide⟩ fun O hO V hV => ?_
  subst hV
  conv => cbv
  refine ⟨hcx, _, h55, ?_⟩
  conv => cbv
  rintro (_ | _) h1
  · replace h1 := b_ne hO h1
    conv => cbv
    rw [hr, ← h1]
    rfl
  · replace h1 := b_ne hO h1
    rw [← h1] at hr
    cases u with
    | false =>
      conv => cbv
      rw [hr]
      rfl
    | true =>
      conv => cbv
      refine ⟨_, hv, ?_⟩
      cases b with
      | false =>
        conv => cbv
        rw [hr]
        rfl
      | true =>
        conv => cbv
        rintro (_ | _) h2
        · replace h2 := f_geq hO h2
          conv => cbv
          rw [hr]
          simp
          omega
        · replace h2 := t_geq hO h2
          conv => cbv
          rintro (_ | _) h3
          · replace h3 := f_leq hO h3
            conv => cbv
            rw [hr]
            simp
            omega
          · replace h3 := t_leq hO h3
            conv => cbv
            rw [hr]
            simp
            omega
set_option maxHeartbeats 1000000 in
theorem has26_ok (R : Ans) (s : SetV) (x : Str) (h23 : R.v 23 [setD s] (.int .i64 (checkE s))) (h19 : R.v 19 [mkS x] (.bool (valueB x))) (h43 : R.v 43 [setD s, mkS x] (.bool (hasRaw s x))) : AnsF R c26 [setD s, mkS x] (.bool (hasB s x)) := by
  obtain ⟨r, hr⟩ : ∃ r, r = hasB s x := ⟨_, rfl⟩
  rw [← hr]
  unfold hasB at hr
  obtain ⟨e, he⟩ : ∃ e, e = checkE s := ⟨_, rfl⟩
  obtain ⟨q, hq⟩ : ∃ q, q = valueB x := ⟨_, rfl⟩
  obtain ⟨p, hp⟩ : ∃ p, p = hasRaw s x := ⟨_, rfl⟩
  rw [← he, ← hq, ← hp] at hr
  rw [← he] at h23
  rw [← hq] at h19
  rw [← hp] at h43
  clear he hq hp
  obtain ⟨m, n, u, l, lo, hi⟩ := s
  unfold setD at h23 h43 ⊢
  simp only at h23 h43 ⊢
  have hcx : CleanL (l.map mkS) := cleanL_map clean_S rfl
  obtain ⟨xs, hxs⟩ : ∃ xs, xs = l.map mkS := ⟨_, rfl⟩
  rw [← hxs] at hcx h23 h43 ⊢
  refine wpF_sound ⟨rfl, by decide⟩ fun O hO V hV => ?_
  subst hV
  conv => cbv
  refine ⟨hcx, _, h23, ?_⟩
  conv => cbv
  rintro (_ | _) h1
  · replace h1 := f_eql hO h1
    conv => cbv
    rw [hr]
    simp [h1]
  · replace h1 := t_eql hO h1
    conv => cbv
    refine ⟨_, h19, ?_⟩
    cases q with
    | false =>
      conv => cbv
      rw [hr]
      simp
    | true =>
      conv => cbv
      refine ⟨hcx, _, h43, ?_⟩
      conv => cbv
      rw [hr]
      simp [h1]
set_option maxRecDepth 100000 in
set_option maxHeartbeats 1000000 in
theorem has28_ok (R : Ans) (s : SetV) (x : Str) (h22 : R.v 22 [setD s] (.int .i64 (checkE s))) (h17 : R.v 17 [mkS x] (.bool (valueB x))) (h45 : R.v 45 [.sl 1 false (s.l.map mkS), mkS x] (.bool (decide (x ∈ s.l)))) (h15 : ∀ v b, NumR x v b → R.v 15 [mkS x] (.tup [.int .i64 v, .bool b])) : AnsF R c28 [setD s, mkS x] (.bool (hasB s x)) := by
  obtain ⟨v, b, hvb⟩ := NumR.ex x
  have hv := h15 v b hvb
  have hrg : rangeB s x = (b && decide (s.lo ≤ v ∧ v ≤ s.hi)) := by
    rcases hvb with ⟨rfl, h⟩ | ⟨rfl, _, h⟩
    · rw [rangeB_some h]; simp
    · rw [rangeB_none h]; simp
  have hun : checkE s = 0 → s.u = true → s.n = true := fun h => (checkE_iff.1 h).un
  obtain ⟨r, hr⟩ : ∃ r, r = hasB s x := ⟨_, rfl⟩
  rw [← hr]
  unfold hasB hasRaw at hr
  rw [hrg] at hr
  obtain ⟨e, he⟩ : ∃ e, e = checkE s := ⟨_, rfl⟩
  obtain ⟨q, hq⟩ : ∃ q, q = valueB x := ⟨_, rfl⟩
  obtain ⟨p, hp⟩ : ∃ p, p = decide (x ∈ s.l) := ⟨_, rfl⟩
  rw [← hp, ← he, ← hq] at hr
  rw [← he] at h22 hun
  rw [← hq] at h17
  rw [← hp] at h45
  clear he hq hp hrg hvb
  obtain ⟨m, n, u, l, lo, hi⟩ := s
  unfold setD at h22 ⊢
  simp only at h22 h45 hr hun ⊢
  have hcx : CleanL (l.map mkS) := cleanL_map clean_S rfl
  obtain ⟨xs, hxs⟩ : ∃ xs, xs = l.map mkS := ⟨_, rfl⟩
  rw [← hxs] at hcx h22 h45 ⊢
  refine wpF_sound ⟨rfl, by decide⟩ fun O hO V hV => ?_
  subst hV
  conv => cbv
  refine ⟨hcx, _, h22, ?_⟩
  conv => cbv
  refine ⟨_, h17, ?_⟩
  conv => cbv
  rintro (_ | _) h1
  · replace h1 := f_neq hO h1
    subst h1
    cases q with
    | false =>
      conv => cbv
      rw [hr]
      simp
    | true =>
      conv => cbv
      refine ⟨hcx, _, h45, ?_⟩
      cases n with
      | false =>
        have hu : u = false := by
          cases u with
          | false => rfl
          | true => have := hun rfl rfl; simp at this
        subst hu
        conv => cbv
        rw [hr]
        cases p <;> rfl
      | true =>
        conv => cbv
        refine ⟨_, hv, ?_⟩
        cases p with
        | true =>
          conv => cbv
          rw [hr]
          rfl
        | false =>
          cases u with
          | false =>
            conv => cbv
            rw [hr]
            rfl
          | true =>
            cases b with
            | false =>
              conv => cbv
              rw [hr]
              rfl
            | true =>
              conv => cbv
              rintro (_ | _) h2
              · replace h2 := f_geq hO h2
                conv => cbv
                rw [hr]
                simp
                omega
              · replace h2 := t_geq hO h2
                conv => cbv
                rintro (_ | _) h3
                · replace h3 := f_leq hO h3
                  conv => cbv
                  rw [hr]
                  simp
                  omega
                · replace h3 := t_leq hO h3
                  conv => cbv
                  rw [hr]
                  simp
                  omega
  · replace h1 := t_neq hO h1
    conv => cbv
    rw [hr]
    simp [h1]
theorem empty_len {O : Ops} (hO : O = Ops.std) {l : List Str} {xs : List D} (hxs : xs = l.map mkS) {t : Bool} (h : t = O .icmp .eql (O .len xs) 0) : t = decide (l = []) := by
  rw [o_eql hO, o_len hO, hxs] at h
  rw [h]
  simp
set_option maxHeartbeats 1000000 in
theorem empty27_ok (R : Ans) (s : SetV) (h23 : R.v 23 [setD s] (.int .i64 (checkE s))) : AnsF R c27 [setD s] (.bool (emptyB s)) := by
  obtain ⟨r, hr⟩ : ∃ r, r = emptyB s := ⟨_, rfl⟩
  rw [← hr]
  unfold emptyB at hr
  obtain ⟨e, he⟩ : ∃ e, e = checkE s := ⟨_, rfl⟩
  rw [← he] at hr h23
  clear he
  obtain ⟨m, n, u, l, lo, hi⟩ := s
  unfold setD at h23 ⊢
  simp only at h23 hr ⊢
  have hcx : CleanL (l.map mkS) := cleanL_map clean_S rfl
  obtain ⟨xs, hxs⟩ : ∃ xs, xs = l.map mkS := ⟨_, rfl⟩
  rw [← hxs] at hcx h23 ⊢
  refine wpF_sound ⟨rfl, by decide⟩ fun O hO V hV => ?_
  subst hV
  conv => cbv
  refine ⟨hcx, _, h23, ?_⟩
  conv => cbv
  rintro (_ | _) h1
  · replace h1 := f_eql hO h1
    conv => cbv
    rw [hr]
    simp [h1]
  · replace h1 := t_eql hO h1
    cases n <;> cases m <;> (conv => cbv)
    · intro t ht
      have h2 := empty_len hO hxs ht
      conv => cbv
      rw [hr, h2]
      simp [h1]
    all_goals (rw [hr]; simp [h1])
set_option maxHeartbeats 1000000 in
theorem empty29_ok (R : Ans) (s : SetV) (h22 : R.v 22 [setD s] (.int .i64 (checkE s))) : AnsF R c29 [setD s] (.bool (emptyB s)) := by
  obtain ⟨r, hr⟩ : ∃ r, r = emptyB s := ⟨_, rfl⟩
  rw [← hr]
  unfold emptyB at hr
  obtain ⟨e, he⟩ : ∃ e, e = checkE s := ⟨_, rfl⟩
  rw [← he] at hr h22
  clear he
  obtain ⟨m, n, u, l, lo, hi⟩ := s
  unfold setD at h22 ⊢
  simp only at h22 hr ⊢
  have hcx : CleanL (l.map mkS) := cleanL_map clean_S rfl
  obtain ⟨xs, hxs⟩ : ∃ xs, xs = l.map mkS := ⟨_, rfl⟩
  rw [← hxs] at hcx h22 ⊢
  refine wpF_sound ⟨rfl, by decide⟩ fun O hO V hV => ?_
  subst hV
  conv => cbv
  refine ⟨hcx, _, h22, ?_⟩
  conv => cbv
  rintro (_ | _) h1
  · replace h1 := f_eql hO h1
    conv => cbv
    rw [hr]
    simp [h1]
  · replace h1 := t_eql hO h1
    cases n <;> cases m <;> (conv => cbv)
    · intro t ht
      have h2 := empty_len hO hxs ht
      conv => cbv
      rw [hr, h2]
      simp [h1]
    all_goals (rw [hr]; simp [h1])
end Go.Proofs.AM
namespace Go.Proofs.AM
open Go Go.Lib Cd
def lD (l : List Str) : D := .sl 1 false (l.map mkS)
theorem lD_clean (l : List Str) : Clean (lD l) := by
  have := cleanL_map clean_S (l := l) rfl
  exact ⟨by simp [lD, closed, this.c], by simp [lD, strip, this.s]⟩
theorem foldl_flat {L : List (List Str)} {k : Nat} {l : List Str} (h : L[k]? = some l) (a : List Str) : (L.take (k + 1)).flatten.foldl insS a = l.foldl insS ((L.take k).flatten.foldl insS a) := by
  rw [List.take_add_one, h, List.flatten_append, List.foldl_append]
  simp
theorem foldl_take' {l : List Str} {k : Nat} {y : Str} (h : l[k]? = some y) (a : List Str) : (l.take (k + 1)).foldl insS a = insS ((l.take k).foldl insS a) y := by
  rw [List.take_add_one, h, List.foldl_append]
  rfl
set_option maxRecDepth 100000 in
set_option maxHeartbeats 4000000 in
theorem group33_ok (R : Ans) (L : List (List Str)) (hL : L.length ≤ 8796093022208) (hl : ∀ l ∈ L, l.length ≤ 8796093022208) : AnsF R c33 [.sl 1 false (L.map lD)] (.mapv ((groupS L).map ent)) := by
  obtain ⟨xs, hxs⟩ : ∃ xs, xs = L.map lD := ⟨_, rfl⟩
  obtain ⟨rs, hrs⟩ : ∃ rs, rs = (groupS L).map ent := ⟨_, rfl⟩
  have hcr : CleanL rs := cleanL_map clean_ent hrs
  rw [← hxs, ← hrs]
  refine wpF_sound ⟨rfl, by decide⟩ fun O hO V hV => ?_
  have hlen : O .len xs = L.length := by rw [o_len hO, hxs]; simp
  conv => cbv
  refine loop_of (fun n d => ∃ (i : Int) (k : Nat) (ac : List D) (tk : Int), d = ⟨[(3, .mapr 8 1), (9, .sl 1 false xs), (10, .int .i64 (O .len xs)), (11, .int .i64 i)], [(8, ⟨1, .rw, .map, .int .i64 tk :: ac⟩)], false⟩ ∧ i = k ∧ k ≤ L.length ∧ n = L.length - k ∧ ac = ((L.take k).flatten.foldl insS []).map ent) ⟨_, _, ⟨_, 0, _, _, rfl, rfl, by omega, rfl, by simp⟩, ⟨⟨rfl, rfl, rfl, rfl, trivial⟩, ⟨rfl, trivial⟩, rfl⟩⟩ ?_
  rintro J up n d ⟨i, k, ac, tk, rfl, hi, hk, rfl, hac⟩
  conv => cbv
  rintro (_ | _) h1
  · replace h1 := f_lss hO h1
    rw [hlen] at h1
    have : ac = rs := by rw [hac, hrs, List.take_of_length_le (by omega)]; rfl
    conv => cbv
    rw [this]
    refine ⟨hcr, ?_⟩
    conv => cbv
    trivial
  · replace h1 := t_lss hO h1
    rw [hlen] at h1
    conv => cbv
    obtain ⟨l, hy⟩ : ∃ l, L[k]? = some l := ⟨_, List.getElem?_eq_getElem (by omega)⟩
    have hll := hl l (List.mem_of_getElem? hy)
    refine ⟨lD l, atX_map hy hxs hi, ?_⟩
    obtain ⟨ys, hys⟩ : ∃ ys, ys = l.map mkS := ⟨_, rfl⟩
    have hlen2 : O .len ys = l.length := by rw [o_len hO, hys]; simp
    unfold lD
    rw [← hys]
    conv => cbv
    refine loop_of (fun n d => ∃ (i2 : Int) (k2 : Nat) (ac2 : List D) (tk2 : Int), d = ⟨[(3, .mapr 8 1), (9, .sl 1 false xs), (10, .int .i64 (O .len xs)), (11, .int .i64 i), (15, .sl 1 false ys), (16, .int .i64 (O .len ys)), (17, .int .i64 i2)], [(8, ⟨1, .rw, .map, .int .i64 tk2 :: ac2⟩)], false⟩ ∧ i2 = k2 ∧ k2 ≤ l.length ∧ n = l.length - k2 ∧ ac2 = ((l.take k2).foldl insS ((L.take k).flatten.foldl insS [])).map ent) ⟨_, _, ⟨_, 0, _, _, rfl, rfl, by omega, rfl, by simpa using hac⟩, ⟨⟨rfl, rfl, rfl, rfl, rfl, rfl, rfl, trivial⟩, ⟨rfl, trivial⟩, rfl⟩⟩ ?_
    rintro J2 up2 n2 d ⟨i2, k2, ac2, tk2, rfl, hi2, hk2, rfl, hac2⟩
    conv => cbv
    rintro (_ | _) h2
    · replace h2 := f_lss hO h2
      rw [hlen2] at h2
      conv => cbv
      refine ⟨_, _, up _ _ ⟨_, k + 1, ac2, tk2, rfl, ?_, by omega, rfl, ?_⟩, ⟨⟨rfl, rfl, rfl, rfl, trivial⟩, ⟨rfl, trivial⟩, rfl⟩, by omega⟩
      · rw [o_add64 hO (by omega) (by omega)]; omega
      · have e3 : l.take k2 = l := List.take_of_length_le (by omega)
        rw [hac2, foldl_flat hy, e3]
    · replace h2 := t_lss hO h2
      rw [hlen2] at h2
      conv => cbv
      obtain ⟨y, hy2⟩ : ∃ y, l[k2]? = some y := ⟨_, List.getElem?_eq_getElem (by omega)⟩
      refine ⟨mkS y, atX_map hy2 hys hi2, ?_⟩
      conv => cbv
      obtain ⟨ac3, hac3⟩ : ∃ ac3, ac3 = (insS ((l.take k2).foldl insS ((L.take k).flatten.foldl insS [])) y).map ent := ⟨_, rfl⟩
      refine ⟨ac3, by rw [hac2, hac3]; exact mput_ent _ _, fun c => ?_⟩
      conv => cbv
      refine ⟨_, _, up2 _ _ ⟨_, k2 + 1, ac3, c, rfl, ?_, by omega, rfl, ?_⟩, ⟨⟨rfl, rfl, rfl, rfl, rfl, rfl, rfl, trivial⟩, ⟨rfl, trivial⟩, rfl⟩, by omega⟩
      · rw [o_add64 hO (by omega) (by omega)]; omega
      · rw [hac3, foldl_take' hy2]
set_option maxRecDepth 100000 in
set_option maxHeartbeats 4000000 in
theorem group33_shared (R : Ans) (L : List (List Str)) (hL : L.length ≤ 8796093022208) (hl : ∀ l ∈ L, l.length ≤ 8796093022208) : ∀ O : Ops, O = Ops.std → ∀ V : Ans, V = R → wpS O V 300 c33 [.sl 1 false (L.map lD)] [] (fun r kn => ∃ g c, r = .mapr 308 g ∧ kn = [(308, ⟨g, .rw, .map, .int .i64 c :: (groupS L).map ent⟩)]) := by
  obtain ⟨xs, hxs⟩ : ∃ xs, xs = L.map lD := ⟨_, rfl⟩
  obtain ⟨rs, hrs⟩ : ∃ rs, rs = (groupS L).map ent := ⟨_, rfl⟩
  have hcr : CleanL rs := cleanL_map clean_ent hrs
  rw [← hxs, ← hrs]
  intro O hO V hV
  have hlen : O .len xs = L.length := by rw [o_len hO, hxs]; simp
  conv => cbv
  intro g0
  conv => cbv
  refine loop_of (fun n d => ∃ (i : Int) (k : Nat) (ac : List D) (tk : Int), d = ⟨[(3, .mapr 308 g0), (9, .sl 1 false xs), (10, .int .i64 (O .len xs)), (11, .int .i64 i)], [(308, ⟨g0, .rw, .map, .int .i64 tk :: ac⟩)], false⟩ ∧ i = k ∧ k ≤ L.length ∧ n = L.length - k ∧ ac = ((L.take k).flatten.foldl insS []).map ent) ⟨_, _, ⟨_, 0, _, _, rfl, rfl, by omega, rfl, by simp⟩, ⟨⟨rfl, rfl, rfl, rfl, trivial⟩, ⟨rfl, trivial⟩, rfl⟩⟩ ?_
  rintro J up n d ⟨i, k, ac, tk, rfl, hi, hk, rfl, hac⟩
  conv => cbv
  rintro (_ | _) h1
  · replace h1 := f_lss hO h1
    rw [hlen] at h1
    have : ac = rs := by rw [hac, hrs, List.take_of_length_le (by omega)]; rfl
    conv => cbv
    rw [this]
    exact ⟨g0, tk, rfl, rfl⟩
  · replace h1 := t_lss hO h1
    rw [hlen] at h1
    conv => cbv
    obtain ⟨l, hy⟩ : ∃ l, L[k]? = some l := ⟨_, List.getElem?_eq_getElem (by omega)⟩
    have hll := hl l (List.mem_of_getElem? hy)
    refine ⟨lD l, atX_map hy hxs hi, ?_⟩
    obtain ⟨ys, hys⟩ : ∃ ys, ys = l.map mkS := ⟨_, rfl⟩
    have hlen2 : O .len ys = l.length := by rw [o_len hO, hys]; simp
    unfold lD
    rw [← hys]
    conv => cbv
    refine loop_of (fun n d => ∃ (i2 : Int) (k2 : Nat) (ac2 : List D) (tk2 : Int), d = ⟨[(3, .mapr 308 g0), (9, .sl 1 false xs), (10, .int .i64 (O .len xs)), (11, .int .i64 i), (15, .sl 1 false ys), (16, .int .i64 (O .len ys)), (17, .int .i64 i2)], [(308, ⟨g0, .rw, .map, .int .i64 tk2 :: ac2⟩)], false⟩ ∧ i2 = k2 ∧ k2 ≤ l.length ∧ n = l.length - k2 ∧ ac2 = ((l.take k2).foldl insS ((L.take k).flatten.foldl insS [])).map ent) ⟨_, _, ⟨_, 0, _, _, rfl, rfl, by omega, rfl, by simpa using hac⟩, ⟨⟨rfl, rfl, rfl, rfl, rfl, rfl, rfl, trivial⟩, ⟨rfl, trivial⟩, rfl⟩⟩ ?_
    rintro J2 up2 n2 d ⟨i2, k2, ac2, tk2, rfl, hi2, hk2, rfl, hac2⟩
    conv => cbv
    rintro (_ | _) h2
    · replace h2 := f_lss hO h2
      rw [hlen2] at h2
      conv => cbv
      refine ⟨_, _, up _ _ ⟨_, k + 1, ac2, tk2, rfl, ?_, by omega, rfl, ?_⟩, ⟨⟨rfl, rfl, rfl, rfl, trivial⟩, ⟨rfl, trivial⟩, rfl⟩, by omega⟩
      · rw [o_add64 hO (by omega) (by omega)]; omega
      · have e3 : l.take k2 = l := List.take_of_length_le (by omega)
        rw [hac2, foldl_flat hy, e3]
    · replace h2 := t_lss hO h2
      rw [hlen2] at h2
      conv => cbv
      obtain ⟨y, hy2⟩ : ∃ y, l[k2]? = some y := ⟨_, List.getElem?_eq_getElem (by omega)⟩
      refine ⟨mkS y, atX_map hy2 hys hi2, ?_⟩
      conv => cbv
      obtain ⟨ac3, hac3⟩ : ∃ ac3, ac3 = (insS ((l.take k2).foldl insS ((L.take k).flatten.foldl insS [])) y).map ent := ⟨_, rfl⟩
      refine ⟨ac3, by rw [hac2, hac3]; exact mput_ent _ _, fun c => ?_⟩
      conv => cbv
      refine ⟨_, _, up2 _ _ ⟨_, k2 + 1, ac3, c, rfl, ?_, by omega, rfl, ?_⟩, ⟨⟨rfl, rfl, rfl, rfl, rfl, rfl, rfl, trivial⟩, ⟨rfl, trivial⟩, rfl⟩, by omega⟩
      · rw [o_add64 hO (by omega) (by omega)]; omega
      · rw [hac3, foldl_take' hy2]
end Go.Proofs.AM
