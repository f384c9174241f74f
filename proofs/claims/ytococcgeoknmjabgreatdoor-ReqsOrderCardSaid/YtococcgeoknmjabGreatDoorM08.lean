/- Part 8 of the lemmas: BTryLay, PVa, PVb, PVd. -/
import Derived.Shelf.LaysM
import Derived.Shelf.LaysC
import Derived.Shelf.Strconv.Itoa4
import Derived.Shelf.Strconv.ParseInt10All
import Derived.Shelf.Strconv.ParseIntPublic10
import Derived.Shelf.Strconv.ErrVarParseInt
import Derived.Shelf.SlIter.Nil
import Derived.Shelf.SortM.Plain
import Derived.Shelf.SortM.SortNone
import Derived.Ground.GgzProg
import Derived.Ground.SlgmProg
import Derived.Test.YtococcgeoknmjabGreatDoorProg
import Derived.Test.YtococcgeoknmjabGreatDoorM07
import Derived.Lib.ItoaMem
import Derived.Lib.ParseIntB
namespace Go.Proofs
open Go.Shelf
def Tryz.laysM173_ren : Go.Shelf.Ren := ⟨fun | 173 => 40 | 246 => 59 | 283 => 75 | 284 => 76 | 285 => 77 | 286 => 78 | 129 => 53 | 317 => 87 | 318 => 88 | 319 => 89 | 320 => 90 | 337 => 101 | 338 => 102 | n => n, fun | 2 => 2 | 3 => 3 | 9 => 9 | 4 => 4 | 171 => 123 | 0 => 0 | 53 => 104 | 37 => 67 | 5 => 5 | 173 => 125 | 212 => 139 | 51 => 102 | 20 => 20 | 213 => 140 | 46 => 77 | 232 => 154 | 233 => 155 | n => n, fun | 17 => 3 | 18 => 4 | 19 => 5 | n => n⟩
theorem Tryz.laysM173 : Go.Proofs.LaysM.n173 Tryz.prog Tryz.laysM173_ren := {
  mixed := by kernel_rfl
  f129 := Tryz.func53.trans (congrArg some (by kernel_rfl))
  f173 := Tryz.func40.trans (congrArg some (by kernel_rfl))
  f246 := Tryz.func59.trans (congrArg some (by kernel_rfl))
  f283 := Tryz.func75.trans (congrArg some (by kernel_rfl))
  f284 := Tryz.func76.trans (congrArg some (by kernel_rfl))
  f285 := Tryz.func77.trans (congrArg some (by kernel_rfl))
  f286 := Tryz.func78.trans (congrArg some (by kernel_rfl))
  f317 := Tryz.func87.trans (congrArg some (by kernel_rfl))
  f318 := Tryz.func88.trans (congrArg some (by kernel_rfl))
  f319 := Tryz.func89.trans (congrArg some (by kernel_rfl))
  f320 := Tryz.func90.trans (congrArg some (by kernel_rfl))
  f337 := Tryz.func101.trans (congrArg some (by kernel_rfl))
  f338 := Tryz.func102.trans (congrArg some (by kernel_rfl))
  t0 := Tryz.underlying0
  a0 := Tryz.isAgg0
  z0 := Tryz.sizeOf0
  v0 := Tryz.zeroValue0
  t2 := Tryz.underlying2
  a2 := Tryz.isAgg2
  z2 := Tryz.sizeOf2
  v2 := Tryz.zeroValue2
  t3 := Tryz.underlying3
  a3 := Tryz.isAgg3
  z3 := Tryz.sizeOf3
  v3 := Tryz.zeroValue3
  t4 := Tryz.underlying4
  a4 := Tryz.isAgg4
  z4 := Tryz.sizeOf4
  v4 := Tryz.zeroValue4
  t5 := Tryz.underlying5
  a5 := Tryz.isAgg5
  z5 := Tryz.sizeOf5
  v5 := Tryz.zeroValue5
  t9 := Tryz.underlying9
  a9 := Tryz.isAgg9
  z9 := Tryz.sizeOf9
  v9 := Tryz.zeroValue9
  t20 := Tryz.underlying20
  a20 := Tryz.isAgg20
  z20 := Tryz.sizeOf20
  v20 := Tryz.zeroValue20
  t37 := Tryz.underlying67
  a37 := Tryz.isAgg67
  z37 := Tryz.sizeOf67
  v37 := Tryz.zeroValue67
  t46 := Tryz.underlying77
  a46 := Tryz.isAgg77
  z46 := Tryz.sizeOf77
  v46 := Tryz.zeroValue77
  t51 := Tryz.underlying102
  a51 := Tryz.isAgg102
  z51 := Tryz.sizeOf102
  v51 := Tryz.zeroValue102
  t53 := Tryz.underlying104
  a53 := Tryz.isAgg104
  z53 := Tryz.sizeOf104
  v53 := Tryz.zeroValue104
  t171 := Tryz.underlying123
  a171 := Tryz.isAgg123
  z171 := Tryz.sizeOf123
  v171 := Tryz.zeroValue123
  t173 := Tryz.underlying125
  a173 := Tryz.isAgg125
  z173 := Tryz.sizeOf125
  v173 := Tryz.zeroValue125
  t212 := Tryz.underlying139
  a212 := Tryz.isAgg139
  z212 := Tryz.sizeOf139
  v212 := Tryz.zeroValue139
  t213 := Tryz.underlying140
  a213 := Tryz.isAgg140
  z213 := Tryz.sizeOf140
  t232 := Tryz.underlying154
  a232 := Tryz.isAgg154
  z232 := Tryz.sizeOf154
  v232 := Tryz.zeroValue154
  t233 := Tryz.underlying155
  a233 := Tryz.isAgg155
  z233 := Tryz.sizeOf155
  v233 := Tryz.zeroValue155
  g17 := by kernel_rfl
  g18 := by kernel_rfl
  g19 := by kernel_rfl
  i0 := by kernel_rfl
  i2 := by kernel_rfl
  i3 := by kernel_rfl
  i4 := by kernel_rfl
  i5 := by kernel_rfl
  i9 := by kernel_rfl
  i20 := by kernel_rfl
  i37 := by kernel_rfl
  i46 := by kernel_rfl
  i51 := by kernel_rfl
  i53 := by kernel_rfl
  i171 := by kernel_rfl
  i173 := by kernel_rfl
  i212 := by kernel_rfl
  i232 := by kernel_rfl
  i233 := by kernel_rfl
  m17 := by kernel_rfl
  m18 := by kernel_rfl
  m19 := by kernel_rfl }
def Tryz.laysC174_ren : Go.Shelf.Ren := ⟨fun | 174 => 39 | 247 => 57 | 245 => 58 | 287 => 70 | 279 => 71 | 280 => 72 | 281 => 73 | 282 => 74 | 321 => 82 | 322 => 83 | 316 => 84 | 171 => 86 | 205 => 85 | 243 => 100 | 246 => 59 | 283 => 75 | 284 => 76 | 285 => 77 | 286 => 78 | 129 => 53 | 317 => 87 | 318 => 88 | 319 => 89 | 320 => 90 | 337 => 101 | 338 => 102 | n => n, fun | 9 => 9 | 3 => 3 | 2 => 2 | 75 => 83 | 85 => 84 | 4 => 4 | 167 => 116 | 5 => 5 | 53 => 104 | 175 => 117 | 46 => 77 | 168 => 119 | 37 => 67 | 0 => 0 | 210 => 135 | 21 => 21 | 127 => 148 | 145 => 151 | 143 => 149 | 171 => 123 | 173 => 125 | 212 => 139 | 51 => 102 | 20 => 20 | 213 => 140 | 232 => 154 | 233 => 155 | 80 => 157 | n => n, fun | 15 => 1 | 16 => 2 | 17 => 3 | 18 => 4 | 19 => 5 | n => n⟩
theorem Tryz.laysC174 : Go.Proofs.LaysC.n174 Tryz.prog Tryz.laysC174_ren := {
  mixed := by kernel_rfl
  f129 := Tryz.func53.trans (congrArg some (by kernel_rfl))
  f171 := Tryz.func86.trans (congrArg some (by kernel_rfl))
  f174 := Tryz.func39.trans (congrArg some (by kernel_rfl))
  f205 := Tryz.func85.trans (congrArg some (by kernel_rfl))
  f243 := Tryz.func100.trans (congrArg some (by kernel_rfl))
  f245 := Tryz.func58.trans (congrArg some (by kernel_rfl))
  f246 := Tryz.func59.trans (congrArg some (by kernel_rfl))
  f247 := Tryz.func57.trans (congrArg some (by kernel_rfl))
  f279 := Tryz.func71.trans (congrArg some (by kernel_rfl))
  f280 := Tryz.func72.trans (congrArg some (by kernel_rfl))
  f281 := Tryz.func73.trans (congrArg some (by kernel_rfl))
  f282 := Tryz.func74.trans (congrArg some (by kernel_rfl))
  f283 := Tryz.func75.trans (congrArg some (by kernel_rfl))
  f284 := Tryz.func76.trans (congrArg some (by kernel_rfl))
  f285 := Tryz.func77.trans (congrArg some (by kernel_rfl))
  f286 := Tryz.func78.trans (congrArg some (by kernel_rfl))
  f287 := Tryz.func70.trans (congrArg some (by kernel_rfl))
  f316 := Tryz.func84.trans (congrArg some (by kernel_rfl))
  f317 := Tryz.func87.trans (congrArg some (by kernel_rfl))
  f318 := Tryz.func88.trans (congrArg some (by kernel_rfl))
  f319 := Tryz.func89.trans (congrArg some (by kernel_rfl))
  f320 := Tryz.func90.trans (congrArg some (by kernel_rfl))
  f321 := Tryz.func82.trans (congrArg some (by kernel_rfl))
  f322 := Tryz.func83.trans (congrArg some (by kernel_rfl))
  f337 := Tryz.func101.trans (congrArg some (by kernel_rfl))
  f338 := Tryz.func102.trans (congrArg some (by kernel_rfl))
  t0 := Tryz.underlying0
  a0 := Tryz.isAgg0
  z0 := Tryz.sizeOf0
  v0 := Tryz.zeroValue0
  t2 := Tryz.underlying2
  a2 := Tryz.isAgg2
  z2 := Tryz.sizeOf2
  v2 := Tryz.zeroValue2
  t3 := Tryz.underlying3
  a3 := Tryz.isAgg3
  z3 := Tryz.sizeOf3
  v3 := Tryz.zeroValue3
  t4 := Tryz.underlying4
  a4 := Tryz.isAgg4
  z4 := Tryz.sizeOf4
  v4 := Tryz.zeroValue4
  t5 := Tryz.underlying5
  a5 := Tryz.isAgg5
  z5 := Tryz.sizeOf5
  v5 := Tryz.zeroValue5
  t9 := Tryz.underlying9
  a9 := Tryz.isAgg9
  z9 := Tryz.sizeOf9
  v9 := Tryz.zeroValue9
  t20 := Tryz.underlying20
  a20 := Tryz.isAgg20
  z20 := Tryz.sizeOf20
  v20 := Tryz.zeroValue20
  t21 := Tryz.underlying21
  a21 := Tryz.isAgg21
  z21 := Tryz.sizeOf21
  v21 := Tryz.zeroValue21
  t37 := Tryz.underlying67
  a37 := Tryz.isAgg67
  z37 := Tryz.sizeOf67
  v37 := Tryz.zeroValue67
  t46 := Tryz.underlying77
  a46 := Tryz.isAgg77
  z46 := Tryz.sizeOf77
  v46 := Tryz.zeroValue77
  t51 := Tryz.underlying102
  a51 := Tryz.isAgg102
  z51 := Tryz.sizeOf102
  v51 := Tryz.zeroValue102
  t53 := Tryz.underlying104
  a53 := Tryz.isAgg104
  z53 := Tryz.sizeOf104
  v53 := Tryz.zeroValue104
  t75 := Tryz.underlying83
  a75 := Tryz.isAgg83
  z75 := Tryz.sizeOf83
  v75 := Tryz.zeroValue83
  t85 := Tryz.underlying84
  a85 := Tryz.isAgg84
  z85 := Tryz.sizeOf84
  v85 := Tryz.zeroValue84
  t127 := Tryz.underlying148
  a127 := Tryz.isAgg148
  z127 := Tryz.sizeOf148
  v127 := Tryz.zeroValue148
  t143 := Tryz.underlying149
  a143 := Tryz.isAgg149
  z143 := Tryz.sizeOf149
  v143 := Tryz.zeroValue149
  t145 := Tryz.underlying151
  a145 := Tryz.isAgg151
  z145 := Tryz.sizeOf151
  v145 := Tryz.zeroValue151
  t167 := Tryz.underlying116
  a167 := Tryz.isAgg116
  z167 := Tryz.sizeOf116
  v167 := Tryz.zeroValue116
  t168 := Tryz.underlying119
  a168 := Tryz.isAgg119
  z168 := Tryz.sizeOf119
  v168 := Tryz.zeroValue119
  t171 := Tryz.underlying123
  a171 := Tryz.isAgg123
  z171 := Tryz.sizeOf123
  v171 := Tryz.zeroValue123
  t173 := Tryz.underlying125
  a173 := Tryz.isAgg125
  z173 := Tryz.sizeOf125
  v173 := Tryz.zeroValue125
  t175 := Tryz.underlying117
  a175 := Tryz.isAgg117
  z175 := Tryz.sizeOf117
  v175 := Tryz.zeroValue117
  t210 := Tryz.underlying135
  a210 := Tryz.isAgg135
  z210 := Tryz.sizeOf135
  v210 := Tryz.zeroValue135
  t212 := Tryz.underlying139
  a212 := Tryz.isAgg139
  z212 := Tryz.sizeOf139
  v212 := Tryz.zeroValue139
  t213 := Tryz.underlying140
  a213 := Tryz.isAgg140
  z213 := Tryz.sizeOf140
  t232 := Tryz.underlying154
  a232 := Tryz.isAgg154
  z232 := Tryz.sizeOf154
  v232 := Tryz.zeroValue154
  t233 := Tryz.underlying155
  a233 := Tryz.isAgg155
  z233 := Tryz.sizeOf155
  v233 := Tryz.zeroValue155
  g15 := by kernel_rfl
  g16 := by kernel_rfl
  g17 := by kernel_rfl
  g18 := by kernel_rfl
  g19 := by kernel_rfl
  t80 := Tryz.underlying157
  a80 := Tryz.isAgg157
  z80 := Tryz.sizeOf157
  v80 := Tryz.zeroValue157
  i0 := by kernel_rfl
  i2 := by kernel_rfl
  i3 := by kernel_rfl
  i4 := by kernel_rfl
  i5 := by kernel_rfl
  i9 := by kernel_rfl
  i20 := by kernel_rfl
  i21 := by kernel_rfl
  i37 := by kernel_rfl
  i46 := by kernel_rfl
  i51 := by kernel_rfl
  i53 := by kernel_rfl
  i75 := by kernel_rfl
  i80 := by kernel_rfl
  i85 := by kernel_rfl
  i127 := by kernel_rfl
  i143 := by kernel_rfl
  i145 := by kernel_rfl
  i167 := by kernel_rfl
  i168 := by kernel_rfl
  i171 := by kernel_rfl
  i173 := by kernel_rfl
  i175 := by kernel_rfl
  i210 := by kernel_rfl
  i212 := by kernel_rfl
  i232 := by kernel_rfl
  i233 := by kernel_rfl
  m15 := by kernel_rfl
  m16 := by kernel_rfl
  m17 := by kernel_rfl
  m18 := by kernel_rfl
  m19 := by kernel_rfl
  c0 := by kernel_rfl
  c2 := by kernel_rfl
  c3 := by kernel_rfl
  c4 := by kernel_rfl
  c5 := by kernel_rfl
  c9 := by kernel_rfl
  c20 := by kernel_rfl
  c21 := by kernel_rfl
  c37 := by kernel_rfl
  c46 := by kernel_rfl
  c51 := by kernel_rfl
  c53 := by kernel_rfl
  c75 := by kernel_rfl
  c80 := by kernel_rfl
  c85 := by kernel_rfl
  c127 := by kernel_rfl
  c143 := by kernel_rfl
  c145 := by kernel_rfl
  c167 := by kernel_rfl
  c168 := by kernel_rfl
  c171 := by kernel_rfl
  c173 := by kernel_rfl
  c175 := by kernel_rfl
  c210 := by kernel_rfl
  c212 := by kernel_rfl
  c213 := by kernel_rfl
  c232 := by kernel_rfl
  c233 := by kernel_rfl }
def Tryz.keysL_ren : Go.Shelf.Ren := ⟨fun | 7 => 43 | 10 => 63 | n => n, fun | 23 => 71 | 26 => 9 | 3 => 4 | 28 => 91 | 0 => 0 | 27 => 90 | 33 => 51 | 4 => 4 | n => n, fun | n => n⟩
theorem Tryz.keysL : Go.Proofs.SlLaysZ.n7 Tryz.prog Tryz.keysL_ren := {
  mixed := by kernel_rfl
  f7 := ⟨Tryz.f43.name, by decide, Tryz.func43.trans (congrArg some (by kernel_rfl))⟩
  f10 := ⟨Tryz.f63.name, by decide, Tryz.func63.trans (congrArg some (by kernel_rfl))⟩
  t0 := Tryz.underlying0
  a0 := Tryz.isAgg0
  z0 := Tryz.sizeOf0
  v0 := Tryz.zeroValue0
  t4 := Tryz.underlying4
  a4 := Tryz.isAgg4
  z4 := Tryz.sizeOf4
  v4 := Tryz.zeroValue4
  t23 := Tryz.underlying71
  a23 := Tryz.isAgg71
  z23 := Tryz.sizeOf71
  v23 := Tryz.zeroValue71
  t26 := Tryz.underlying9
  a26 := Tryz.isAgg9
  z26 := Tryz.sizeOf9
  v26 := Tryz.zeroValue9
  t27 := Tryz.underlying90
  a27 := Tryz.isAgg90
  z27 := Tryz.sizeOf90
  v27 := Tryz.zeroValue90
  t28 := Tryz.underlying91
  a28 := Tryz.isAgg91
  z28 := Tryz.sizeOf91
  v28 := Tryz.zeroValue91
  t33 := Tryz.underlying51
  a33 := Tryz.isAgg51
  z33 := Tryz.sizeOf51
  v33 := Tryz.zeroValue51 }
def Tryz.sortedL_ren : Go.Shelf.Ren := ⟨fun | 6 => 42 | 8 => 61 | 9 => 62 | 11 => 79 | 13 => 34 | 12 => 80 | 23 => 52 | 24 => 53 | 14 => 91 | 15 => 92 | 16 => 93 | 17 => 94 | 18 => 95 | 19 => 96 | 20 => 97 | 21 => 98 | 22 => 99 | 25 => 103 | 26 => 65 | 27 => 66 | 28 => 104 | 29 => 105 | 30 => 106 | 31 => 107 | n => n, fun | 26 => 9 | 28 => 91 | 24 => 33 | 0 => 0 | 3 => 3 | 37 => 77 | 48 => 102 | 50 => 104 | 4 => 4 | 40 => 95 | 39 => 94 | 45 => 99 | 5 => 5 | 9 => 9 | 51 => 109 | 55 => 113 | 57 => 129 | 58 => 130 | 33 => 51 | n => n, fun | n => n⟩
theorem Tryz.sortedL : Go.Proofs.SlLaysZ.n6 Tryz.prog Tryz.sortedL_ren := {
  mixed := by kernel_rfl
  f6 := ⟨Tryz.f42.name, by decide, Tryz.func42.trans (congrArg some (by kernel_rfl))⟩
  f8 := ⟨Tryz.f61.name, by decide, Tryz.func61.trans (congrArg some (by kernel_rfl))⟩
  f11 := ⟨Tryz.f79.name, by decide, Tryz.func79.trans (congrArg some (by kernel_rfl))⟩
  t0 := Tryz.underlying0
  a0 := Tryz.isAgg0
  z0 := Tryz.sizeOf0
  v0 := Tryz.zeroValue0
  t24 := Tryz.underlying33
  a24 := Tryz.isAgg33
  z24 := Tryz.sizeOf33
  v24 := Tryz.zeroValue33
  t26 := Tryz.underlying9
  a26 := Tryz.isAgg9
  z26 := Tryz.sizeOf9
  v26 := Tryz.zeroValue9
  t28 := Tryz.underlying91
  a28 := Tryz.isAgg91
  z28 := Tryz.sizeOf91
  v28 := Tryz.zeroValue91
  i26 := by kernel_rfl }
def Tryz.sortL_ren : Go.Shelf.Ren := ⟨fun | 6 => 62 | 8 => 34 | 9 => 80 | 19 => 52 | 20 => 53 | 21 => 91 | 22 => 92 | 23 => 93 | 24 => 94 | 25 => 95 | 26 => 96 | 27 => 97 | 28 => 98 | 29 => 99 | 36 => 103 | 31 => 65 | 32 => 66 | 37 => 104 | 38 => 105 | 39 => 106 | 41 => 107 | n => n, fun | 27 => 33 | 29 => 9 | 3 => 3 | 32 => 77 | 26 => 33 | 0 => 0 | 44 => 102 | 46 => 104 | 4 => 4 | 36 => 95 | 35 => 94 | 41 => 99 | 5 => 5 | 9 => 9 | 53 => 109 | 57 => 113 | 63 => 129 | 64 => 130 | n => n, fun | n => n⟩
theorem Tryz.sortL : Go.Proofs.SlLaysM.n6 Tryz.prog Tryz.sortL_ren := {
  mixed := by kernel_rfl
  f6 := ⟨Tryz.f62.name, by decide, Tryz.func62.trans (congrArg some (by kernel_rfl))⟩
  f8 := Tryz.func34.trans (congrArg some (by kernel_rfl))
  f9 := ⟨Tryz.f80.name, by decide, Tryz.func80.trans (congrArg some (by kernel_rfl))⟩
  f19 := Tryz.func52.trans (congrArg some (by kernel_rfl))
  f20 := Tryz.func53.trans (congrArg some (by kernel_rfl))
  f21 := ⟨Tryz.f91.name, by decide, Tryz.func91.trans (congrArg some (by kernel_rfl))⟩
  f22 := ⟨Tryz.f92.name, by decide, Tryz.func92.trans (congrArg some (by kernel_rfl))⟩
  f23 := ⟨Tryz.f93.name, by decide, Tryz.func93.trans (congrArg some (by kernel_rfl))⟩
  f24 := ⟨Tryz.f94.name, by decide, Tryz.func94.trans (congrArg some (by kernel_rfl))⟩
  f25 := ⟨Tryz.f95.name, by decide, Tryz.func95.trans (congrArg some (by kernel_rfl))⟩
  f26 := ⟨Tryz.f96.name, by decide, Tryz.func96.trans (congrArg some (by kernel_rfl))⟩
  f27 := ⟨Tryz.f97.name, by decide, Tryz.func97.trans (congrArg some (by kernel_rfl))⟩
  f28 := ⟨Tryz.f98.name, by decide, Tryz.func98.trans (congrArg some (by kernel_rfl))⟩
  f29 := ⟨Tryz.f99.name, by decide, Tryz.func99.trans (congrArg some (by kernel_rfl))⟩
  f31 := Tryz.func65.trans (congrArg some (by kernel_rfl))
  f32 := Tryz.func66.trans (congrArg some (by kernel_rfl))
  f36 := ⟨Tryz.f103.name, by decide, Tryz.func103.trans (congrArg some (by kernel_rfl))⟩
  f37 := ⟨Tryz.f104.name, by decide, Tryz.func104.trans (congrArg some (by kernel_rfl))⟩
  f38 := ⟨Tryz.f105.name, by decide, Tryz.func105.trans (congrArg some (by kernel_rfl))⟩
  f39 := ⟨Tryz.f106.name, by decide, Tryz.func106.trans (congrArg some (by kernel_rfl))⟩
  f41 := ⟨Tryz.f107.name, by decide, Tryz.func107.trans (congrArg some (by kernel_rfl))⟩
  t0 := Tryz.underlying0
  a0 := Tryz.isAgg0
  z0 := Tryz.sizeOf0
  v0 := Tryz.zeroValue0
  t3 := Tryz.underlying3
  a3 := Tryz.isAgg3
  z3 := Tryz.sizeOf3
  v3 := Tryz.zeroValue3
  t4 := Tryz.underlying4
  a4 := Tryz.isAgg4
  z4 := Tryz.sizeOf4
  v4 := Tryz.zeroValue4
  t5 := Tryz.underlying5
  a5 := Tryz.isAgg5
  z5 := Tryz.sizeOf5
  v5 := Tryz.zeroValue5
  t9 := Tryz.underlying9
  a9 := Tryz.isAgg9
  z9 := Tryz.sizeOf9
  v9 := Tryz.zeroValue9
  t26 := Tryz.underlying33
  a26 := Tryz.isAgg33
  z26 := Tryz.sizeOf33
  v26 := Tryz.zeroValue33
  t27 := Tryz.underlying33
  a27 := Tryz.isAgg33
  z27 := Tryz.sizeOf33
  v27 := Tryz.zeroValue33
  t29 := Tryz.underlying9
  a29 := Tryz.isAgg9
  z29 := Tryz.sizeOf9
  v29 := Tryz.zeroValue9
  t32 := Tryz.underlying77
  a32 := Tryz.isAgg77
  z32 := Tryz.sizeOf77
  v32 := Tryz.zeroValue77
  t35 := Tryz.underlying94
  a35 := Tryz.isAgg94
  z35 := Tryz.sizeOf94
  v35 := Tryz.zeroValue94
  t36 := Tryz.underlying95
  a36 := Tryz.isAgg95
  z36 := Tryz.sizeOf95
  v36 := Tryz.zeroValue95
  t41 := Tryz.underlying99
  a41 := Tryz.isAgg99
  z41 := Tryz.sizeOf99
  v41 := Tryz.zeroValue99
  t44 := Tryz.underlying102
  a44 := Tryz.isAgg102
  z44 := Tryz.sizeOf102
  v44 := Tryz.zeroValue102
  t46 := Tryz.underlying104
  a46 := Tryz.isAgg104
  z46 := Tryz.sizeOf104
  v46 := Tryz.zeroValue104
  t53 := Tryz.underlying109
  a53 := Tryz.isAgg109
  z53 := Tryz.sizeOf109
  v53 := Tryz.zeroValue109
  t57 := Tryz.underlying113
  a57 := Tryz.isAgg113
  z57 := Tryz.sizeOf113
  v57 := Tryz.zeroValue113
  t63 := Tryz.underlying129
  a63 := Tryz.isAgg129
  z63 := Tryz.sizeOf129
  v63 := Tryz.zeroValue129
  t64 := Tryz.underlying130
  a64 := Tryz.isAgg130
  z64 := Tryz.sizeOf130
  v64 := Tryz.zeroValue130 }
end Go.Proofs
namespace Go.Proofs.AM
open Go Go.Lib
def least : Int := -2147483648
def most : Int := 2147483648
def digv (a : Nat) (c : UInt8) : Nat := if 48 ≤ c.toNat ∧ c.toNat ≤ 57 then a * 10 + (c.toNat - 48) else a
def dig (s : Str) : Nat := s.foldl digv 0
def valS (s : Str) : Int := if s[0]? = some 45 then -(dig s : Int) else dig s
theorem dg_byte {d : Nat} (h : d < 10) : (UInt8.ofNat (48 + d)).toNat = 48 + d := by
  rw [UInt8.toNat_ofNat']
  omega
theorem decDigits_small {u : Nat} (h : u < 10) : decDigits u = [UInt8.ofNat (48 + u)] := by rw [decDigits, dif_pos h]
theorem decDigits_big {u : Nat} (h : ¬ u < 10) : decDigits u = decDigits (u / 10) ++ [UInt8.ofNat (48 + u % 10)] := by rw [decDigits, dif_neg h]
theorem foldl_dec (u : Nat) : (decDigits u).foldl digv 0 = u := by
  induction u using Nat.strongRecOn with
  | _ u ih =>
    by_cases h : u < 10
    · rw [decDigits_small h]
      simp only [List.foldl_cons, List.foldl_nil, digv, dg_byte h]
      rw [if_pos (by omega)]
      omega
    · rw [decDigits_big h, List.foldl_append, ih (u / 10) (by omega)]
      simp only [List.foldl_cons, List.foldl_nil, digv, dg_byte (show u % 10 < 10 by omega)]
      rw [if_pos (by omega)]
      omega
theorem decDigits_mem (u : Nat) : ∀ c ∈ decDigits u, 48 ≤ c.toNat ∧ c.toNat ≤ 57 := by
  induction u using Nat.strongRecOn with
  | _ u ih =>
    intro c hc
    by_cases h : u < 10
    · rw [decDigits_small h] at hc
      simp only [List.mem_singleton] at hc
      subst hc
      rw [dg_byte h]; omega
    · rw [decDigits_big h] at hc
      rcases List.mem_append.1 hc with hc | hc
      · exact ih (u / 10) (by omega) c hc
      · simp only [List.mem_singleton] at hc
        subst hc
        rw [dg_byte (show u % 10 < 10 by omega)]; omega
theorem decDigits_ne (u : Nat) : decDigits u ≠ [] := by
  by_cases h : u < 10
  · rw [decDigits_small h]; simp
  · rw [decDigits_big h]; simp
theorem decDigits_le : ∀ (k u : Nat), u < 10 ^ (k + 1) → (decDigits u).length ≤ k + 1
  | 0, u, h => by rw [decDigits_small (by simpa using h)]; simp
  | k + 1, u, h => by
    by_cases h2 : u < 10
    · rw [decDigits_small h2]; simp
    · rw [decDigits_big h2]
      have := decDigits_le k (u / 10) (by rw [Nat.pow_succ] at h; omega)
      simp; omega
theorem decDigits_inj {a b : Nat} (h : decDigits a = decDigits b) : a = b := by rw [← foldl_dec a, ← foldl_dec b, h]
theorem itoa_neg' {n : Int} (h : n < 0) : itoa n = 45 :: decDigits n.natAbs := by unfold itoa; rw [if_pos h]
theorem itoa_pos' {n : Int} (h : 0 ≤ n) : itoa n = decDigits n.natAbs := by
  unfold itoa
  rw [if_neg (by omega), show n.toNat = n.natAbs by omega]
theorem itoa_le {n : Int} (h1 : least ≤ n) (h2 : n ≤ most) : (itoa n).length ≤ 11 := by
  unfold least at h1
  unfold most at h2
  have := decDigits_le 9 n.natAbs (by have : (10 : Nat) ^ 10 = 10000000000 := by decide
                                      omega)
  by_cases h : n < 0
  · rw [itoa_neg' h]; simp; omega
  · rw [itoa_pos' (by omega)]; omega
theorem head_dec (u : Nat) : (decDigits u)[0]? ≠ some 45 := by
  intro h
  have := decDigits_mem u 45 (List.mem_of_getElem? h)
  revert this
  decide
theorem valS_itoa (n : Int) : valS (itoa n) = n := by
  unfold valS
  by_cases h : n < 0
  · rw [itoa_neg' h]
    rw [if_pos (by simp)]
    have : dig (45 :: decDigits n.natAbs) = n.natAbs := by
      unfold dig
      rw [List.foldl_cons]
      have : digv 0 45 = 0 := by decide
      rw [this, foldl_dec]
    rw [this]
    omega
  · rw [itoa_pos' (by omega), if_neg (head_dec _)]
    unfold dig
    rw [foldl_dec]
    omega
theorem itoa_inj {a b : Int} (h : itoa a = itoa b) : a = b := by rw [← valS_itoa a, ← valS_itoa b, h]
def NumP (s : Str) (n : Int) : Prop := s = itoa n ∧ least ≤ n ∧ n ≤ most
def numS (s : Str) : Option Int := if itoa (valS s) = s ∧ least ≤ valS s ∧ valS s ≤ most then some (valS s) else none
theorem numS_iff {s : Str} {n : Int} : numS s = some n ↔ NumP s n := by
  unfold numS NumP
  constructor
  · intro h
    split at h
    · rename_i hc
      simp only [Option.some.injEq] at h
      subst h
      exact ⟨hc.1.symm, hc.2⟩
    · simp at h
  · rintro ⟨rfl, h1, h2⟩
    rw [valS_itoa, if_pos ⟨rfl, h1, h2⟩]
theorem numS_itoa {n : Int} (h1 : least ≤ n) (h2 : n ≤ most) : numS (itoa n) = some n := numS_iff.2 ⟨rfl, h1, h2⟩
theorem numS_len {s : Str} {n : Int} (h : numS s = some n) : s.length ≤ 11 := by
  obtain ⟨rfl, h1, h2⟩ := numS_iff.1 h
  exact itoa_le h1 h2
theorem parseUintM_digits : ∀ (l : List UInt8) (acc : Nat), (∀ c ∈ l, 48 ≤ c.toNat ∧ c.toNat ≤ 57) → (l.foldl digv acc < 1844674407370955162) → parseUintM 18446744073709551615 acc l = .ok (l.foldl digv acc)
  | [], acc, _, _ => rfl
  | c :: r, acc, hd, hlt => by
    have hc := hd c (by simp)
    have hmono : ∀ (l : List UInt8) (a : Nat), a ≤ l.foldl digv a := by
      intro l
      induction l with
      | nil => intro a; exact Nat.le_refl _
      | cons x r ih =>
        intro a
        rw [List.foldl_cons]
        refine Nat.le_trans ?_ (ih _)
        unfold digv
        split <;> omega
    rw [List.foldl_cons] at hlt ⊢
    have h1 : digv acc c = acc * 10 + (c.toNat - 48) := by unfold digv; rw [if_pos hc]
    have h2 := hmono r (digv acc c)
    rw [h1] at h2 hlt ⊢
    rw [parseUintM, if_pos hc, if_neg (by omega), if_neg (by omega)]
    rw [parseUintM_digits r _ (fun x hx => hd x (by simp [hx])) hlt]
theorem parse_itoa {n : Int} (h1 : least ≤ n) (h2 : n ≤ most) : parseIntB 64 (itoa n) = .ok n := by
  unfold least at h1
  unfold most at h2
  have hp : (2 : Nat) ^ 64 - 1 = 18446744073709551615 := by decide
  have hq : (2 : Nat) ^ (64 - 1) = 9223372036854775808 := by decide
  have hu : ∀ u : Nat, u < 1844674407370955162 → parseUintB 64 (decDigits u) = .ok u := by
    intro u hu
    unfold parseUintB
    rw [if_neg (decDigits_ne u), hp, parseUintM_digits _ _ (decDigits_mem u) (by rw [foldl_dec]; exact hu), foldl_dec]
  by_cases h : n < 0
  · rw [itoa_neg' h]
    unfold parseIntB
    simp only
    rw [if_pos (by decide), hu _ (by omega)]
    simp only
    rw [hq, if_neg (by simp), if_neg (by omega), if_pos (by decide)]
    congr 1
    omega
  · rw [itoa_pos' (by omega)]
    cases hd : decDigits n.natAbs with
    | nil => exact absurd hd (decDigits_ne _)
    | cons c r =>
      have hc := decDigits_mem n.natAbs c (by rw [hd]; simp)
      unfold parseIntB
      simp only
      rw [if_neg (by omega), ← hd, hu _ (by omega)]
      simp only
      rw [hq, if_neg (by omega), if_neg (by omega), if_neg (by omega)]
      congr 1
      omega
def small (c : UInt8) : Prop := 97 ≤ c.toNat ∧ c.toNat ≤ 122
def okc (c : UInt8) : Prop := small c ∨ (48 ≤ c.toNat ∧ c.toNat ≤ 57) ∨ c.toNat = 46 ∨ c.toNat = 45
instance (c : UInt8) : Decidable (small c) := by unfold small; exact inferInstance
instance (c : UInt8) : Decidable (okc c) := by unfold okc; exact inferInstance
def NameP (s : Str) : Prop := 1 ≤ s.length ∧ s.length ≤ 16 ∧ ∀ (i : Nat) (c : UInt8), s[i]? = some c → okc c ∧ (i = 0 → small c)
open Classical in
noncomputable def nameB (s : Str) : Bool := decide (NameP s)
open Classical in
noncomputable def valueB (s : Str) : Bool := decide (NameP s ∨ numS s ≠ none)
theorem valueB_or (s : Str) : valueB s = (nameB s || (numS s).isSome) := by
  unfold valueB nameB
  cases numS s <;> simp
theorem nameB_false {s : Str} {k : Nat} {c : UInt8} (hc : s[k]? = some c) (h : ¬ (okc c ∧ (k = 0 → small c))) : nameB s = false := by
  unfold nameB
  simp only [decide_eq_false_iff_not]
  exact fun hn => h (hn.2.2 k c hc)
theorem nameB_len {s : Str} (h : ¬ (1 ≤ s.length ∧ s.length ≤ 16)) : nameB s = false := by
  unfold nameB
  simp only [decide_eq_false_iff_not]
  exact fun hn => h ⟨hn.1, hn.2.1⟩
theorem nameB_true {s : Str} (h1 : 1 ≤ s.length) (h2 : s.length ≤ 16) (h : ∀ (i : Nat) (c : UInt8), s[i]? = some c → okc c ∧ (i = 0 → small c)) : nameB s = true := by
  unfold nameB
  simp only [decide_eq_true_eq]
  exact ⟨h1, h2, h⟩
theorem num_not_name {s : Str} {n : Int} (h : numS s = some n) : ¬ NameP s := by
  obtain ⟨rfl, _, _⟩ := numS_iff.1 h
  intro hn
  by_cases h0 : n < 0
  · rw [itoa_neg' h0] at hn
    have := (hn.2.2 0 45 (by simp)).2 rfl
    revert this
    decide
  · rw [itoa_pos' (by omega)] at hn
    cases hd : decDigits n.natAbs with
    | nil => exact absurd hd (decDigits_ne _)
    | cons c r =>
      have hc := decDigits_mem n.natAbs c (by rw [hd]; simp)
      have := (hn.2.2 0 c (by rw [hd]; simp)).2 rfl
      unfold small at this
      omega
theorem value_len {s : Str} (h : valueB s = true) : s.length ≤ 16 := by
  unfold valueB at h
  simp only [decide_eq_true_eq] at h
  rcases h with h | h
  · exact h.2.1
  · cases hn : numS s with
    | none => exact absurd hn h
    | some n => have := numS_len hn; omega
def SL (s : Str) : Prop := s.length ≤ 140737488355328
structure FL (l : List Str) : Prop where
  len : l.length ≤ 8796093022208
  all : ∀ s ∈ l, SL s
def FI (n : Int) : Prop := -9223372036854775808 ≤ n ∧ n ≤ 9223372036854775807
structure SetV where
  m : Bool
  n : Bool
  u : Bool
  l : List Str
  lo : Int
  hi : Int
  deriving DecidableEq
def setD (s : SetV) : D := .agg [.bool s.m, .bool s.n, .bool s.u, .sl 1 false (s.l.map mkS), .int .i64 s.lo, .int .i64 s.hi]
structure FS (s : SetV) : Prop where
  l : FL s.l
  lo : FI s.lo
  hi : FI s.hi
theorem SetV.eq_iff {a b : SetV} : a = b ↔ a.m = b.m ∧ a.n = b.n ∧ a.u = b.u ∧ a.lo = b.lo ∧ a.hi = b.hi ∧ a.l = b.l := by
  cases a; cases b; simp only [SetV.mk.injEq]; constructor <;> (rintro ⟨h1, h2, h3, h4, h5, h6⟩; exact ⟨h1, h2, h3, by assumption, by assumption, by assumption⟩)
end Go.Proofs.AM
namespace Go.Proofs.AM
open Go Go.Lib
def Rises (l : List Str) : Prop := l.Pairwise (· < ·)
def putS (x : Str) : List Str → List Str
  | [] => [x]
  | y :: r => if y < x then y :: putS x r else if y = x then y :: r else x :: y :: r
def risingS (l : List Str) : List Str := l.foldl (fun a x => putS x a) []
theorem putS_at (x : Str) : ∀ (l : List Str) (k : Nat), k ≤ l.length → (∀ j y, j < k → l[j]? = some y → y < x) → (∀ y, l[k]? = some y → ¬ y < x) →
    (l[k]? = some x → putS x l = l) ∧ (l[k]? ≠ some x → putS x l = l.take k ++ [x] ++ l.drop k)
  | [], k, hk, _, _ => by
    have : k = 0 := by simpa using hk
    subst this
    simp [putS]
  | y :: r, 0, _, _, h => by
    have hy := h y rfl
    simp only [putS, if_neg hy]
    constructor
    · intro e; simp at e; rw [if_pos e]
    · intro e; simp at e; rw [if_neg e]; simp
  | y :: r, k + 1, hk, hlt, h => by
    have hy := hlt 0 y (by omega) rfl
    obtain ⟨h1, h2⟩ := putS_at x r k (by simpa using hk) (fun j z hj hz => hlt (j + 1) z (by omega) (by simpa using hz)) (fun z hz => h z (by simpa using hz))
    simp only [putS, if_pos hy]
    constructor
    · intro e; rw [h1 (by simpa using e)]
    · intro e; rw [h2 (by simpa using e)]; simp
theorem putS_len (x : Str) : ∀ (l : List Str), (putS x l).length ≤ l.length + 1
  | [] => by simp [putS]
  | y :: r => by
    simp only [putS]
    split
    · have := putS_len x r; simp; omega
    · split <;> simp
theorem putS_mem {x z : Str} : ∀ {l : List Str}, z ∈ putS x l ↔ z = x ∨ z ∈ l
  | [] => by simp [putS]
  | y :: r => by
    simp only [putS]
    split
    · simp only [List.mem_cons, putS_mem (l := r)]
      constructor
      · rintro (h | h | h) <;> simp [h]
      · rintro (h | h | h) <;> simp [h]
    · split
      · rename_i e
        subst e
        simp only [List.mem_cons]
        constructor
        · intro h; exact .inr h
        · rintro (h | h)
          · exact .inl h
          · exact h
      · simp only [List.mem_cons]
theorem lt_irrefl (a : Str) : ¬ a < a := List.lt_irrefl a
theorem lt_trans' {a b c : Str} (h : a < b) (k : b < c) : a < c := List.lt_trans h k
theorem lt_total (a b : Str) : a < b ∨ a = b ∨ b < a := by
  rcases Classical.em (a < b) with h | h
  · exact .inl h
  · rcases Classical.em (b < a) with k | k
    · exact .inr (.inr k)
    · exact .inr (.inl (List.le_antisymm (List.not_lt.1 k) (List.not_lt.1 h)))
theorem putS_rises {x : Str} : ∀ {l : List Str}, Rises l → Rises (putS x l)
  | [], _ => by simp [putS, Rises]
  | y :: r, h => by
    unfold Rises at h ⊢
    rw [List.pairwise_cons] at h
    simp only [putS]
    split
    · rename_i hy
      rw [List.pairwise_cons]
      refine ⟨fun z hz => ?_, putS_rises h.2⟩
      rcases putS_mem.1 hz with rfl | hz
      · exact hy
      · exact h.1 z hz
    · rename_i hy
      split
      · rw [List.pairwise_cons]; exact h
      · rename_i hne
        have hxy : x < y := by
          rcases lt_total x y with k | k | k
          · exact k
          · exact absurd k.symm hne
          · exact absurd k hy
        rw [List.pairwise_cons, List.pairwise_cons]
        refine ⟨fun z hz => ?_, h⟩
        rcases List.mem_cons.1 hz with rfl | hz
        · exact hxy
        · exact lt_trans' hxy (h.1 z hz)
theorem rising_aux (l : List Str) : ∀ (a : List Str), Rises a → Rises (l.foldl (fun a x => putS x a) a) ∧ (∀ z, z ∈ l.foldl (fun a x => putS x a) a ↔ z ∈ l ∨ z ∈ a) ∧ (l.foldl (fun a x => putS x a) a).length ≤ l.length + a.length := by
  induction l with
  | nil => intro a h; simp [h]
  | cons x r ih =>
    intro a h
    obtain ⟨h1, h2, h3⟩ := ih (putS x a) (putS_rises h)
    refine ⟨h1, fun z => ?_, ?_⟩
    · rw [List.foldl_cons, h2 z, putS_mem, List.mem_cons]
      constructor
      · rintro (h | h | h) <;> simp [h]
      · rintro ((h | h) | h) <;> simp [h]
    · have := putS_len x a
      simp only [List.foldl_cons, List.length_cons]
      omega
theorem risingS_rises (l : List Str) : Rises (risingS l) := (rising_aux l [] (by simp [Rises])).1
theorem risingS_mem {l : List Str} {z : Str} : z ∈ risingS l ↔ z ∈ l := by
  have := (rising_aux l [] (by simp [Rises])).2.1 z
  unfold risingS
  simpa using this
theorem risingS_len (l : List Str) : (risingS l).length ≤ l.length := by
  have := (rising_aux l [] (by simp [Rises])).2.2
  unfold risingS
  simpa using this
theorem rises_ext : ∀ {a b : List Str}, Rises a → Rises b → (∀ z, z ∈ a ↔ z ∈ b) → a = b
  | [], [], _, _, _ => rfl
  | [], y :: b, _, _, h => by have := (h y).2 (by simp); simp at this
  | x :: a, [], _, _, h => by have := (h x).1 (by simp); simp at this
  | x :: a, y :: b, ha, hb, h => by
    unfold Rises at ha hb
    rw [List.pairwise_cons] at ha hb
    have hxy : x = y := by
      have h1 := (h x).1 (by simp)
      have h2 := (h y).2 (by simp)
      rcases List.mem_cons.1 h1 with e | h1
      · exact e
      · rcases List.mem_cons.1 h2 with e | h2
        · exact e.symm
        · exact absurd (lt_trans' (hb.1 x h1) (ha.1 y h2)) (lt_irrefl y)
    subst hxy
    congr 1
    refine rises_ext ha.2 hb.2 fun z => ?_
    constructor
    · intro hz
      rcases List.mem_cons.1 ((h z).1 (by simp [hz])) with e | hz'
      · subst e; exact absurd (ha.1 z hz) (lt_irrefl z)
      · exact hz'
    · intro hz
      rcases List.mem_cons.1 ((h z).2 (by simp [hz])) with e | hz'
      · subst e; exact absurd (hb.1 z hz) (lt_irrefl z)
      · exact hz'
theorem Rises.nodup {l : List Str} (h : Rises l) : l.Nodup := List.Pairwise.imp (fun h e => by subst e; exact lt_irrefl _ h) h
theorem FL.put {x : Str} {l : List Str} (hl : FL l) (hx : SL x) (h : l.length < 8796093022208) : FL (putS x l) :=
  ⟨by have := putS_len x l; omega, fun s hs => by
    rcases putS_mem.1 hs with rfl | hs
    · exact hx
    · exact hl.all s hs⟩
theorem FL.rising {l : List Str} (hl : FL l) : FL (risingS l) := ⟨Nat.le_trans (risingS_len l) hl.len, fun s hs => hl.all s (risingS_mem.1 hs)⟩
def AdjP (l : List Str) : Prop := ∀ (j : Nat) (x y : Str), l[j]? = some x → l[j + 1]? = some y → x < y
theorem rises_of_adj : ∀ {l : List Str}, AdjP l → Rises l
  | [], _ => by simp [Rises]
  | [x], _ => by simp [Rises]
  | x :: y :: r, h => by
    have ih : Rises (y :: r) := rises_of_adj fun j a b ha hb => h (j + 1) a b (by simpa using ha) (by simpa using hb)
    have hxy := h 0 x y rfl rfl
    unfold Rises at ih ⊢
    rw [List.pairwise_cons]
    refine ⟨fun z hz => ?_, ih⟩
    rcases List.mem_cons.1 hz with rfl | hz
    · exact hxy
    · rw [List.pairwise_cons] at ih
      exact lt_trans' hxy (ih.1 z hz)
theorem Rises.adj : ∀ {l : List Str}, Rises l → AdjP l
  | [], _ => fun j x y hx => by simp at hx
  | a :: r, h => by
    unfold Rises at h
    rw [List.pairwise_cons] at h
    intro j x y hx hy
    cases j with
    | zero =>
      simp at hx
      subst hx
      exact h.1 y (List.mem_of_getElem? (by simpa using hy))
    | succ j => exact Rises.adj h.2 j x y (by simpa using hx) (by simpa using hy)
def OrdP (l : List Str) : Prop := l.length ≤ 64 ∧ (∀ (j : Nat) x, l[j]? = some x → valueB x = true) ∧ AdjP l
structure CheckP (s : SetV) : Prop where
  ord : OrdP s.l
  un : s.u = true → s.n = true
  nu : s.u = false → s.lo = 0 ∧ s.hi = 0
  u : s.u = true → least ≤ s.lo ∧ s.hi ≤ most ∧ s.lo ≤ s.hi ∧ 64 < s.hi - s.lo + 1 - s.l.length ∧ ∀ (j : Nat) x, s.l[j]? = some x → ∃ n, numS x = some n ∧ s.lo < n ∧ n < s.hi
open Classical in
noncomputable def ordB (l : List Str) : Bool := decide (OrdP l)
open Classical in
noncomputable def checkE (s : SetV) : Int := if CheckP s then 0 else 1
theorem ordB_false {l : List Str} (h : ¬ OrdP l) : ordB l = false := by unfold ordB; simpa using h
theorem ordB_true {l : List Str} (h : OrdP l) : ordB l = true := by unfold ordB; simpa using h
theorem ordB_iff {l : List Str} : ordB l = true ↔ OrdP l := by unfold ordB; simp
theorem checkE_0 {s : SetV} (h : CheckP s) : checkE s = 0 := by unfold checkE; rw [if_pos h]
theorem checkE_1 {s : SetV} (h : ¬ CheckP s) : checkE s = 1 := by unfold checkE; rw [if_neg h]
theorem checkE_iff {s : SetV} : checkE s = 0 ↔ CheckP s := by
  unfold checkE
  split <;> simp_all
open Classical in
noncomputable def rangeB (s : SetV) (v : Str) : Bool := decide (∃ n, numS v = some n ∧ s.lo ≤ n ∧ n ≤ s.hi)
open Classical in
noncomputable def hasRaw (s : SetV) (v : Str) : Bool := (s.n != decide (v ∈ s.l)) && (!s.u || rangeB s v)
open Classical in
noncomputable def hasB (s : SetV) (v : Str) : Bool := decide (checkE s = 0) && valueB v && hasRaw s v
open Classical in
noncomputable def emptyB (s : SetV) : Bool := decide (checkE s = 0) && !s.n && !s.m && decide (s.l = [])
theorem rangeB_some {s : SetV} {v : Str} {n : Int} (h : numS v = some n) : rangeB s v = decide (s.lo ≤ n ∧ n ≤ s.hi) := by
  unfold rangeB
  rw [h]
  simp
theorem rangeB_none {s : SetV} {v : Str} (h : numS v = none) : rangeB s v = false := by
  unfold rangeB
  rw [h]
  simp
end Go.Proofs.AM
namespace Go.Proofs.AM
open Go Go.Lib
def kS : Bool × List (Nat × EqT) := (false, [(0, .str)])
def ent (s : Str) : D := .tup [mkS s, .bool true]
def insS (l : List Str) (s : Str) : List Str := if s ∈ l then l else l ++ [s]
def groupS (L : List (List Str)) : List Str := L.flatten.foldl insS []
theorem keyEq_S (a b : Str) : keyEq kS (mkS a) (mkS b) = some (decide (a = b)) := by
  unfold keyEq
  rw [if_pos ⟨rfl, rfl⟩]
  have hb : (({ data := { toList := a } } : ByteArray) == { data := { toList := b } }) = decide (a = b) := by
    show (({ toList := a } : Array UInt8) == { toList := b }) = _
    rw [Bool.eq_iff_iff]
    simp
  show (some (_ == _)).bind _ = _
  simp only [Option.bind_some, eqCells, Option.map_some, Bool.and_true]
  rw [hb]
theorem keyOk_S (a : Str) : keyOk kS (mkS a) = true := by unfold keyOk; rw [keyEq_S]; rfl
theorem look_ent (s : Str) : ∀ (l : List Str), lookD kS (mkS s) (l.map ent) = some (if s ∈ l then some (.bool true) else none)
  | [] => rfl
  | x :: r => by
    simp only [List.map_cons, ent, lookD, keyEq_S, Option.bind_some]
    by_cases h : s = x
    · subst h; simp
    · have := look_ent s r
      simp only [h, decide_false, Bool.false_eq_true, if_false, List.mem_cons, false_or]
      exact this
theorem mput_ent (s : Str) : ∀ (l : List Str), mputD kS (mkS s) (.bool true) (l.map ent) = some ((insS l s).map ent)
  | [] => rfl
  | x :: r => by
    simp only [List.map_cons, ent, mputD, keyEq_S, Option.bind_some]
    by_cases h : s = x
    · subst h; simp [insS, ent]
    · have := mput_ent s r
      simp only [h, decide_false, Bool.false_eq_true, if_false]
      change Option.map _ (mputD kS (mkS s) (.bool true) (r.map ent)) = _
      rw [this]
      unfold insS
      by_cases hm : s ∈ r
      · simp [hm, ent]
      · simp [hm, h, ent]
theorem mdel_ent (s : Str) : ∀ (l : List Str), mdelD kS (mkS s) (l.map ent) = some ((l.erase s).map ent)
  | [] => rfl
  | x :: r => by
    simp only [List.map_cons, ent, mdelD, keyEq_S, Option.bind_some]
    by_cases h : s = x
    · subst h; simp
    · have := mdel_ent s r
      simp only [h, decide_false, Bool.false_eq_true, if_false]
      change Option.map _ (mdelD kS (mkS s) (r.map ent)) = _
      rw [this]
      have hx : (x == s) = false := by simpa using Ne.symm h
      simp [hx, ent]
theorem clean_ent (s : Str) : Clean (ent s) := ⟨rfl, rfl⟩
theorem insS_mem {l : List Str} {s z : Str} : z ∈ insS l s ↔ z ∈ l ∨ z = s := by
  unfold insS
  by_cases h : s ∈ l
  · simp only [h, if_true]
    constructor
    · exact .inl
    · rintro (h' | rfl)
      · exact h'
      · exact h
  · simp [h]
theorem insS_nodup {l : List Str} {s : Str} (h : l.Nodup) : (insS l s).Nodup := by
  unfold insS
  by_cases hs : s ∈ l
  · simpa [hs] using h
  · simp only [hs, if_false]
    rw [List.nodup_append]
    refine ⟨h, by simp, fun a ha b hb => ?_⟩
    simp only [List.mem_singleton] at hb
    subst hb
    exact fun e => hs (e ▸ ha)
theorem insS_len (l : List Str) (s : Str) : (insS l s).length ≤ l.length + 1 := by
  unfold insS
  split <;> simp
theorem ins_aux : ∀ (m l : List Str), l.Nodup → (m.foldl insS l).Nodup ∧ (∀ z, z ∈ m.foldl insS l ↔ z ∈ m ∨ z ∈ l) ∧ (m.foldl insS l).length ≤ m.length + l.length
  | [], l, h => by simp [h]
  | x :: r, l, h => by
    obtain ⟨h1, h2, h3⟩ := ins_aux r (insS l x) (insS_nodup h)
    refine ⟨h1, fun z => ?_, ?_⟩
    · rw [List.foldl_cons, h2 z, insS_mem, List.mem_cons]
      constructor
      · rintro (h | h | h) <;> simp [h]
      · rintro ((h | h) | h) <;> simp [h]
    · have := insS_len l x
      simp only [List.foldl_cons, List.length_cons]
      omega
theorem groupS_nodup (L : List (List Str)) : (groupS L).Nodup := (ins_aux L.flatten [] List.nodup_nil).1
theorem groupS_mem {L : List (List Str)} {z : Str} : z ∈ groupS L ↔ z ∈ L.flatten := by
  have := (ins_aux L.flatten [] List.nodup_nil).2.1 z
  unfold groupS
  simpa using this
theorem groupS_len (L : List (List Str)) : (groupS L).length ≤ L.flatten.length := by
  have := (ins_aux L.flatten [] List.nodup_nil).2.2
  unfold groupS
  simpa using this
theorem nodup_len : ∀ {a b : List Str}, a.Nodup → (∀ z ∈ a, z ∈ b) → a.length ≤ b.length
  | [], _, _, _ => by simp
  | x :: r, b, h, hm => by
    rw [List.nodup_cons] at h
    have hx := hm x (by simp)
    have := nodup_len (a := r) (b := b.erase x) h.2 fun z hz => (List.mem_erase_of_ne (fun e => h.1 (by rw [← e]; exact hz))).2 (hm z (by simp [hz]))
    rw [List.length_erase_of_mem hx] at this
    have := List.length_pos_of_mem hx
    simp
    omega
theorem nodup_len_eq {a b : List Str} (ha : a.Nodup) (hb : b.Nodup) (h : ∀ z, z ∈ a ↔ z ∈ b) : a.length = b.length :=
  Nat.le_antisymm (nodup_len ha fun z hz => (h z).1 hz) (nodup_len hb fun z hz => (h z).2 hz)
theorem risingS_len_eq {l : List Str} (h : l.Nodup) : (risingS l).length = l.length := nodup_len_eq (risingS_rises l).nodup h fun _ => risingS_mem
theorem risingS_congr {a b : List Str} (h : ∀ z, z ∈ a ↔ z ∈ b) : risingS a = risingS b :=
  rises_ext (risingS_rises a) (risingS_rises b) fun z => by rw [risingS_mem, risingS_mem, h z]
theorem risingS_self {l : List Str} (h : Rises l) : risingS l = l := rises_ext (risingS_rises l) h fun _ => risingS_mem
def upS (hi : Int) (K : List Str) (lo : Int) : Int := if _h : lo ≤ hi ∧ itoa lo ∈ K then upS hi K (lo + 1) else lo
termination_by (hi + 1 - lo).toNat
def dnS (lo : Int) (K : List Str) (hi : Int) : Int := if _h : lo ≤ hi ∧ itoa hi ∈ K then dnS lo K (hi - 1) else hi
termination_by (hi + 1 - lo).toNat
theorem upS_step {hi lo : Int} {K : List Str} (h : lo ≤ hi ∧ itoa lo ∈ K) : upS hi K lo = upS hi K (lo + 1) := by rw [upS, dif_pos h]
theorem upS_stop {hi lo : Int} {K : List Str} (h : ¬ (lo ≤ hi ∧ itoa lo ∈ K)) : upS hi K lo = lo := by rw [upS, dif_neg h]
theorem dnS_step {hi lo : Int} {K : List Str} (h : lo ≤ hi ∧ itoa hi ∈ K) : dnS lo K hi = dnS lo K (hi - 1) := by rw [dnS, dif_pos h]
theorem dnS_stop {hi lo : Int} {K : List Str} (h : ¬ (lo ≤ hi ∧ itoa hi ∈ K)) : dnS lo K hi = hi := by rw [dnS, dif_neg h]
theorem upS_congr {K K' : List Str} (hK : ∀ z, z ∈ K ↔ z ∈ K') (hi : Int) : ∀ (n : Nat) (lo : Int), (hi + 1 - lo).toNat ≤ n → upS hi K lo = upS hi K' lo := by
  intro n
  induction n with
  | zero =>
    intro lo h
    rw [upS_stop (fun h' => by omega), upS_stop (fun h' => by omega)]
  | succ n ih =>
    intro lo h
    by_cases hc : lo ≤ hi ∧ itoa lo ∈ K
    · rw [upS_step hc, upS_step ⟨hc.1, (hK _).1 hc.2⟩, ih (lo + 1) (by omega)]
    · rw [upS_stop hc, upS_stop fun h' => hc ⟨h'.1, (hK _).2 h'.2⟩]
theorem dnS_congr {K K' : List Str} (hK : ∀ z, z ∈ K ↔ z ∈ K') (lo : Int) : ∀ (n : Nat) (hi : Int), (hi + 1 - lo).toNat ≤ n → dnS lo K hi = dnS lo K' hi := by
  intro n
  induction n with
  | zero =>
    intro hi h
    rw [dnS_stop (fun h' => by omega), dnS_stop (fun h' => by omega)]
  | succ n ih =>
    intro hi h
    by_cases hc : lo ≤ hi ∧ itoa hi ∈ K
    · rw [dnS_step hc, dnS_step ⟨hc.1, (hK _).1 hc.2⟩, ih (hi - 1) (by omega)]
    · rw [dnS_stop hc, dnS_stop fun h' => hc ⟨h'.1, (hK _).2 h'.2⟩]
open Classical in
noncomputable def inR (lo hi : Int) (s : Str) : Bool := decide (∃ n, numS s = some n ∧ lo < n ∧ n < hi)
theorem inR_iff {lo hi : Int} {s : Str} : inR lo hi s = true ↔ ∃ n, numS s = some n ∧ lo < n ∧ n < hi := by unfold inR; simp
def upTo (lo : Int) : Nat → List Str
  | 0 => []
  | n + 1 => itoa lo :: upTo (lo + 1) n
def listN (lo hi : Int) (V : List Str) : List Str := (upTo lo (hi + 1 - lo).toNat).filter fun s => decide (s ∉ V)
noncomputable def valsN (lo hi : Int) (K : List Str) : List Str := risingS (K.filter (inR lo hi))
noncomputable def numbersN (lo hi : Int) (K : List Str) : Option SetV :=
  if hi - lo + 1 - (valsN lo hi K).length ≤ 64 then some ⟨false, false, false, risingS (listN lo hi (valsN lo hi K)), 0, 0⟩
  else if 64 < (valsN lo hi K).length then none else some ⟨false, true, true, valsN lo hi K, lo, hi⟩
noncomputable def numbersS (lo hi : Int) (K : List Str) : Option SetV := numbersN (upS hi K lo) (dnS (upS hi K lo) K hi) K
theorem valsN_congr {K K' : List Str} (hK : ∀ z, z ∈ K ↔ z ∈ K') (lo hi : Int) : valsN lo hi K = valsN lo hi K' :=
  risingS_congr fun z => by simp [hK z]
theorem numbersS_congr {K K' : List Str} (hK : ∀ z, z ∈ K ↔ z ∈ K') (lo hi : Int) : numbersS lo hi K = numbersS lo hi K' := by
  unfold numbersS
  rw [upS_congr hK hi _ lo (Nat.le_refl _), dnS_congr hK _ _ hi (Nat.le_refl _)]
  unfold numbersN
  rw [valsN_congr hK]
end Go.Proofs.AM
