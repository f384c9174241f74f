/- Part 32 of the lemmas: APYf, AGTb. -/
import Derived.Test.YtnbdmjbpgaeacaaGreatDoorC06
import Derived.Test.YtnbdmjbpgaeacaaGreatDoorProg
import Derived.Shelf.Abstract
import Derived.Test.YtnbdmjbpgaeacaaGreatDoorC31
import Derived.Test.YtnbdmjbpgaeacaaGreatDoorC15
import Derived.Test.YtnbdmjbpgaeacaaGreatDoorC16
import Derived.WalkKit
set_option maxRecDepth 100000
set_option maxHeartbeats 8000000
set_option linter.all false
namespace Go.Proofs.AM
open Go Cd
def c12:Func :=
⟨5,90,[.tmp 10],
 (SS [o 5 (.box (t 0)),o 10 (.mov (BB false))]
 (SS [o 17 (CC 34 []),vv 11 17]
 (SS [o 19 (.load 14 true (t 5)),vv 20 1,vv 21 2,vv 22 3,vv 23 4,o 24 (CC 35 [(t 19),(t 20),(t 21),(t 22),(t 23)]),vv 18 24,o 25 (.ext 0 (t 18)),o 26 (.ext 1 (t 18)),vv 12 25,vv 13 26]
 (SS [o 28 (.load 14 true (t 5)),vv 29 1,vv 30 2,vv 31 3,vv 32 4,o 33 (CC 36 [(t 28),(t 29),(t 30),(t 31),(t 32)]),vv 27 33,o 34 (.ext 0 (t 27)),o 35 (.ext 1 (t 27)),vv 14 34,vv 15 35]
 (QQ (SS [vv 36 13,vv 37 15,o 38 (.bin .neq (t 36) (t 37)),vv 39 38,gv 40 12 39 false,gg 41 (.lenSl (t 40)) 39 false,gv 42 14 39 false,gg 43 (.lenSl (t 42)) 39 false,gg 44 (.bin .neq (t 41) (t 43)) 39 false,o 45 (.pick (t 39) (BB true) (t 44))]
 (.cond (t 45) (SS [o 10 (.mov (BB false))]
 .ret) .skip))
 (QQ (SS [vv 46 12,o 47 (.lenSl (t 46)),KK 48 0]
 (.block 0 (.loop (SS [o 49 (.bin .lss (t 48) (t 47))]
 (QQ (.cond (t 49) .skip (.exit 0))
 (QQ (.block 1 (SS [vv 50 48,vv 16 50]
 (SS [vv 51 12,vv 52 16,o 53 (.iAddrS 3 (t 51) (t 52)),ff 54 0 53,ll 55 54,vv 56 14,vv 57 16,o 58 (.iAddrS 3 (t 56) (t 57)),ff 59 0 58,ll 60 59,o 61 (.bin .neq (t 55) (t 60)),vv 62 61,gv 63 12 62 false,gv 64 16 62 false,gg 65 (.iAddrS 3 (t 63) (t 64)) 62 false,gf 66 1 65 62 false,gl 67 66 62 false,gv 68 14 62 false,gv 69 16 62 false,gg 70 (.iAddrS 3 (t 68) (t 69)) 62 false,gf 71 1 70 62 false,gl 72 71 62 false,gg 73 (.bin .neq (t 67) (t 72)) 62 false,o 74 (.pick (t 62) (BB true) (t 73)),vv 75 74,gv 76 12 75 false,gv 77 16 75 false,gg 78 (.iAddrS 3 (t 76) (t 77)) 75 false,gf 79 2 78 75 false,gl 80 79 75 false,gv 81 14 75 false,gv 82 16 75 false,gg 83 (.iAddrS 3 (t 81) (t 82)) 75 false,gf 84 2 83 75 false,gl 85 84 75 false,gg 86 (.bin .neq (t 80) (t 85)) 75 false,o 87 (.pick (t 75) (BB true) (t 86))]
 (.cond (t 87) (SS [o 10 (.mov (BB false))]
 .ret) .skip))))
 (.ops [o 88 (.bin .add (t 48) (II 1)),vv 48 88])))))))
 (SS [vv 89 11,vv 10 89]
 .ret)))))))⟩
noncomputable def c13:Func:=⟨3,38,[.tmp 6],cB Tryz.prog [] Tryz.f13⟩
noncomputable def c14:Func:=⟨3,89,[.tmp 6],cB Tryz.prog [] Tryz.f14⟩
noncomputable def c15:Func:=⟨3,111,[.tmp 6],cB Tryz.prog [] Tryz.f15⟩
noncomputable def c16:Func:=⟨2,102,[.tmp 4],cB Tryz.prog [] Tryz.f16⟩
noncomputable def c34:Func:=⟨0,90,[.tmp 0],cB Tryz.prog [] Tryz.f34⟩
noncomputable def c35:Func:=⟨5,40,[.tmp 10,.tmp 11],cB Tryz.prog [] Tryz.f35⟩
noncomputable def c36:Func:=⟨5,40,[.tmp 10,.tmp 11],cB Tryz.prog [] Tryz.f36⟩
noncomputable def c37:Func:=⟨3,92,[.tmp 6,.tmp 7],cB Tryz.prog [] Tryz.f37⟩
noncomputable def c38:Func:=⟨3,86,[.tmp 6,.tmp 7],cB Tryz.prog [] Tryz.f38⟩
noncomputable def c78:Func:=⟨0,17,[.cell 0 14 true],cI Tryz.prog [] Tryz.f78 [(4,.clean 6),(4,.clean 9),(4,.clean 12)] []⟩
noncomputable def c79:Func:=⟨2,19,[.cell 4 15 true,.tmp 5],cB Tryz.prog [] Tryz.f79⟩
noncomputable def c80:Func:=⟨5,71,[.tmp 10],cI Tryz.prog [69,57,58,59,60,62,66] Tryz.f80 [(9,.tmp 13 66 3 75)] []⟩
noncomputable def c81:Func:=⟨5,91,[.tmp 10],cI Tryz.prog [] Tryz.f81 [(7,.tmp 11 71 3 76),(46,.tell 11)] []⟩
noncomputable def c83:Func:=⟨2,16,[.cell 4 3 true],cB Tryz.prog [] Tryz.f83⟩
noncomputable def c84:Func:=⟨5,59,[.tmp 10],cB Tryz.prog [] Tryz.f84⟩
noncomputable def c126:Func:=⟨2,15,[.cell 4 15 true],cB Tryz.prog [] Tryz.f126⟩
noncomputable def c127:Func:=⟨2,8,[.tmp 3],cB Tryz.prog [] Tryz.f127⟩
def c128:Func :=
⟨4,52,[.tmp 8],
 (.gh (.nil 60 1 0) (.gh (.kill 60)
 (SS [o 4 (.box (t 0)),o 8 (.mov (c .nilm))]
 (SS [o 14 (.mkMap),vv 9 14]
 (QQ (SS [ff 15 7 4,ll 16 15,o 17 (.lenSl (t 16)),KK 18 0]
 (.block 0 (.loop (SS [o 19 (.bin .lss (t 18) (t 17))]
 (QQ (.cond (t 19) .skip (.exit 0))
 (QQ (.block 1 (SS [o 20 (.iAddrS 12 (t 16) (t 18)),o 21 (.load 12 true (t 20)),o 11 (.alloc [Ee,Ee,Zz,Zz,Zz,(.sl 4 true []),(.sl 3 true []),(.sl 3 true []),(.sl 2 true []),(.sl 2 true []),Zz,Ee]),w (.store 12 (t 11) (t 21))]
 (SS [o 23 (.load 14 true (t 4)),ff 24 11 11,ll 25 24,o 26 (CC 79 [(t 23),(t 25)]),vv 22 26,o 27 (.ext 0 (t 22)),o 28 (.ext 1 (t 22)),o 12 (.alloc [Ee,Ee,Zz,Ee,Ee,Ee,Zz,Zz,Zz,(.sl 3 true []),Zz,Ee,Zz,Zz,(.bool false)]),w (.store 15 (t 12) (t 27)),vv 13 28]
 (SS [vv 29 13,vv 30 29,gf 31 1 11 30 true,gl 32 31 30 true,gv 33 2 30 true,gg 34 (.bin .eql (t 32) (t 33)) 30 true,o 35 (.pick (t 30) (t 34) (BB false)),vv 36 35,gf 37 0 11 36 true,gl 38 37 36 true,gv 39 3 36 true,gg 40 (.bin .neq (t 38) (t 39)) 36 true,o 41 (.pick (t 36) (t 40) (BB false))]
 (.cond (t 41) (.ops [vv 42 9,vv 43 1,o 44 (.load 15 true (t 12)),o 45 (.call true (c (.fn 83 [] [])) [(t 43),(t 44)]),o 46 (.look (true,[(0,.str),(1,.str),(2,.int .i64)]) Zz false (t 42) (t 45)),o 47 (.bin .add (t 46) (II 1)),w (.mput (true,[(0,.str),(1,.str),(2,.int .i64)]) (t 42) (t 45) (t 47)),o 48 (.mov (c (.tup [(.own 60 0),(.own 60 0)]))),o 49 (.mov (c (.own 60 0)))]) .skip)))))
 (.ops [o 50 (.bin .add (t 18) (II 1)),vv 18 50])))))))
 (SS [vv 51 9,vv 8 51]
 .ret))))))⟩
end Go.Proofs.AM
namespace Go.Proofs.AM
open Go Go.RowKit Go.Shelf Cd
set_option maxRecDepth 100000
theorem E12:y1Y Tryz.prog 12:=enters_of Tryz.func12 (by kernel_rfl) rfl
theorem T12:funcT Tryz.prog [] Tryz.f12=some c12.erase:=by kernel_rfl
theorem E13:y1Y Tryz.prog 13:=enters_of Tryz.func13 (by kernel_rfl) rfl
theorem T13:funcT Tryz.prog [] Tryz.f13=some c13.erase:=by kernel_rfl
theorem E14:y1Y Tryz.prog 14:=enters_of Tryz.func14 (by kernel_rfl) rfl
theorem T14:funcT Tryz.prog [] Tryz.f14=some c14.erase:=by kernel_rfl
theorem E15:y1Y Tryz.prog 15:=enters_of Tryz.func15 (by kernel_rfl) rfl
theorem T15:funcT Tryz.prog [] Tryz.f15=some c15.erase:=by kernel_rfl
theorem E16:y1Y Tryz.prog 16:=enters_of Tryz.func16 (by kernel_rfl) rfl
theorem T16:funcT Tryz.prog [] Tryz.f16=some c16.erase:=by kernel_rfl
theorem E34:y1Y Tryz.prog 34:=enters_of Tryz.func34 (by kernel_rfl) rfl
theorem T34:funcT Tryz.prog [] Tryz.f34=some c34.erase:=by kernel_rfl
theorem E35:y1Y Tryz.prog 35:=enters_of Tryz.func35 (by kernel_rfl) rfl
theorem T35:funcT Tryz.prog [] Tryz.f35=some c35.erase:=by kernel_rfl
theorem E36:y1Y Tryz.prog 36:=enters_of Tryz.func36 (by kernel_rfl) rfl
theorem T36:funcT Tryz.prog [] Tryz.f36=some c36.erase:=by kernel_rfl
theorem E37:y1Y Tryz.prog 37:=enters_of Tryz.func37 (by kernel_rfl) rfl
theorem T37:funcT Tryz.prog [] Tryz.f37=some c37.erase:=by kernel_rfl
theorem E38:y1Y Tryz.prog 38:=enters_of Tryz.func38 (by kernel_rfl) rfl
theorem T38:funcT Tryz.prog [] Tryz.f38=some c38.erase:=by kernel_rfl
theorem E78:y1Y Tryz.prog 78:=enters_of Tryz.func78 (by kernel_rfl) rfl
theorem T78:funcT Tryz.prog [] Tryz.f78=some c78.erase:=by kernel_rfl
theorem E79:y1Y Tryz.prog 79:=enters_of Tryz.func79 (by kernel_rfl) rfl
theorem T79:funcT Tryz.prog [] Tryz.f79=some c79.erase:=by kernel_rfl
theorem E80:y1Y Tryz.prog 80:=enters_of Tryz.func80 (by kernel_rfl) rfl
theorem T80:funcT Tryz.prog [69,57,58,59,60,62,66] Tryz.f80=some c80.erase:=by kernel_rfl
theorem E81:y1Y Tryz.prog 81:=enters_of Tryz.func81 (by kernel_rfl) rfl
theorem T81:funcT Tryz.prog [] Tryz.f81=some c81.erase:=by kernel_rfl
theorem E83:y1Y Tryz.prog 83:=enters_of Tryz.func83 (by kernel_rfl) rfl
theorem T83:funcT Tryz.prog [] Tryz.f83=some c83.erase:=by kernel_rfl
theorem E84:y1Y Tryz.prog 84:=enters_of Tryz.func84 (by kernel_rfl) rfl
theorem T84:funcT Tryz.prog [] Tryz.f84=some c84.erase:=by kernel_rfl
theorem E85s:y1Y Tryz.prog 85:=enters_of Tryz.func85 (by kernel_rfl) rfl
theorem T85s:funcT Tryz.prog [] Tryz.f85=some c85.erase:=by kernel_rfl
theorem E126:y1Y Tryz.prog 126:=enters_of Tryz.func126 (by kernel_rfl) rfl
theorem T126:funcT Tryz.prog [] Tryz.f126=some c126.erase:=by kernel_rfl
theorem E127:y1Y Tryz.prog 127:=enters_of Tryz.func127 (by kernel_rfl) rfl
theorem T127:funcT Tryz.prog [] Tryz.f127=some c127.erase:=by kernel_rfl
theorem E128:y1Y Tryz.prog 128:=enters_of Tryz.func128 (by kernel_rfl) rfl
theorem U128:funcU Tryz.prog [] 60 Tryz.f128=some c128.erase:=by kernel_rfl
end Go.Proofs.AM
