/- Part 15 of the lemmas: APYc, APWa, APWb. -/
import Derived.Test.YtnbdmjbpgaeacaaGreatDoorC06
import Derived.Test.YtnbdmjbpgaeacaaGreatDoorProg
set_option maxRecDepth 100000
set_option maxHeartbeats 8000000
set_option linter.all false
namespace Go.Proofs.AM
open Go Cd
noncomputable def c85:Func:=⟨2,12,[.tmp 4],cB Tryz.prog [] Tryz.f85⟩


def c82:Func :=
⟨1,40,[.tmp 2],
 (SS [o 1 (.box (t 0)),KK 2 0]
 (SS [ff 3 0 1,ll 4 3,ff 5 1 1,ll 6 5,o 7 (.mkSl true 1 9 Ee 2 [(0,(t 4)),(1,(t 6))]),o 8 (.call true (c (.fn 134 [] [])) [(t 7)]),o 9 (.call true (c (.fn 133 [] [])) [(t 8),(II 7)]),ff 10 2 1,o 11 (.load 2 true (t 10)),o 12 (.call true (c (.fn 135 [] [])) [(t 11)]),ff 13 4 1,ll 14 13,o 15 (.bin .geq (t 14) (c (jI (-1000)))),vv 16 15,gf 17 4 1 16 true,gl 18 17 16 true,gg 19 (.bin .leq (t 18) (II 1000)) 16 true,o 20 (.pick (t 16) (t 19) (BB false)),o 21 (.call true (c (.fn 133 [] [])) [(t 20),(II 1)]),ff 22 5 1,ll 23 22,o 24 (.call true (c (.fn 136 [] [])) [(t 23)]),ff 25 6 1,ll 26 25,o 27 (.call true (c (.fn 137 [] [])) [(t 26)]),o 28 (.load 12 true (t 1)),o 29 (.call true (c (.fn 138 [] [])) [(t 28)]),ff 30 10 1,ll 31 30,o 32 (.call true (c (.fn 139 [] [])) [(t 31),(II 0),(II 1099511627776)]),o 33 (.call true (c (.fn 133 [] [])) [(t 32),(II 1)]),ff 34 11 1,ll 35 34,o 36 (.call true (c (.fn 140 [] [])) [(t 35)]),o 37 (.call true (c (.fn 133 [] [])) [(t 36),(II 7)]),o 38 (.mkSl true 1 35 Zz 8 [(0,(t 9)),(1,(t 12)),(2,(t 21)),(3,(t 24)),(4,(t 27)),(5,(t 29)),(6,(t 33)),(7,(t 37))]),o 39 (.call true (c (.fn 132 [] [])) [(t 38)]),vv 2 39]
 .ret))⟩
def c160:Func :=
⟨1,57,[.tmp 2],
 (SS [o 1 (.box (t 0)),KK 2 0]
 (SS [ff 3 0 1,ll 4 3,o 5 (.mkSl true 1 9 Ee 1 [(0,(t 4))]),o 6 (.call true (c (.fn 134 [] [])) [(t 5)]),o 7 (.call true (c (.fn 133 [] [])) [(t 6),(II 7)]),ff 8 1 1,ll 9 8,o 10 (.bin .geq (t 9) (II 0)),vv 11 10,gf 12 1 1 11 true,gl 13 12 11 true,gg 14 (.bin .leq (t 13) (II 100)) 11 true,o 15 (.pick (t 11) (t 14) (BB false)),o 16 (.call true (c (.fn 133 [] [])) [(t 15),(II 1)]),ff 17 2 1,o 18 (.load 2 true (t 17)),o 19 (.call true (c (.fn 135 [] [])) [(t 18)]),ff 20 4 1,ll 21 20,o 22 (.call true (c (.fn 136 [] [])) [(t 21)]),ff 23 5 1,ll 24 23,o 25 (.call true (c (.fn 201 [] [])) [(t 24)]),ff 26 6 1,ll 27 26,o 28 (.call true (c (.fn 139 [] [])) [(t 27),(II 0),(II 1099511627776)]),vv 29 28,gf 30 7 1 29 true,gl 31 30 29 true,gg 32 (.call true (c (.fn 139 [] [])) [(t 31),(II 0),(II 1073741824)]) 29 true,o 33 (.pick (t 29) (t 32) (BB false)),vv 34 33,gf 35 8 1 34 true,gl 36 35 34 true,gg 37 (.bin .geq (t 36) (II 0)) 34 true,o 38 (.pick (t 34) (t 37) (BB false)),vv 39 38,gf 40 8 1 39 true,gl 41 40 39 true,gg 42 (.bin .leq (t 41) (II 16)) 39 true,o 43 (.pick (t 39) (t 42) (BB false)),vv 44 43,gf 45 9 1 44 true,gl 46 45 44 true,gg 47 (.bin .geq (t 46) (II 0)) 44 true,o 48 (.pick (t 44) (t 47) (BB false)),vv 49 48,gf 50 9 1 49 true,gl 51 50 49 true,gg 52 (.bin .leq (t 51) (II 2)) 49 true,o 53 (.pick (t 49) (t 52) (BB false)),o 54 (.call true (c (.fn 133 [] [])) [(t 53),(II 1)]),o 55 (.mkSl true 1 35 Zz 6 [(0,(t 7)),(1,(t 16)),(2,(t 19)),(3,(t 22)),(4,(t 25)),(5,(t 54))]),o 56 (.call true (c (.fn 132 [] [])) [(t 55)]),vv 2 56]
 .ret))⟩
def c161:Func :=
⟨1,63,[.tmp 2],
 (SS [o 1 (.box (t 0)),KK 2 0]
 (SS [ff 3 0 1,ll 4 3,ff 5 1 1,ll 6 5,ff 7 3 1,ff 8 0 7,ll 9 8,ff 10 3 1,ff 11 1 10,ll 12 11,ff 13 3 1,ff 14 2 13,ll 15 14,o 16 (.mkSl true 1 9 Ee 5 [(0,(t 4)),(1,(t 6)),(2,(t 9)),(3,(t 12)),(4,(t 15))]),o 17 (.call true (c (.fn 134 [] [])) [(t 16)]),o 18 (.call true (c (.fn 133 [] [])) [(t 17),(II 7)]),ff 19 6 1,ll 20 19,o 21 (.call true (c (.fn 185 [] [])) [(t 20)]),ff 22 7 1,o 23 (.load 2 true (t 22)),o 24 (.call true (c (.fn 135 [] [])) [(t 23)]),ff 25 9 1,ll 26 25,o 27 (.call true (c (.fn 202 [] [])) [(t 26)]),ff 28 10 1,ll 29 28,o 30 (.bin .geq (t 29) (II 1)),vv 31 30,gf 32 10 1 31 true,gl 33 32 31 true,gg 34 (.bin .leq (t 33) (II 32)) 31 true,o 35 (.pick (t 31) (t 34) (BB false)),o 36 (.call true (c (.fn 133 [] [])) [(t 35),(II 1)]),ff 37 11 1,ll 38 37,o 39 (.lenStr (t 38)),o 40 (.bin .leq (t 39) (II 16)),o 41 (.call true (c (.fn 133 [] [])) [(t 40),(II 2)]),ff 42 12 1,ll 43 42,o 44 (.bin .geq (t 43) (II 1)),vv 45 44,gf 46 12 1 45 true,gl 47 46 45 true,gg 48 (.bin .leq (t 47) (II 4)) 45 true,o 49 (.pick (t 45) (t 48) (BB false)),vv 50 49,gf 51 2 1 50 true,gl 52 51 50 true,gg 53 (.call true (c (.fn 139 [] [])) [(t 52),(II 0),(II 1099511627776)]) 50 true,o 54 (.pick (t 50) (t 53) (BB false)),vv 55 54,gf 56 13 1 55 true,gl 57 56 55 true,gg 58 (.call true (c (.fn 139 [] [])) [(t 57),(II 0),(II 1099511627776)]) 55 true,o 59 (.pick (t 55) (t 58) (BB false)),o 60 (.call true (c (.fn 133 [] [])) [(t 59),(II 1)]),o 61 (.mkSl true 1 35 Zz 7 [(0,(t 18)),(1,(t 21)),(2,(t 24)),(3,(t 27)),(4,(t 36)),(5,(t 41)),(6,(t 60))]),o 62 (.call true (c (.fn 132 [] [])) [(t 61)]),vv 2 62]
 .ret))⟩
def c166:Func :=
⟨1,87,[.tmp 2],
 (SS [o 1 (.box (t 0)),KK 2 0]
 (SS [ff 6 0 1,ll 7 6,o 8 (.bin .geq (t 7) (II 1)),vv 9 8,gf 10 0 1 9 true,gl 11 10 9 true,gg 12 (.bin .leq (t 11) (II 4)) 9 true,o 13 (.pick (t 9) (t 12) (BB false)),vv 14 13,gf 15 2 1 14 true,gl 16 15 14 true,gg 17 (.bin .geq (t 16) (II 1)) 14 true,o 18 (.pick (t 14) (t 17) (BB false)),vv 19 18,gf 20 2 1 19 true,gl 21 20 19 true,gg 22 (.bin .leq (t 21) (II 3)) 19 true,o 23 (.pick (t 19) (t 22) (BB false)),o 24 (.call true (c (.fn 133 [] [])) [(t 23),(II 1)]),ff 25 1 1,ll 26 25,o 27 (.lenSl (t 26)),o 28 (.bin .leq (t 27) (II 4)),o 29 (.call true (c (.fn 133 [] [])) [(t 28),(II 3)]),ff 30 1 1,ll 31 30,o 32 (.lenSl (t 31)),o 33 (.bin .gtr (t 32) (II 0)),o 34 (.call true (c (.fn 133 [] [])) [(t 33),(II 1)]),o 35 (.mkSl true 1 35 Zz 3 [(0,(t 24)),(1,(t 29)),(2,(t 34))]),o 36 (.call true (c (.fn 132 [] [])) [(t 35)]),vv 3 36]
 (QQ (SS [ff 37 1 1,ll 38 37,o 39 (.lenSl (t 38)),KK 40 0]
 (.block 0 (.loop (SS [o 41 (.bin .lss (t 40) (t 39))]
 (QQ (.cond (t 41) .skip (.exit 0))
 (QQ (.block 1 (SS [vv 42 40,o 43 (.iAddrS 1 (t 38) (t 40)),ll 44 43,vv 4 42,vv 5 44]
 (QQ (SS [vv 45 3,o 46 (.bin .neq (t 45) (II 0))]
 (.cond (t 46) (SS [vv 47 3,vv 2 47]
 .ret) .skip))
 (.ops [vv 48 5,o 49 (.mkSl false 1 9 Ee 1 [(0,(t 48))]),o 50 (CC 134 [(t 49)]),o 51 (CC 133 [(t 50),(II 7)]),vv 52 4,o 53 (.bin .eql (t 52) (II 0)),vv 54 53,gf 55 1 1 54 false,gl 56 55 54 false,gv 57 4 54 false,gg 58 (.bin .sub (t 57) (II 1)) 54 false,gg 59 (.iAddrS 1 (t 56) (t 58)) 54 false,gl 60 59 54 false,gv 61 5 54 false,gg 62 (.bin .lss (t 60) (t 61)) 54 false,o 63 (.pick (t 54) (BB true) (t 62)),o 64 (CC 133 [(t 63),(II 6)]),o 65 (.mkSl false 1 35 Zz 2 [(0,(t 51)),(1,(t 64))]),o 66 (CC 132 [(t 65)]),vv 3 66]))))
 (.ops [o 67 (.bin .add (t 40) (II 1)),vv 40 67])))))))
 (SS [vv 68 3,ff 69 3 1,ll 70 69,o 71 (.call true (c (.fn 139 [] [])) [(t 70),(II 0),(II 1099511627776)]),o 72 (.call true (c (.fn 133 [] [])) [(t 71),(II 1)]),ff 73 4 1,ll 74 73,o 75 (.call true (c (.fn 140 [] [])) [(t 74)]),vv 76 75,gf 77 5 1 76 true,gl 78 77 76 true,gg 79 (.call true (c (.fn 140 [] [])) [(t 78)]) 76 true,o 80 (.pick (t 76) (t 79) (BB false)),o 81 (.call true (c (.fn 133 [] [])) [(t 80),(II 7)]),ff 82 6 1,ll 83 82,o 84 (.call true (c (.fn 202 [] [])) [(t 83)]),o 85 (.mkSl true 1 35 Zz 4 [(0,(t 68)),(1,(t 72)),(2,(t 81)),(3,(t 84))]),o 86 (.call true (c (.fn 132 [] [])) [(t 85)]),vv 2 86]
 .ret))))⟩
noncomputable def c32:Func:=⟨1,114,[.tmp 2],cB Tryz.prog [] Tryz.f32⟩
noncomputable def c74:Func:=⟨1,66,[.tmp 2],cB Tryz.prog [] Tryz.f74⟩
noncomputable def c121:Func:=⟨1,72,[.tmp 2],cB Tryz.prog [] Tryz.f121⟩
noncomputable def c124:Func:=⟨1,82,[.tmp 2],cB Tryz.prog [] Tryz.f124⟩
noncomputable def c132:Func:=⟨1,15,[.tmp 2],cB Tryz.prog [] Tryz.f132⟩
noncomputable def c133:Func:=⟨2,7,[.tmp 4],cB Tryz.prog [] Tryz.f133⟩
noncomputable def c134:Func:=⟨1,6,[.tmp 2],cB Tryz.prog [] Tryz.f134⟩
noncomputable def c135:Func:=⟨1,16,[.tmp 2],cB Tryz.prog [] Tryz.f135⟩
noncomputable def c137:Func:=⟨1,44,[.tmp 2],cB Tryz.prog [] Tryz.f137⟩
noncomputable def c138:Func:=⟨1,75,[.tmp 2],cB Tryz.prog [] Tryz.f138⟩
noncomputable def c139:Func:=⟨3,15,[.tmp 6],cB Tryz.prog [] Tryz.f139⟩
noncomputable def c140:Func:=⟨1,9,[.tmp 2],cB Tryz.prog [] Tryz.f140⟩
noncomputable def c201:Func:=⟨1,32,[.tmp 2],cB Tryz.prog [] Tryz.f201⟩
noncomputable def c185:Func:=⟨1,9,[.tmp 2],cB Tryz.prog [] Tryz.f185⟩
noncomputable def c202:Func:=⟨1,38,[.tmp 2],cB Tryz.prog [] Tryz.f202⟩
noncomputable def c66:Func:=⟨1,13,[.tmp 2],cB Tryz.prog [] Tryz.f66⟩
noncomputable def c68:Func:=⟨1,69,[.tmp 2],cB Tryz.prog [] Tryz.f68⟩
noncomputable def c69:Func:=⟨1,24,[.tmp 2],cB Tryz.prog [] Tryz.f69⟩
noncomputable def c70:Func:=⟨3,15,[.tmp 6],cB Tryz.prog [] Tryz.f70⟩
noncomputable def c120:Func:=⟨1,48,[.tmp 2],cB Tryz.prog [] Tryz.f120⟩
noncomputable def c176:Func:=⟨1,16,[.tmp 2],cB Tryz.prog [] Tryz.f176⟩
noncomputable def c116:Func:=⟨1,7,[.tmp 2],cB Tryz.prog [] Tryz.f116⟩
noncomputable def c177:Func:=⟨1,33,[.tmp 2],cB Tryz.prog [] Tryz.f177⟩
noncomputable def c183:Func:=⟨1,6,[.tmp 2],cB Tryz.prog [] Tryz.f183⟩
noncomputable def c188:Func:=⟨2,9,[.tmp 4],cB Tryz.prog [] Tryz.f188⟩
noncomputable def c189:Func:=⟨2,18,[.tmp 4],cB Tryz.prog [] Tryz.f189⟩
noncomputable def c195:Func:=⟨2,9,[.tmp 4],cB Tryz.prog [] Tryz.f195⟩
noncomputable def c244:Func:=⟨2,9,[.tmp 3],cB Tryz.prog [] Tryz.f244⟩
noncomputable def c245:Func:=⟨2,9,[.tmp 4],cB Tryz.prog [] Tryz.f245⟩
noncomputable def c208:Func:=⟨1,18,[.tmp 2],cB Tryz.prog [] Tryz.f208⟩
noncomputable def c228:Func:=⟨2,19,[.tmp 4],cB Tryz.prog [] Tryz.f228⟩
noncomputable def c235:Func:=⟨2,19,[.tmp 4],cB Tryz.prog [] Tryz.f235⟩
noncomputable def c263:Func:=⟨2,19,[.tmp 4],cB Tryz.prog [] Tryz.f263⟩
noncomputable def c186:Func:=⟨2,35,[.tmp 4,.tmp 5],cI Tryz.prog [] Tryz.f186 [(12,.tmp 6 99 6 192)] []⟩
noncomputable def c136:Func:=⟨1,11,[.tmp 2],cB Tryz.prog [] Tryz.f136⟩
noncomputable def c117:Func:=⟨1,23,[.tmp 2],cB Tryz.prog [] Tryz.f117⟩
noncomputable def c67:Func:=⟨1,8,[.tmp 2],cB Tryz.prog [] Tryz.f67⟩
end Go.Proofs.AM
