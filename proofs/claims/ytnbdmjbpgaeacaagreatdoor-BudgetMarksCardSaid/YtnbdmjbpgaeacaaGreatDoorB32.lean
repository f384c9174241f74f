/- Part 32 of the lemmas: APYe, AGSb. -/
import Derived.Test.YtnbdmjbpgaeacaaGreatDoorB06
import Derived.Test.YtnbdmjbpgaeacaaGreatDoorProg
import Derived.Shelf.Abstract
import Derived.Test.YtnbdmjbpgaeacaaGreatDoorB16
import Derived.WalkKit
set_option maxRecDepth 100000
set_option maxHeartbeats 8000000
set_option linter.all false
namespace Go.Proofs.AM
open Go Cd
def c3:Func :=
⟨3,62,[.tmp 6],
 (SS [o 3 (.box (t 0)),o 6 (.mov (BB false))]
 (SS [o 16 (CC 21 []),vv 7 16]
 (SS [o 18 (.load 14 true (t 3)),vv 19 1,o 20 (CC 22 [(t 18),(t 19)]),vv 17 20,o 21 (.ext 0 (t 17)),o 22 (.ext 1 (t 17)),vv 8 21,vv 9 22]
 (SS [o 24 (.load 14 true (t 3)),vv 25 1,o 26 (CC 23 [(t 24),(t 25)]),vv 23 26,o 27 (.ext 0 (t 23)),o 28 (.ext 1 (t 23)),vv 10 27,vv 11 28]
 (SS [o 30 (.load 14 true (t 3)),vv 31 2,o 32 (CC 24 [(t 30),(t 31)]),vv 29 32,o 33 (.ext 0 (t 29)),o 34 (.ext 1 (t 29)),vv 12 33,vv 13 34]
 (SS [o 36 (.load 14 true (t 3)),vv 37 2,o 38 (CC 25 [(t 36),(t 37)]),vv 35 38,o 39 (.ext 0 (t 35)),o 40 (.ext 1 (t 35)),vv 14 39,vv 15 40]
 (SS [vv 41 7,vv 42 41,gv 43 8 42 true,gv 44 10 42 true,gg 45 (.bin .eql (t 43) (t 44)) 42 true,o 46 (.pick (t 42) (t 45) (BB false)),vv 47 46,gv 48 9 47 true,gv 49 11 47 true,gg 50 (.bin .eql (t 48) (t 49)) 47 true,o 51 (.pick (t 47) (t 50) (BB false)),vv 52 51,gv 53 12 52 true,gv 54 14 52 true,gg 55 (.eqb false (t 53) (t 54)) 52 true,o 56 (.pick (t 52) (t 55) (BB false)),vv 57 56,gv 58 13 57 true,gv 59 15 57 true,gg 60 (.bin .eql (t 58) (t 59)) 57 true,o 61 (.pick (t 57) (t 60) (BB false)),vv 6 61]
 .ret)))))))⟩
def c4:Func :=
⟨2,69,[.tmp 4],
 (SS [o 2 (.box (t 0)),o 4 (.mov (BB false))]
 (SS [o 13 (CC 21 []),vv 5 13]
 (SS [o 15 (.load 14 true (t 2)),o 16 (CC 24 [(t 15),(c (.sl 1 true []))]),vv 14 16,o 17 (.ext 0 (t 14)),o 18 (.ext 1 (t 14)),vv 6 17,vv 7 18]
 (QQ (SS [vv 19 7,o 20 (.bin .neq (t 19) (II 0))]
 (.cond (t 20) (SS [vv 21 5,vv 22 21,gv 23 6 22 true,gg 24 (.un .not (t 23)) 22 true,o 25 (.pick (t 22) (t 24) (BB false)),vv 4 25]
 .ret) .skip))
 (SS [o 27 (.load 14 true (t 2)),vv 28 1,o 29 (CC 24 [(t 27),(t 28)]),vv 26 29,o 30 (.ext 0 (t 26)),o 31 (.ext 1 (t 26)),vv 8 30,vv 9 31]
 (QQ (SS [vv 32 1,o 33 (.lenSl (t 32)),KK 34 0]
 (.block 0 (.loop (SS [o 35 (.bin .lss (t 34) (t 33))]
 (QQ (.cond (t 35) .skip (.exit 0))
 (QQ (.block 1 (SS [vv 36 34,vv 10 36]
 (.gh (.kill 42) (SS [o 38 (.loadP 14 true (t 2)),vv 39 1,vv 40 10,o 41 (.slc 1 (t 39) none (some (t 40))),o 42 (.appD 1 9 16 (c (.sl 1 true [])) (t 41)),vv 43 1,vv 44 10,o 45 (.bin .add (t 44) (II 1)),o 46 (.slc 1 (t 43) (some (t 45)) none),o 47 (.appD 1 9 16 (t 42) (t 46)),o 48 (.call true (c (.fn 24 [] [])) [(t 38),(t 47)]),vv 37 48,o 49 (.ext 0 (t 37)),o 50 (.ext 1 (t 37)),vv 11 49,vv 12 50]
 (SS [vv 51 9,o 52 (.bin .eql (t 51) (II 0)),vv 53 52,gv 54 12 53 true,gg 55 (.bin .neq (t 54) (II 0)) 53 true,gv 56 55 53 true,gv 57 8 56 false,gv 58 57 56 false,gv 59 11 58 true,gg 60 (.un .not (t 59)) 58 true,gg 61 (.pick (t 58) (t 60) (BB false)) 56 false,gg 62 (.pick (t 56) (BB true) (t 61)) 53 true,o 63 (.pick (t 53) (t 62) (BB false))]
 (.cond (t 63) (SS [o 4 (.mov (BB false))]
 .ret) .skip))))))
 (.ops [o 64 (.bin .add (t 34) (II 1)),vv 34 64])))))))
 (SS [vv 65 5,vv 66 65,gv 67 6 66 true,o 68 (.pick (t 66) (t 67) (BB false)),vv 4 68]
 .ret)))))))⟩
def c5:Func :=
⟨2,99,[.tmp 4],
 (SS [o 2 (.box (t 0)),o 4 (.mov (BB false))]
 (SS [o 16 (CC 21 []),vv 5 16]
 (SS [o 18 (.load 14 true (t 2)),vv 19 1,o 20 (CC 24 [(t 18),(t 19)]),vv 17 20,o 21 (.ext 0 (t 17)),o 22 (.ext 1 (t 17)),vv 6 21,vv 7 22]
 (QQ (SS [vv 23 6,o 24 (.un .not (t 23)),vv 25 24,gv 26 7 25 false,gg 27 (.bin .neq (t 26) (II 0)) 25 false,o 28 (.pick (t 25) (BB true) (t 27))]
 (.cond (t 28) (SS [vv 29 5,vv 4 29]
 .ret) .skip))
 (SS [o 30 (.load 14 true (t 2)),o 8 (.alloc [Zz,Zz,Zz,Zz,Zz,Zz,(.sl 7 true []),(.sl 12 true []),(.sl 10 true []),(.sl 15 true []),(.sl 8 true []),(.sl 4 true []),(.sl 7 true []),(.sl 1 true [])]),w (.store 14 (t 8) (t 30))]
 (SS [ff 31 9 2,ll 32 31,o 33 (.app 15 49 184 (c (.sl 15 true [])) (t 32)),ff 34 9 8,w (.store 1 (t 34) (t 33))]
 (QQ (SS [ff 35 9 8,ll 36 35,o 37 (.lenSl (t 36)),KK 38 0]
 (.block 0 (.loop (SS [o 39 (.bin .lss (t 38) (t 37))]
 (QQ (.cond (t 39) .skip (.exit 0))
 (QQ (.block 1 (SS [vv 40 38,vv 9 40]
 (SS [vv 41 1,ff 42 9 8,ll 43 42,vv 44 9,o 45 (.iAddrS 15 (t 43) (t 44)),ff 46 0 45,ll 47 46,o 48 (CC 26 [(t 41),(t 47)])]
 (.cond (t 48) (.ops [ff 49 9 8,ll 50 49,vv 51 9,o 52 (.iAddrS 15 (t 50) (t 51)),ff 53 14 52,w (.store 1 (t 53) (BB true))]) .skip))))
 (.ops [o 54 (.bin .add (t 38) (II 1)),vv 38 54])))))))
 (QQ (SS [ff 55 9 8,ll 56 55,o 57 (.lenSl (t 56)),KK 58 0]
 (.block 2 (.loop (SS [o 59 (.bin .lss (t 58) (t 57))]
 (QQ (.cond (t 59) .skip (.exit 2))
 (QQ (.block 3 (SS [o 60 (.iAddrS 15 (t 56) (t 58)),o 61 (.load 15 true (t 60)),o 11 (.alloc [Ee,Ee,Zz,Ee,Ee,Ee,Zz,Zz,Zz,(.sl 3 true []),Zz,Ee,Zz,Zz,(.bool false)]),w (.store 15 (t 11) (t 61))]
 (QQ (SS [vv 62 1,ff 63 0 11,ll 64 63,o 65 (CC 26 [(t 62),(t 64)]),o 66 (.un .not (t 65))]
 (.cond (t 66) (.exit 3) .skip))
 (SS [o 68 (.load 14 true (t 8)),ff 69 1 11,ll 70 69,o 71 (CC 22 [(t 68),(t 70)]),vv 67 71,o 72 (.ext 0 (t 67)),o 73 (.ext 1 (t 67)),vv 12 72,vv 13 73]
 (SS [ff 74 8 8,ll 75 74,o 76 (.lenSl (t 75)),KK 77 0]
 (.block 4 (.loop (SS [o 78 (.bin .lss (t 77) (t 76))]
 (QQ (.cond (t 78) .skip (.exit 4))
 (QQ (.block 5 (SS [o 79 (.iAddrS 10 (t 75) (t 77)),o 80 (.load 10 true (t 79)),o 15 (.alloc [Ee,Zz,Zz,Zz,(.sl 4 true []),(.sl 2 true []),Zz,Zz,Zz,Zz]),w (.store 10 (t 15) (t 80))]
 (SS [ff 81 0 15,ll 82 81,ff 83 1 11,ll 84 83,o 85 (.bin .eql (t 82) (t 84)),vv 86 85,gv 87 13 86 true,gg 88 (.bin .neq (t 87) (II 0)) 86 true,gv 89 88 86 true,gv 90 12 89 false,gf 91 8 15 89 false,gl 92 91 89 false,gg 93 (.bin .gtr (t 90) (t 92)) 89 false,gg 94 (.pick (t 89) (BB true) (t 93)) 86 true,o 95 (.pick (t 86) (t 94) (BB false))]
 (.cond (t 95) (SS [o 4 (.mov (BB false))]
 .ret) .skip))))
 (.ops [o 96 (.bin .add (t 77) (II 1)),vv 77 96])))))))))))
 (.ops [o 97 (.bin .add (t 58) (II 1)),vv 58 97])))))))
 (SS [vv 98 5,vv 4 98]
 .ret)))))))))⟩
def c6:Func :=
⟨1,70,[.tmp 2],
 (SS [o 1 (.box (t 0)),o 2 (.mov (BB false))]
 (SS [o 13 (CC 21 []),vv 3 13]
 (SS [KK 4 0]
 (QQ (SS [ff 14 8 1,ll 15 14,o 16 (.lenSl (t 15)),KK 17 0]
 (.block 0 (.loop (SS [o 18 (.bin .lss (t 17) (t 16))]
 (QQ (.cond (t 18) .skip (.exit 0))
 (QQ (.block 1 (SS [o 19 (.iAddrS 10 (t 15) (t 17)),o 20 (.load 10 true (t 19)),o 6 (.alloc [Ee,Zz,Zz,Zz,(.sl 4 true []),(.sl 2 true []),Zz,Zz,Zz,Zz]),w (.store 10 (t 6) (t 20))]
 (SS [o 22 (.load 14 true (t 1)),ff 23 0 6,ll 24 23,o 25 (CC 22 [(t 22),(t 24)]),vv 21 25,o 26 (.ext 0 (t 21)),o 27 (.ext 1 (t 21)),vv 7 26,vv 8 27]
 (QQ (SS [vv 28 8,o 29 (.bin .neq (t 28) (II 0))]
 (.cond (t 29) (SS [vv 30 3,vv 31 30,gv 32 7 31 true,gg 33 (.bin .eql (t 32) (II 0)) 31 true,o 34 (.pick (t 31) (t 33) (BB false)),vv 2 34]
 .ret) .skip))
 (.ops [vv 35 4,vv 36 7,o 37 (.bin .add (t 35) (t 36)),vv 4 37])))))
 (.ops [o 38 (.bin .add (t 17) (II 1)),vv 17 38])))))))
 (QQ (SS [ff 39 9 1,ll 40 39,o 41 (.lenSl (t 40)),KK 42 0]
 (.block 2 (.loop (SS [o 43 (.bin .lss (t 42) (t 41))]
 (QQ (.cond (t 43) .skip (.exit 2))
 (QQ (.block 3 (SS [o 44 (.iAddrS 15 (t 40) (t 42)),o 45 (.load 15 true (t 44)),o 10 (.alloc [Ee,Ee,Zz,Ee,Ee,Ee,Zz,Zz,Zz,(.sl 3 true []),Zz,Ee,Zz,Zz,(.bool false)]),w (.store 15 (t 10) (t 45))]
 (SS [ff 46 14 10,ll 47 46,vv 48 47,gf 49 12 10 48 false,gl 50 49 48 false,gg 51 (.bin .eql (t 50) (II 4)) 48 false,o 52 (.pick (t 48) (BB true) (t 51))]
 (.cond (t 52) (.ops [vv 53 4,o 54 (.bin .sub (t 53) (II 1)),vv 4 54]) .skip))))
 (.ops [o 55 (.bin .add (t 42) (II 1)),vv 42 55])))))))
 (SS [o 57 (.load 14 true (t 1)),o 58 (CC 24 [(t 57),(c (.sl 1 true []))]),vv 56 58,o 59 (.ext 0 (t 56)),o 60 (.ext 1 (t 56)),vv 11 59,vv 12 60]
 (SS [vv 61 3,vv 62 61,gv 63 4 62 true,gg 64 (.bin .eql (t 63) (II 0)) 62 true,gv 65 64 62 true,gv 66 12 65 false,gg 67 (.bin .neq (t 66) (II 0)) 65 false,gg 68 (.pick (t 65) (BB true) (t 67)) 62 true,o 69 (.pick (t 62) (t 68) (BB false)),vv 2 69]
 .ret)))))))⟩
def c21:Func :=
⟨0,90,[.tmp 0],
 (SS [o 0 (.mov (BB false))]
 (SS [o 12 (.icall (c (.fn 43 [] [])) []),o 1 (.alloc [Zz,Zz,Zz,Zz,Zz,Zz,(.sl 7 true []),(.sl 12 true []),(.sl 10 true []),(.sl 15 true []),(.sl 8 true []),(.sl 4 true []),(.sl 7 true []),(.sl 1 true [])]),w (.store 14 (t 1) (t 12))]
 (SS [ff 13 8 1,ll 14 13,o 15 (.iAddrS 10 (t 14) (II 0)),ff 16 8 15,w (.store 1 (t 16) (II 1))]
 (SS [o 17 (CC 44 [(c (.str ⟨#[99,49]⟩))]),o 18 (CC 44 [(c (.str ⟨#[99,50]⟩))]),o 19 (.mkSl false 15 49 (.agg [Ee,Ee,Zz,Ee,Ee,Ee,Zz,Zz,Zz,(.sl 3 true []),Zz,Ee,Zz,Zz,(.bool false)]) 2 [(0,(t 17)),(1,(t 18))]),ff 20 9 1,w (.store 1 (t 20) (t 19))]
 (SS [o 22 (.load 14 true (t 1)),o 23 (.mkSl false 1 9 Ee 1 [(0,(c (.str ⟨#[99,49]⟩)))]),o 24 (CC 24 [(t 22),(t 23)]),vv 21 24,o 25 (.ext 0 (t 21)),o 26 (.ext 1 (t 21)),vv 2 25,vv 3 26]
 (SS [o 28 (.load 14 true (t 1)),o 29 (.mkSl false 1 9 Ee 2 [(0,(c (.str ⟨#[99,49]⟩))),(1,(c (.str ⟨#[99,50]⟩)))]),o 30 (CC 24 [(t 28),(t 29)]),vv 27 30,o 31 (.ext 0 (t 27)),o 32 (.ext 1 (t 27)),vv 4 31,vv 5 32]
 (SS [ff 33 9 1,ll 34 33,o 35 (.iAddrS 15 (t 34) (II 1)),ff 36 14 35,w (.store 1 (t 36) (BB true))]
 (SS [o 38 (.load 14 true (t 1)),o 39 (.mkSl false 1 9 Ee 1 [(0,(c (.str ⟨#[99,49]⟩)))]),o 40 (CC 24 [(t 38),(t 39)]),vv 37 40,o 41 (.ext 0 (t 37)),o 42 (.ext 1 (t 37)),vv 6 41,vv 7 42]
 (SS [o 44 (.load 14 true (t 1)),o 45 (.mkSl false 1 9 Ee 1 [(0,(c (.str ⟨#[99,50]⟩)))]),o 46 (CC 24 [(t 44),(t 45)]),vv 43 46,o 47 (.ext 0 (t 43)),o 48 (.ext 1 (t 43)),vv 8 47,vv 9 48]
 (SS [o 50 (.load 14 true (t 1)),o 51 (CC 22 [(t 50),(c (.str ⟨#[112]⟩))]),vv 49 51,o 52 (.ext 0 (t 49)),o 53 (.ext 1 (t 49)),vv 10 52,vv 11 53]
 (SS [vv 54 2,vv 55 54,gv 56 3 55 true,gg 57 (.bin .eql (t 56) (II 0)) 55 true,o 58 (.pick (t 55) (t 57) (BB false)),vv 59 58,gv 60 4 59 true,gg 61 (.un .not (t 60)) 59 true,o 62 (.pick (t 59) (t 61) (BB false)),vv 63 62,gv 64 5 63 true,gg 65 (.bin .eql (t 64) (II 0)) 63 true,o 66 (.pick (t 63) (t 65) (BB false)),vv 67 66,gv 68 6 67 true,gg 69 (.un .not (t 68)) 67 true,o 70 (.pick (t 67) (t 69) (BB false)),vv 71 70,gv 72 7 71 true,gg 73 (.bin .eql (t 72) (II 0)) 71 true,o 74 (.pick (t 71) (t 73) (BB false)),vv 75 74,gv 76 8 75 true,o 77 (.pick (t 75) (t 76) (BB false)),vv 78 77,gv 79 9 78 true,gg 80 (.bin .eql (t 79) (II 0)) 78 true,o 81 (.pick (t 78) (t 80) (BB false)),vv 82 81,gv 83 10 82 true,gg 84 (.bin .eql (t 83) (II 1)) 82 true,o 85 (.pick (t 82) (t 84) (BB false)),vv 86 85,gv 87 11 86 true,gg 88 (.bin .eql (t 87) (II 0)) 86 true,o 89 (.pick (t 86) (t 88) (BB false)),vv 0 89]
 .ret)))))))))))⟩
def c22:Func :=
⟨2,21,[.tmp 4,.tmp 5],
 (SS [o 2 (.box (t 0)),o 3 (.box (t 1)),KK 4 0,KK 5 0]
 (QQ (SS [o 7 (.load 14 true (t 2)),o 8 (CC 45 [(t 7)]),vv 6 8]
 (SS [vv 9 6,o 10 (.bin .neq (t 9) (II 0))]
 (.cond (t 10) (SS [vv 11 6,KK 4 0,vv 5 11]
 .ret) .skip)))
 (QQ (SS [ff 12 8 2,ll 13 12,o 14 (.mkf 47 [] [(t 3)]),o 15 (CC 46 [(t 13),(t 14)]),o 16 (.un .not (t 15))]
 (.cond (t 16) (SS [KK 4 0,KK 5 5]
 .ret) .skip))
 (SS [o 17 (.load 14 true (t 2)),o 18 (.call true (c (.fn 48 [] [])) [(t 17),(c (.sl 1 true []))]),ll 19 3,o 20 (.look (false,[(0,.str)]) Zz false (t 18) (t 19)),vv 4 20,KK 5 0]
 .ret))))⟩
def c23:Func :=
⟨2,49,[.tmp 4,.tmp 5],
 (SS [o 2 (.box (t 0)),KK 4 0,KK 5 0]
 (QQ (SS [o 12 (.load 14 true (t 2)),o 13 (CC 33 [(t 12)]),vv 6 13]
 (SS [vv 14 6,o 15 (.bin .neq (t 14) (II 0))]
 (.cond (t 15) (SS [vv 16 6,KK 4 0,vv 5 16]
 .ret) .skip)))
 (QQ (SS [o 18 (.load 14 true (t 2)),vv 19 1,o 20 (CC 49 [(t 18),(t 19)]),vv 17 20,o 21 (.ext 0 (t 17)),o 22 (.ext 1 (t 17)),o 7 (.alloc [Ee,Zz,Zz,Zz,(.sl 4 true []),(.sl 2 true []),Zz,Zz,Zz,Zz]),w (.store 10 (t 7) (t 21)),vv 8 22]
 (SS [vv 23 8,o 24 (.un .not (t 23))]
 (.cond (t 24) (SS [KK 4 0,KK 5 5]
 .ret) .skip)))
 (SS [KK 9 0]
 (QQ (SS [ff 25 9 2,ll 26 25,o 27 (.lenSl (t 26)),KK 28 0]
 (.block 0 (.loop (SS [o 29 (.bin .lss (t 28) (t 27))]
 (QQ (.cond (t 29) .skip (.exit 0))
 (QQ (.block 1 (SS [o 30 (.iAddrS 15 (t 26) (t 28)),o 31 (.load 15 true (t 30)),o 11 (.alloc [Ee,Ee,Zz,Ee,Ee,Ee,Zz,Zz,Zz,(.sl 3 true []),Zz,Ee,Zz,Zz,(.bool false)]),w (.store 15 (t 11) (t 31))]
 (SS [ff 32 1 11,ll 33 32,vv 34 1,o 35 (.bin .eql (t 33) (t 34)),vv 36 35,gf 37 14 11 36 true,gl 38 37 36 true,gv 39 38 36 true,gf 40 12 11 39 false,gl 41 40 39 false,gg 42 (.bin .eql (t 41) (II 4)) 39 false,gg 43 (.pick (t 39) (BB true) (t 42)) 36 true,o 44 (.pick (t 36) (t 43) (BB false))]
 (.cond (t 44) (.ops [vv 45 9,o 46 (.bin .add (t 45) (II 1)),vv 9 46]) .skip))))
 (.ops [o 47 (.bin .add (t 28) (II 1)),vv 28 47])))))))
 (SS [vv 48 9,vv 4 48,KK 5 0]
 .ret))))))⟩
def c24:Func :=
⟨2,70,[.tmp 4,.tmp 5],
 (SS [o 2 (.box (t 0)),o 4 (.mov (BB false)),KK 5 0]
 (QQ (SS [o 14 (.load 14 true (t 2)),o 15 (CC 45 [(t 14)]),vv 6 15]
 (SS [vv 16 6,o 17 (.bin .neq (t 16) (II 0))]
 (.cond (t 17) (SS [vv 18 6,o 4 (.mov (BB false)),vv 5 18]
 .ret) .skip)))
 (SS [o 19 (.mkMap),vv 7 19]
 (QQ (SS [vv 20 1,o 21 (.lenSl (t 20)),KK 22 0]
 (.block 0 (.loop (SS [o 23 (.bin .lss (t 22) (t 21))]
 (QQ (.cond (t 23) .skip (.exit 0))
 (QQ (.block 1 (SS [vv 24 22,o 25 (.iAddrS 1 (t 20) (t 22)),ll 26 25,o 9 (.alloc [Ee]),vv 8 24,w (.store 1 (t 9) (t 26))]
 (SS [ff 27 9 2,ll 28 27,o 29 (.mkf 51 [] [(t 9)]),o 30 (CC 50 [(t 28),(t 29)]),vv 10 30]
 (QQ (SS [vv 31 10,o 32 (.bin .lss (t 31) (II 0))]
 (.cond (t 32) (SS [o 4 (.mov (BB false)),KK 5 5]
 .ret) .skip))
 (QQ (SS [vv 33 1,vv 34 8,o 35 (.slc 1 (t 33) none (some (t 34))),ll 36 9,o 37 (.call true (c (.fn 52 [] [])) [(t 35),(t 36)])]
 (.cond (t 37) (SS [o 4 (.mov (BB false)),KK 5 6]
 .ret) .skip))
 (.ops [vv 38 7,ff 39 9 2,ll 40 39,vv 41 10,o 42 (.iAddrS 15 (t 40) (t 41)),ff 43 1 42,ll 44 43,w (.mput (false,[(0,.str)]) (t 38) (t 44) (BB true))]))))))
 (.ops [o 45 (.bin .add (t 22) (II 1)),vv 22 45])))))))
 (SS [o 46 (.load 14 true (t 2)),vv 47 1,o 48 (CC 48 [(t 46),(t 47)]),vv 11 48]
 (QQ (SS [ff 49 8 2,ll 50 49,o 51 (.lenSl (t 50)),KK 52 0]
 (.block 2 (.loop (SS [o 53 (.bin .lss (t 52) (t 51))]
 (QQ (.cond (t 53) .skip (.exit 2))
 (QQ (.block 3 (SS [o 54 (.iAddrS 10 (t 50) (t 52)),o 55 (.load 10 true (t 54)),o 13 (.alloc [Ee,Zz,Zz,Zz,(.sl 4 true []),(.sl 2 true []),Zz,Zz,Zz,Zz]),w (.store 10 (t 13) (t 55))]
 (SS [vv 56 7,ff 57 0 13,ll 58 57,o 59 (.look (false,[(0,.str)]) (.bool false) false (t 56) (t 58)),vv 60 59,gv 61 11 60 true,gf 62 0 13 60 true,gl 63 62 60 true,gg 64 (.look (false,[(0,.str)]) Zz false (t 61) (t 63)) 60 true,gf 65 8 13 60 true,gl 66 65 60 true,gg 67 (.bin .gtr (t 64) (t 66)) 60 true,o 68 (.pick (t 60) (t 67) (BB false))]
 (.cond (t 68) (SS [o 4 (.mov (BB false)),KK 5 0]
 .ret) .skip))))
 (.ops [o 69 (.bin .add (t 52) (II 1)),vv 52 69])))))))
 (SS [o 4 (.mov (BB true)),KK 5 0]
 .ret)))))))⟩
def c25:Func :=
⟨2,74,[.tmp 4,.tmp 5],
 (SS [o 2 (.box (t 0)),o 4 (.mov (BB false)),KK 5 0]
 (QQ (SS [o 15 (.load 14 true (t 2)),o 16 (CC 33 [(t 15)]),vv 6 16]
 (SS [vv 17 6,o 18 (.bin .neq (t 17) (II 0))]
 (.cond (t 18) (SS [vv 19 6,o 4 (.mov (BB false)),vv 5 19]
 .ret) .skip)))
 (QQ (SS [o 20 (.load 14 true (t 2)),vv 21 1,o 22 (CC 53 [(t 20),(t 21)]),vv 7 22]
 (SS [vv 23 7,o 24 (.bin .neq (t 23) (II 0))]
 (.cond (t 24) (SS [vv 25 7,o 4 (.mov (BB false)),vv 5 25]
 .ret) .skip)))
 (QQ (SS [ff 26 8 2,ll 27 26,o 28 (.lenSl (t 27)),KK 29 0]
 (.block 0 (.loop (SS [o 30 (.bin .lss (t 29) (t 28))]
 (QQ (.cond (t 30) .skip (.exit 0))
 (QQ (.block 1 (SS [o 31 (.iAddrS 10 (t 27) (t 29)),o 32 (.load 10 true (t 31)),o 9 (.alloc [Ee,Zz,Zz,Zz,(.sl 4 true []),(.sl 2 true []),Zz,Zz,Zz,Zz]),w (.store 10 (t 9) (t 32))]
 (SS [KK 10 0]
 (SS [o 11 (.mov (BB false))]
 (QQ (SS [ff 33 9 2,ll 34 33,o 35 (.lenSl (t 34)),KK 36 0]
 (.block 2 (.loop (SS [o 37 (.bin .lss (t 36) (t 35))]
 (QQ (.cond (t 37) .skip (.exit 2))
 (QQ (.block 3 (SS [o 38 (.iAddrS 15 (t 34) (t 36)),o 39 (.load 15 true (t 38)),o 13 (.alloc [Ee,Ee,Zz,Ee,Ee,Ee,Zz,Zz,Zz,(.sl 3 true []),Zz,Ee,Zz,Zz,(.bool false)]),w (.store 15 (t 13) (t 39))]
 (QQ (SS [ff 40 1 13,ll 41 40,ff 42 0 9,ll 43 42,o 44 (.bin .neq (t 41) (t 43))]
 (.cond (t 44) (.exit 3) .skip))
 (SS [vv 45 1,ff 46 0 13,ll 47 46,o 48 (CC 26 [(t 45),(t 47)]),vv 14 48]
 (SS [vv 49 11,vv 50 49,gv 51 14 50 false,o 52 (.pick (t 50) (BB true) (t 51)),vv 11 52]
 (SS [vv 53 14,vv 54 53,gf 55 14 13 54 false,gl 56 55 54 false,o 57 (.pick (t 54) (BB true) (t 56)),vv 58 57,gf 59 12 13 58 false,gl 60 59 58 false,gg 61 (.bin .eql (t 60) (II 4)) 58 false,o 62 (.pick (t 58) (BB true) (t 61))]
 (.cond (t 62) (.ops [vv 63 10,o 64 (.bin .add (t 63) (II 1)),vv 10 64]) .skip)))))))
 (.ops [o 65 (.bin .add (t 36) (II 1)),vv 36 65])))))))
 (SS [vv 66 11,vv 67 66,gv 68 10 67 true,gf 69 8 9 67 true,gl 70 69 67 true,gg 71 (.bin .gtr (t 68) (t 70)) 67 true,o 72 (.pick (t 67) (t 71) (BB false))]
 (.cond (t 72) (SS [o 4 (.mov (BB false)),KK 5 0]
 .ret) .skip)))))))
 (.ops [o 73 (.bin .add (t 29) (II 1)),vv 29 73])))))))
 (SS [o 4 (.mov (BB true)),KK 5 0]
 .ret)))))⟩
def c26:Func :=
⟨2,17,[.tmp 4],
 (SS [o 4 (.mov (BB false))]
 (QQ (SS [vv 7 0,o 8 (.lenSl (t 7)),KK 9 0]
 (.block 0 (.loop (SS [o 10 (.bin .lss (t 9) (t 8))]
 (QQ (.cond (t 10) .skip (.exit 0))
 (QQ (.block 1 (SS [o 11 (.iAddrS 1 (t 7) (t 9)),ll 12 11,vv 6 12]
 (SS [vv 13 6,vv 14 1,o 15 (.bin .eql (t 13) (t 14))]
 (.cond (t 15) (SS [o 4 (.mov (BB true))]
 .ret) .skip))))
 (.ops [o 16 (.bin .add (t 9) (II 1)),vv 9 16])))))))
 (SS [o 4 (.mov (BB false))]
 .ret)))⟩
def c43:Func :=
⟨0,16,[.cell 0 14 true],
 (SS [o 0 (.alloc [Zz,Zz,Zz,Zz,Zz,Zz,(.sl 7 true []),(.sl 12 true []),(.sl 10 true []),(.sl 15 true []),(.sl 8 true []),(.sl 4 true []),(.sl 7 true []),(.sl 1 true [])])]
 (SS [o 1 (.build [Zz,Zz,Zz,Zz,Zz] [(0,1,(II 5)),(1,1,(II 20)),(2,1,(II 10)),(3,1,(II 60)),(4,1,(II 30))]),o 2 (.build [Zz,Zz] [(0,1,(II 8000)),(1,1,(II 16384))]),o 3 (.build [Ee,Ee,Zz,(.bool false)] [(0,1,(c (.str ⟨#[97]⟩))),(1,1,(c (.str ⟨#[111,100]⟩))),(2,1,(II 300)),(3,1,(BB true))]),o 4 (.mkSl false 4 144 (.agg [Ee,Ee,Zz,(.bool false)]) 1 [(0,(t 3))]),o 5 (.build [Ee,Zz,Zz,Zz,Zz,(.sl 2 true []),(.sl 4 true [])] [(0,1,(c (.str ⟨#[108]⟩))),(1,2,(t 2)),(6,1,(t 4))]),o 6 (.build [Zz,Zz] [(0,1,(II 2000)),(1,1,(II 4096))]),o 7 (.build [Ee,Ee,Zz,(.bool false)] [(0,1,(c (.str ⟨#[97]⟩))),(1,1,(c (.str ⟨#[111,100]⟩))),(2,1,(II 100)),(3,1,(BB true))]),o 8 (.build [Ee,Ee,Zz,(.bool false)] [(0,1,(c (.str ⟨#[97]⟩))),(1,1,(c (.str ⟨#[115,112,111,116]⟩))),(2,1,(II 40)),(3,1,(BB true))]),o 9 (.mkSl false 4 144 (.agg [Ee,Ee,Zz,(.bool false)]) 2 [(0,(t 7)),(1,(t 8))]),o 10 (.build [Ee,Zz,Zz,Zz,Zz,(.sl 2 true []),(.sl 4 true [])] [(0,1,(c (.str ⟨#[115]⟩))),(1,2,(t 6)),(6,1,(t 9))]),o 11 (.mkSl false 7 147 (.agg [Ee,Zz,Zz,Zz,Zz,(.sl 2 true []),(.sl 4 true [])]) 2 [(0,(t 5)),(1,(t 10))]),o 12 (.build [Zz,Zz] [(0,1,(II 100000)),(1,1,(II 1073741824))]),o 13 (.build [Ee,Zz,Zz,Zz,(.sl 4 true []),(.sl 2 true []),Zz,Zz,Zz,Zz] [(0,1,(c (.str ⟨#[112]⟩))),(1,1,(II 1)),(2,2,(t 12)),(6,1,(II 1)),(8,1,(II 2)),(9,1,(II 2))]),o 14 (.mkSl false 10 53 (.agg [Ee,Zz,Zz,Zz,(.sl 4 true []),(.sl 2 true []),Zz,Zz,Zz,Zz]) 1 [(0,(t 13))]),o 15 (.build [Zz,Zz,Zz,Zz,Zz,Zz,(.sl 7 true []),(.sl 12 true []),(.sl 10 true []),(.sl 15 true []),(.sl 8 true []),(.sl 4 true []),(.sl 7 true []),(.sl 1 true [])] [(0,1,(II 9)),(1,5,(t 1)),(6,1,(t 11)),(8,1,(t 14))]),w (.store 14 (t 0) (t 15))]
 (.gh (.clean 11) (.gh (.clean 14) .ret))))⟩
def c44:Func :=
⟨1,12,[.cell 2 15 true],
 (SS [o 2 (.alloc [Ee,Ee,Zz,Ee,Ee,Ee,Zz,Zz,Zz,(.sl 3 true []),Zz,Ee,Zz,Zz,(.bool false)])]
 (SS [o 4 (.build [Ee,Ee,Ee] [(0,1,(c (.str ⟨#[115]⟩))),(1,1,(c (.str ⟨#[97]⟩))),(2,1,(c (.str ⟨#[111,100]⟩)))]),o 3 (.alloc [Ee,Ee,Ee]),w (.store 3 (t 3) (t 4))]
 (SS [vv 5 0,o 6 (.load 3 true (t 3)),o 7 (.build [Zz,Zz] [(0,1,(II 2000)),(1,1,(II 4096))]),o 8 (.load 3 true (t 3)),o 9 (.mkSl false 3 44 (.agg [Ee,Ee,Ee]) 1 [(0,(t 8))]),vv 10 0,o 11 (.build [Ee,Ee,Zz,Ee,Ee,Ee,Zz,Zz,Zz,(.sl 3 true []),Zz,Ee,Zz,Zz,(.bool false)] [(0,1,(t 5)),(1,1,(c (.str ⟨#[112]⟩))),(2,1,(II 1)),(3,3,(t 6)),(6,1,(II 100)),(7,2,(t 7)),(9,1,(t 9)),(10,1,(II 1)),(11,1,(t 10)),(12,1,(II 3))]),w (.store 15 (t 2) (t 11))]
 .ret)))⟩
def c47:Func :=
⟨2,8,[.tmp 3],
 (SS [o 2 (.box (t 0)),o 3 (.mov (BB false))]
 (SS [ff 4 0 2,ll 5 4,ll 6 1,o 7 (.bin .eql (t 5) (t 6)),vv 3 7]
 .ret))⟩
def c48:Func :=
⟨2,36,[.tmp 4],
 (SS [o 2 (.box (t 0)),o 4 (.mov (c .nilm))]
 (SS [o 8 (.mkMap),vv 5 8]
 (QQ (SS [ff 9 9 2,ll 10 9,o 11 (.lenSl (t 10)),KK 12 0]
 (.block 0 (.loop (SS [o 13 (.bin .lss (t 12) (t 11))]
 (QQ (.cond (t 13) .skip (.exit 0))
 (QQ (.block 1 (SS [o 14 (.iAddrS 15 (t 10) (t 12)),o 15 (.load 15 true (t 14)),o 7 (.alloc [Ee,Ee,Zz,Ee,Ee,Ee,Zz,Zz,Zz,(.sl 3 true []),Zz,Ee,Zz,Zz,(.bool false)]),w (.store 15 (t 7) (t 15))]
 (SS [ff 16 14 7,ll 17 16,vv 18 17,gf 19 12 7 18 false,gl 20 19 18 false,gg 21 (.bin .eql (t 20) (II 4)) 18 false,o 22 (.pick (t 18) (BB true) (t 21)),vv 23 22,gv 24 1 23 false,gf 25 0 7 23 false,gl 26 25 23 false,gg 27 (CC 52 [(t 24),(t 26)]) 23 false,o 28 (.pick (t 23) (BB true) (t 27))]
 (.cond (t 28) (.ops [vv 29 5,ff 30 1 7,ll 31 30,o 32 (.look (false,[(0,.str)]) Zz false (t 29) (t 31)),o 33 (.bin .add (t 32) (II 1)),w (.mput (false,[(0,.str)]) (t 29) (t 31) (t 33))]) .skip))))
 (.ops [o 34 (.bin .add (t 12) (II 1)),vv 12 34])))))))
 (SS [vv 35 5,vv 4 35]
 .ret))))⟩
def c51:Func :=
⟨2,8,[.tmp 3],
 (SS [o 2 (.box (t 0)),o 3 (.mov (BB false))]
 (SS [ff 4 0 2,ll 5 4,ll 6 1,o 7 (.bin .eql (t 5) (t 6)),vv 3 7]
 .ret))⟩
def c53:Func :=
⟨2,39,[.tmp 4],
 (SS [o 2 (.box (t 0)),KK 4 0]
 (QQ (SS [vv 11 1,o 12 (.lenSl (t 11)),KK 13 0]
 (.block 0 (.loop (SS [o 14 (.bin .lss (t 13) (t 12))]
 (QQ (.cond (t 14) .skip (.exit 0))
 (QQ (.block 1 (SS [vv 15 13,o 16 (.iAddrS 1 (t 11) (t 13)),ll 17 16,vv 5 15,vv 6 17]
 (QQ (SS [o 19 (.load 14 true (t 2)),vv 20 6,o 21 (CC 76 [(t 19),(t 20)]),vv 18 21,o 22 (.ext 0 (t 18)),o 23 (.ext 1 (t 18)),o 7 (.alloc [Ee,Ee,Zz,Ee,Ee,Ee,Zz,Zz,Zz,(.sl 3 true []),Zz,Ee,Zz,Zz,(.bool false)]),w (.store 15 (t 7) (t 22)),vv 8 23]
 (SS [vv 24 8,o 25 (.un .not (t 24))]
 (.cond (t 25) (SS [KK 4 5]
 .ret) .skip)))
 (SS [vv 26 1,vv 27 5,o 28 (.slc 1 (t 26) none (some (t 27))),o 29 (.lenSl (t 28)),KK 30 0]
 (.block 2 (.loop (SS [o 31 (.bin .lss (t 30) (t 29))]
 (QQ (.cond (t 31) .skip (.exit 2))
 (QQ (.block 3 (SS [o 32 (.iAddrS 1 (t 28) (t 30)),ll 33 32,vv 10 33]
 (SS [vv 34 10,vv 35 6,o 36 (.bin .eql (t 34) (t 35))]
 (.cond (t 36) (SS [KK 4 6]
 .ret) .skip))))
 (.ops [o 37 (.bin .add (t 30) (II 1)),vv 30 37]))))))))))
 (.ops [o 38 (.bin .add (t 13) (II 1)),vv 13 38])))))))
 (SS [KK 4 0]
 .ret)))⟩
end Go.Proofs.AM
namespace Go.Proofs.AM
open Go Go.RowKit Go.Shelf Cd
set_option maxRecDepth 100000
theorem E3:y1Y Tryz.prog 3:=enters_of Tryz.func3 (by kernel_rfl) rfl
theorem T3:funcT Tryz.prog [] Tryz.f3=some c3.erase:=by kernel_rfl
theorem E4:y1Y Tryz.prog 4:=enters_of Tryz.func4 (by kernel_rfl) rfl
theorem T4:funcT Tryz.prog [38,42,47] Tryz.f4=some c4.erase:=by kernel_rfl
theorem E5:y1Y Tryz.prog 5:=enters_of Tryz.func5 (by kernel_rfl) rfl
theorem T5:funcT Tryz.prog [] Tryz.f5=some c5.erase:=by kernel_rfl
theorem E6:y1Y Tryz.prog 6:=enters_of Tryz.func6 (by kernel_rfl) rfl
theorem T6:funcT Tryz.prog [] Tryz.f6=some c6.erase:=by kernel_rfl
theorem E21:y1Y Tryz.prog 21:=enters_of Tryz.func21 (by kernel_rfl) rfl
theorem T21:funcT Tryz.prog [12] Tryz.f21=some c21.erase:=by kernel_rfl
theorem E22:y1Y Tryz.prog 22:=enters_of Tryz.func22 (by kernel_rfl) rfl
theorem T22:funcT Tryz.prog [] Tryz.f22=some c22.erase:=by kernel_rfl
theorem E23:y1Y Tryz.prog 23:=enters_of Tryz.func23 (by kernel_rfl) rfl
theorem T23:funcT Tryz.prog [] Tryz.f23=some c23.erase:=by kernel_rfl
theorem E24:y1Y Tryz.prog 24:=enters_of Tryz.func24 (by kernel_rfl) rfl
theorem T24:funcT Tryz.prog [] Tryz.f24=some c24.erase:=by kernel_rfl
theorem E25:y1Y Tryz.prog 25:=enters_of Tryz.func25 (by kernel_rfl) rfl
theorem T25:funcT Tryz.prog [] Tryz.f25=some c25.erase:=by kernel_rfl
theorem E26:y1Y Tryz.prog 26:=enters_of Tryz.func26 (by kernel_rfl) rfl
theorem T26:funcT Tryz.prog [] Tryz.f26=some c26.erase:=by kernel_rfl
theorem E43:y1Y Tryz.prog 43:=enters_of Tryz.func43 (by kernel_rfl) rfl
theorem T43:funcT Tryz.prog [] Tryz.f43=some c43.erase:=by kernel_rfl
theorem E44:y1Y Tryz.prog 44:=enters_of Tryz.func44 (by kernel_rfl) rfl
theorem T44:funcT Tryz.prog [] Tryz.f44=some c44.erase:=by kernel_rfl
theorem E47:y1Y Tryz.prog 47:=enters_of Tryz.func47 (by kernel_rfl) rfl
theorem T47:funcT Tryz.prog [] Tryz.f47=some c47.erase:=by kernel_rfl
theorem E48:y1Y Tryz.prog 48:=enters_of Tryz.func48 (by kernel_rfl) rfl
theorem T48:funcT Tryz.prog [] Tryz.f48=some c48.erase:=by kernel_rfl
theorem E51:y1Y Tryz.prog 51:=enters_of Tryz.func51 (by kernel_rfl) rfl
theorem T51:funcT Tryz.prog [] Tryz.f51=some c51.erase:=by kernel_rfl
theorem E53:y1Y Tryz.prog 53:=enters_of Tryz.func53 (by kernel_rfl) rfl
theorem T53:funcT Tryz.prog [] Tryz.f53=some c53.erase:=by kernel_rfl
end Go.Proofs.AM
