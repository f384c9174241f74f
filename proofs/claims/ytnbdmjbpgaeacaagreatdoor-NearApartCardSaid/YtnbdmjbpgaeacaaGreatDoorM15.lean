/- Part 15 of the lemmas: APYc, APWa, APWb. -/
import Derived.Test.YtnbdmjbpgaeacaaGreatDoorM06
set_option maxRecDepth 100000
set_option maxHeartbeats 8000000
set_option linter.all false
namespace Go.Proofs.AM
open Go Cd
def c55:Func :=
⟨3,38,[.cell 6 41 true,.tmp 7],
 (SS [o 3 (.box (t 0)),o 4 (.box (t 1)),o 5 (.box (t 2)),o 6 (.alloc [Zz,Zz,Zz,Zz,Zz,Zz,(.sl 7 true []),(.sl 12 true []),(.sl 10 true []),(.sl 15 true []),(.sl 8 true []),(.sl 4 true []),(.sl 7 true []),(.sl 1 true []),Ee,Ee,Zz,Zz,Zz,(.sl 4 true []),(.sl 3 true []),(.sl 3 true []),(.sl 2 true []),(.sl 2 true []),Zz,Ee,Ee,Ee,Zz,Ee,Ee,Ee,Zz,Zz,Zz,(.sl 3 true []),Zz,Ee,Zz,Zz,(.bool false)]),KK 7 0]
 (QQ (SS [o 11 (.load 14 true (t 3)),o 12 (CC 45 [(t 11)]),vv 8 12]
 (SS [vv 13 8,o 14 (.bin .neq (t 13) (II 0))]
 (.cond (t 14) (SS [o 15 (.build [Zz,Zz,Zz,Zz,Zz,Zz,(.sl 7 true []),(.sl 12 true []),(.sl 10 true []),(.sl 15 true []),(.sl 8 true []),(.sl 4 true []),(.sl 7 true []),(.sl 1 true []),Ee,Ee,Zz,Zz,Zz,(.sl 4 true []),(.sl 3 true []),(.sl 3 true []),(.sl 2 true []),(.sl 2 true []),Zz,Ee,Ee,Ee,Zz,Ee,Ee,Ee,Zz,Zz,Zz,(.sl 3 true []),Zz,Ee,Zz,Zz,(.bool false)] []),vv 16 8,w (.store 41 (t 6) (t 15)),vv 7 16]
 .ret) .skip)))
 (QQ (SS [o 17 (.load 12 true (t 4)),o 18 (CC 82 [(t 17)]),vv 9 18]
 (SS [vv 19 9,o 20 (.bin .neq (t 19) (II 0))]
 (.cond (t 20) (SS [o 21 (.build [Zz,Zz,Zz,Zz,Zz,Zz,(.sl 7 true []),(.sl 12 true []),(.sl 10 true []),(.sl 15 true []),(.sl 8 true []),(.sl 4 true []),(.sl 7 true []),(.sl 1 true []),Ee,Ee,Zz,Zz,Zz,(.sl 4 true []),(.sl 3 true []),(.sl 3 true []),(.sl 2 true []),(.sl 2 true []),Zz,Ee,Ee,Ee,Zz,Ee,Ee,Ee,Zz,Zz,Zz,(.sl 3 true []),Zz,Ee,Zz,Zz,(.bool false)] []),vv 22 9,w (.store 41 (t 6) (t 21)),vv 7 22]
 .ret) .skip)))
 (SS [ff 23 9 3,ll 24 23,o 25 (.mkf 108 [] [(t 5)]),o 26 (CC 50 [(t 24),(t 25)]),vv 10 26]
 (QQ (SS [vv 27 10,o 28 (.bin .lss (t 27) (II 0))]
 (.cond (t 28) (SS [o 29 (.build [Zz,Zz,Zz,Zz,Zz,Zz,(.sl 7 true []),(.sl 12 true []),(.sl 10 true []),(.sl 15 true []),(.sl 8 true []),(.sl 4 true []),(.sl 7 true []),(.sl 1 true []),Ee,Ee,Zz,Zz,Zz,(.sl 4 true []),(.sl 3 true []),(.sl 3 true []),(.sl 2 true []),(.sl 2 true []),Zz,Ee,Ee,Ee,Zz,Ee,Ee,Ee,Zz,Zz,Zz,(.sl 3 true []),Zz,Ee,Zz,Zz,(.bool false)] []),w (.store 41 (t 6) (t 29)),KK 7 5]
 .ret) .skip))
 (SS [o 30 (.load 14 true (t 3)),o 31 (.load 12 true (t 4)),ff 32 9 3,ll 33 32,vv 34 10,o 35 (.iAddrS 15 (t 33) (t 34)),o 36 (.load 15 true (t 35)),o 37 (.build [Zz,Zz,Zz,Zz,Zz,Zz,(.sl 7 true []),(.sl 12 true []),(.sl 10 true []),(.sl 15 true []),(.sl 8 true []),(.sl 4 true []),(.sl 7 true []),(.sl 1 true []),Ee,Ee,Zz,Zz,Zz,(.sl 4 true []),(.sl 3 true []),(.sl 3 true []),(.sl 2 true []),(.sl 2 true []),Zz,Ee,Ee,Ee,Zz,Ee,Ee,Ee,Zz,Zz,Zz,(.sl 3 true []),Zz,Ee,Zz,Zz,(.bool false)] [(0,14,(t 30)),(14,12,(t 31)),(26,15,(t 36))]),w (.store 41 (t 6) (t 37)),KK 7 0]
 .ret))))))⟩
def c108:Func :=
⟨2,8,[.tmp 3],
 (SS [o 2 (.box (t 0)),o 3 (.mov (BB false))]
 (SS [ff 4 0 2,ll 5 4,ll 6 1,o 7 (.bin .eql (t 5) (t 6)),vv 3 7]
 .ret))⟩
def c111:Func :=
⟨3,12,[.tmp 6],
 (SS [o 3 (.box (t 0)),o 4 (.box (t 1)),o 5 (.box (t 2)),o 6 (.mov (BB false))]
 (SS [ff 7 0 3,ff 8 9 7,ll 9 8,o 10 (.mkf 170 [] [(t 5),(t 4),(t 3)]),o 11 (CC 169 [(t 9),(t 10)]),vv 6 11]
 .ret))⟩
def c170:Func :=
⟨4,37,[.tmp 5],
 (SS [o 4 (.box (t 0)),o 5 (.mov (BB false))]
 (SS [ff 6 0 4,ll 7 6,ff 8 11 1,ll 9 8,o 10 (.bin .eql (t 7) (t 9)),vv 11 10,gl 12 2 11 true,gg 13 (.bin .eql (t 12) (c (.str ⟨#[104,111,115,116]⟩))) 11 true,gv 14 13 11 true,gf 15 0 4 14 true,gl 16 15 14 true,gf 17 26 3 14 true,gf 18 0 17 14 true,gl 19 18 14 true,gg 20 (.bin .eql (t 16) (t 19)) 14 true,gg 21 (.pick (t 14) (t 20) (BB false)) 11 true,gv 22 21 11 true,gl 23 2 22 false,gg 24 (.bin .eql (t 23) (c (.str ⟨#[122,111,110,101]⟩))) 22 false,gv 25 24 22 false,gf 26 3 4 25 true,gf 27 1 26 25 true,gl 28 27 25 true,gf 29 26 3 25 true,gf 30 3 29 25 true,gf 31 1 30 25 true,gl 32 31 25 true,gg 33 (.bin .eql (t 28) (t 32)) 25 true,gg 34 (.pick (t 25) (t 33) (BB false)) 22 false,gg 35 (.pick (t 22) (BB true) (t 34)) 11 true,o 36 (.pick (t 11) (t 35) (BB false)),vv 5 36]
 .ret))⟩
def c63:Func :=
⟨1,31,[.tmp 2],
 (SS [o 1 (.box (t 0)),o 2 (.mov (c (.sl 12 true [])))]
 (SS [o 3 (.mov (c (.sl 12 true [])))]
 (.gh (.tmp 3 28 12 59) (QQ (SS [ff 6 0 1,ff 7 7 6,ll 8 7,o 9 (.lenSl (t 8)),KK 10 0]
 (.block 0 (.loop (SS [o 11 (.bin .lss (t 10) (t 9))]
 (QQ (.cond (t 11) .skip (.exit 0))
 (QQ (.block 1 (SS [o 12 (.iAddrS 12 (t 8) (t 10)),o 13 (.load 12 true (t 12)),o 5 (.alloc [Ee,Ee,Zz,Zz,Zz,(.sl 4 true []),(.sl 3 true []),(.sl 3 true []),(.sl 2 true []),(.sl 2 true []),Zz,Ee]),w (.store 12 (t 5) (t 13))]
 (SS [ff 14 11 5,ll 15 14,o 16 (.bin .neq (t 15) (c Ee)),vv 17 16,gf 18 0 5 17 true,gl 19 18 17 true,gf 20 14 1 17 true,gf 21 0 20 17 true,gl 22 21 17 true,gg 23 (.bin .neq (t 19) (t 22)) 17 true,o 24 (.pick (t 17) (t 23) (BB false))]
 (.cond (t 24) (.ops [vv 25 3,o 26 (.load 12 true (t 5)),o 27 (.mkSl false 12 59 (.agg [Ee,Ee,Zz,Zz,Zz,(.sl 4 true []),(.sl 3 true []),(.sl 3 true []),(.sl 2 true []),(.sl 2 true []),Zz,Ee]) 1 [(0,(t 26))]),o 28 (.app 12 59 200 (t 25) (t 27)),vv 3 28]) .skip))))
 (.ops [o 29 (.bin .add (t 10) (II 1)),vv 10 29])))))))
 (SS [vv 30 3,vv 2 30]
 .ret)))))⟩
def c57:Func :=
⟨2,36,[.tmp 4],
 (SS [o 2 (.box (t 0)),o 3 (.box (t 1)),o 4 (.mov (BB false))]
 (SS [o 5 (.mov (BB false))]
 (QQ (SS [o 8 (.load 41 true (t 2)),o 9 (CC 63 [(t 8)]),o 10 (.lenSl (t 9)),KK 11 0]
 (.block 0 (.loop (SS [o 12 (.bin .lss (t 11) (t 10))]
 (QQ (.cond (t 12) .skip (.exit 0))
 (QQ (.block 1 (SS [o 13 (.iAddrS 12 (t 9) (t 11)),o 14 (.load 12 true (t 13)),o 7 (.alloc [Ee,Ee,Zz,Zz,Zz,(.sl 4 true []),(.sl 3 true []),(.sl 3 true []),(.sl 2 true []),(.sl 2 true []),Zz,Ee]),w (.store 12 (t 7) (t 14))]
 (QQ (SS [ff 15 1 7,ll 16 15,ff 17 1 3,ll 18 17,o 19 (.bin .neq (t 16) (t 18))]
 (.cond (t 19) (.exit 1) .skip))
 (SS [o 5 (.mov (BB true))]
 (SS [o 20 (.load 41 true (t 2)),ff 21 0 3,ll 22 21,o 23 (.load 12 true (t 7)),o 24 (CC 111 [(t 20),(t 22),(t 23)])]
 (.cond (t 24) (SS [o 4 (.mov (BB true))]
 .ret) .skip))))))
 (.ops [o 25 (.bin .add (t 11) (II 1)),vv 11 25])))))))
 (SS [vv 26 5,o 27 (.un .not (t 26)),vv 28 27,gf 29 14 2 28 true,gf 30 1 29 28 true,gl 31 30 28 true,gf 32 1 3 28 true,gl 33 32 28 true,gg 34 (.bin .eql (t 31) (t 33)) 28 true,o 35 (.pick (t 28) (t 34) (BB false)),vv 4 35]
 .ret))))⟩
def c61:Func :=
⟨2,10,[.tmp 4],
 (SS [o 2 (.box (t 0)),o 3 (.box (t 1)),o 4 (.mov (BB false))]
 (SS [o 5 (.load 41 true (t 2)),o 6 (CC 63 [(t 5)]),o 7 (.mkf 113 [] [(t 3),(t 2)]),o 8 (CC 112 [(t 6),(t 7)]),o 9 (.un .not (t 8)),vv 4 9]
 .ret))⟩
def c113:Func :=
⟨3,17,[.tmp 4],
 (SS [o 3 (.box (t 0)),o 4 (.mov (BB false))]
 (SS [ff 5 1 3,ll 6 5,ff 7 1 1,ll 8 7,o 9 (.bin .eql (t 6) (t 8)),vv 10 9,gg 11 (.load 41 true (t 2)) 10 true,gf 12 0 1 10 true,gl 13 12 10 true,gg 14 (.load 12 true (t 3)) 10 true,gg 15 (CC 111 [(t 11),(t 13),(t 14)]) 10 true,o 16 (.pick (t 10) (t 15) (BB false)),vv 4 16]
 .ret))⟩
def c64:Func :=
⟨2,10,[.tmp 4],
 (SS [o 2 (.box (t 0)),o 3 (.box (t 1)),o 4 (.mov (BB false))]
 (SS [ff 5 9 3,ll 6 5,o 7 (.mkf 115 [] [(t 2),(t 3)]),o 8 (CC 109 [(t 6),(t 7)]),o 9 (.un .not (t 8)),vv 4 9]
 .ret))⟩
def c115:Func :=
⟨3,18,[.tmp 4],
 (SS [o 3 (.box (t 0)),o 4 (.mov (BB false))]
 (SS [ff 5 1 3,ll 6 5,ff 7 14 1,ff 8 1 7,ll 9 8,o 10 (.bin .eql (t 6) (t 9)),vv 11 10,gg 12 (.load 41 true (t 1)) 11 true,gf 13 0 3 11 true,gl 14 13 11 true,gg 15 (.load 12 true (t 2)) 11 true,gg 16 (CC 111 [(t 12),(t 14),(t 15)]) 11 true,o 17 (.pick (t 11) (t 16) (BB false)),vv 4 17]
 .ret))⟩
def c56:Func :=
⟨2,9,[.tmp 4],
 (SS [o 3 (.box (t 1)),o 4 (.mov (BB false))]
 (SS [vv 5 0,o 6 (.mkf 110 [] [(t 3)]),o 7 (CC 109 [(t 5),(t 6)]),o 8 (.un .not (t 7)),vv 4 8]
 .ret))⟩
def c110:Func :=
⟨2,8,[.tmp 3],
 (SS [o 2 (.box (t 0)),o 3 (.mov (BB false))]
 (SS [ll 4 1,o 5 (.load 2 true (t 2)),o 6 (.call false (t 4) [(t 5)]),o 7 (.un .not (t 6)),vv 3 7]
 .ret))⟩
def c62:Func :=
⟨2,9,[.tmp 4],
 (SS [o 3 (.box (t 1)),o 4 (.mov (BB false))]
 (SS [vv 5 0,o 6 (.mkf 114 [] [(t 3)]),o 7 (CC 112 [(t 5),(t 6)]),o 8 (.un .not (t 7)),vv 4 8]
 .ret))⟩
def c114:Func :=
⟨2,8,[.tmp 3],
 (SS [o 2 (.box (t 0)),o 3 (.mov (BB false))]
 (SS [ll 4 1,o 5 (.load 12 true (t 2)),o 6 (.call false (t 4) [(t 5)]),o 7 (.un .not (t 6)),vv 3 7]
 .ret))⟩
def c28:Func :=
⟨3,27,[.tmp 6,.tmp 7],
 (SS [o 3 (.box (t 0)),o 4 (.box (t 1)),o 6 (.mov (BB false)),KK 7 0]
 (SS [o 11 (.load 14 true (t 3)),o 12 (.load 12 true (t 4)),vv 13 2,o 14 (CC 55 [(t 11),(t 12),(t 13)]),vv 10 14,o 15 (.ext 0 (t 10)),o 16 (.ext 1 (t 10)),o 8 (.alloc [Zz,Zz,Zz,Zz,Zz,Zz,(.sl 7 true []),(.sl 12 true []),(.sl 10 true []),(.sl 15 true []),(.sl 8 true []),(.sl 4 true []),(.sl 7 true []),(.sl 1 true []),Ee,Ee,Zz,Zz,Zz,(.sl 4 true []),(.sl 3 true []),(.sl 3 true []),(.sl 2 true []),(.sl 2 true []),Zz,Ee,Ee,Ee,Zz,Ee,Ee,Ee,Zz,Zz,Zz,(.sl 3 true []),Zz,Ee,Zz,Zz,(.bool false)]),w (.store 41 (t 8) (t 15)),vv 9 16]
 (SS [vv 17 9,o 18 (.bin .eql (t 17) (II 0)),vv 19 18,gf 20 8 4 19 true,gl 21 20 19 true,gg 22 (.load 41 true (t 8)) 19 true,gg 23 (.mkf 57 [(t 22)] []) 19 true,gg 24 (CC 56 [(t 21),(t 23)]) 19 true,o 25 (.pick (t 19) (t 24) (BB false)),vv 26 9,vv 6 25,vv 7 26]
 .ret)))⟩
def c30:Func :=
⟨3,34,[.tmp 6,.tmp 7],
 (SS [o 3 (.box (t 0)),o 4 (.box (t 1)),o 6 (.mov (BB false)),KK 7 0]
 (SS [o 11 (.load 14 true (t 3)),o 12 (.load 12 true (t 4)),vv 13 2,o 14 (CC 55 [(t 11),(t 12),(t 13)]),vv 10 14,o 15 (.ext 0 (t 10)),o 16 (.ext 1 (t 10)),o 8 (.alloc [Zz,Zz,Zz,Zz,Zz,Zz,(.sl 7 true []),(.sl 12 true []),(.sl 10 true []),(.sl 15 true []),(.sl 8 true []),(.sl 4 true []),(.sl 7 true []),(.sl 1 true []),Ee,Ee,Zz,Zz,Zz,(.sl 4 true []),(.sl 3 true []),(.sl 3 true []),(.sl 2 true []),(.sl 2 true []),Zz,Ee,Ee,Ee,Zz,Ee,Ee,Ee,Zz,Zz,Zz,(.sl 3 true []),Zz,Ee,Zz,Zz,(.bool false)]),w (.store 41 (t 8) (t 15)),vv 9 16]
 (SS [vv 17 9,o 18 (.bin .eql (t 17) (II 0)),vv 19 18,gf 20 9 4 19 true,gl 21 20 19 true,gg 22 (.load 41 true (t 8)) 19 true,gg 23 (.mkf 61 [(t 22)] []) 19 true,gg 24 (.call true (c (.fn 56 [] [])) [(t 21),(t 23)]) 19 true,o 25 (.pick (t 19) (t 24) (BB false)),vv 26 25,gg 27 (.load 41 true (t 8)) 26 true,gg 28 (.call true (c (.fn 63 [] [])) [(t 27)]) 26 true,gg 29 (.load 41 true (t 8)) 26 true,gg 30 (.mkf 64 [(t 29)] []) 26 true,gg 31 (.call true (c (.fn 62 [] [])) [(t 28),(t 30)]) 26 true,o 32 (.pick (t 26) (t 31) (BB false)),vv 33 9,vv 6 32,vv 7 33]
 .ret)))⟩
def c58:Func :=
⟨3,29,[.tmp 6],
 (SS [o 3 (.box (t 0)),o 4 (.box (t 1)),KK 6 0]
 (QQ (SS [o 11 (.load 14 true (t 3)),o 12 (CC 33 [(t 11)]),vv 7 12]
 (SS [vv 13 7,o 14 (.bin .neq (t 13) (II 0))]
 (.cond (t 14) (SS [vv 15 7,vv 6 15]
 .ret) .skip)))
 (QQ (SS [o 16 (.load 12 true (t 4)),o 17 (CC 32 [(t 16)]),vv 8 17]
 (SS [vv 18 8,o 19 (.bin .neq (t 18) (II 0))]
 (.cond (t 19) (SS [vv 20 8,vv 6 20]
 .ret) .skip)))
 (QQ (SS [o 22 (.load 14 true (t 3)),vv 23 2,o 24 (CC 76 [(t 22),(t 23)]),vv 21 24,o 25 (.ext 0 (t 21)),o 26 (.ext 1 (t 21)),o 9 (.alloc [Ee,Ee,Zz,Ee,Ee,Ee,Zz,Zz,Zz,(.sl 3 true []),Zz,Ee,Zz,Zz,(.bool false)]),w (.store 15 (t 9) (t 25)),vv 10 26]
 (SS [vv 27 10,o 28 (.un .not (t 27))]
 (.cond (t 28) (SS [KK 6 5]
 .ret) .skip)))
 (SS [KK 6 0]
 .ret)))))⟩
def c59:Func :=
⟨2,30,[.tmp 4],
 (SS [o 2 (.box (t 0)),o 4 (.mov (c (.sl 12 true [])))]
 (SS [o 5 (.mov (c (.sl 12 true [])))]
 (.gh (.tmp 5 27 12 59) (QQ (SS [ff 8 7 2,ll 9 8,o 10 (.lenSl (t 9)),KK 11 0]
 (.block 0 (.loop (SS [o 12 (.bin .lss (t 11) (t 10))]
 (QQ (.cond (t 12) .skip (.exit 0))
 (QQ (.block 1 (SS [o 13 (.iAddrS 12 (t 9) (t 11)),o 14 (.load 12 true (t 13)),o 7 (.alloc [Ee,Ee,Zz,Zz,Zz,(.sl 4 true []),(.sl 3 true []),(.sl 3 true []),(.sl 2 true []),(.sl 2 true []),Zz,Ee]),w (.store 12 (t 7) (t 14))]
 (SS [ff 15 11 7,ll 16 15,o 17 (.bin .neq (t 16) (c Ee)),vv 18 17,gf 19 0 7 18 true,gl 20 19 18 true,gv 21 1 18 true,gg 22 (.bin .neq (t 20) (t 21)) 18 true,o 23 (.pick (t 18) (t 22) (BB false))]
 (.cond (t 23) (.ops [vv 24 5,o 25 (.load 12 true (t 7)),o 26 (.mkSl false 12 59 (.agg [Ee,Ee,Zz,Zz,Zz,(.sl 4 true []),(.sl 3 true []),(.sl 3 true []),(.sl 2 true []),(.sl 2 true []),Zz,Ee]) 1 [(0,(t 25))]),o 27 (.app 12 59 200 (t 24) (t 26)),vv 5 27]) .skip))))
 (.ops [o 28 (.bin .add (t 11) (II 1)),vv 11 28])))))))
 (SS [vv 29 5,vv 4 29]
 .ret)))))⟩
def c60:Func :=
⟨4,33,[.tmp 8],
 (SS [o 4 (.box (t 0)),o 6 (.box (t 2)),o 8 (.mov (BB false))]
 (SS [o 14 (.load 14 true (t 4)),ff 15 11 6,ll 16 15,o 17 (CC 76 [(t 14),(t 16)]),vv 13 17,o 18 (.ext 0 (t 13)),o 19 (.ext 1 (t 13)),o 9 (.alloc [Ee,Ee,Zz,Ee,Ee,Ee,Zz,Zz,Zz,(.sl 3 true []),Zz,Ee,Zz,Zz,(.bool false)]),w (.store 15 (t 9) (t 18)),vv 10 19]
 (SS [o 21 (.load 14 true (t 4)),vv 22 3,o 23 (CC 76 [(t 21),(t 22)]),vv 20 23,o 24 (.ext 0 (t 20)),o 25 (.ext 1 (t 20)),o 11 (.alloc [Ee,Ee,Zz,Ee,Ee,Ee,Zz,Zz,Zz,(.sl 3 true []),Zz,Ee,Zz,Zz,(.bool false)]),w (.store 15 (t 11) (t 24)),vv 12 25]
 (SS [vv 26 1,o 27 (.load 15 true (t 9)),o 28 (.call true (c (.fn 85 [] [])) [(t 26),(t 27)]),vv 29 1,o 30 (.load 15 true (t 11)),o 31 (.call true (c (.fn 85 [] [])) [(t 29),(t 30)]),o 32 (.bin .eql (t 28) (t 31)),vv 8 32]
 .ret))))⟩
def c29:Func :=
⟨3,66,[.tmp 6,.tmp 7],
 (SS [o 3 (.box (t 0)),o 4 (.box (t 1)),o 6 (.mov (BB false)),KK 7 0]
 (QQ (SS [o 15 (.load 14 true (t 3)),o 16 (.load 12 true (t 4)),vv 17 2,o 18 (CC 58 [(t 15),(t 16),(t 17)]),vv 8 18]
 (SS [vv 19 8,o 20 (.bin .neq (t 19) (II 0))]
 (.cond (t 20) (SS [vv 21 8,o 6 (.mov (BB false)),vv 7 21]
 .ret) .skip)))
 (QQ (SS [ff 22 8 4,ll 23 22,o 24 (.lenSl (t 23)),KK 25 0]
 (.block 0 (.loop (SS [o 26 (.bin .lss (t 25) (t 24))]
 (QQ (.cond (t 26) .skip (.exit 0))
 (QQ (.block 1 (SS [o 27 (.iAddrS 2 (t 23) (t 25)),o 28 (.load 2 true (t 27)),o 10 (.alloc [Ee,Ee]),w (.store 2 (t 10) (t 28))]
 (SS [o 11 (.mov (BB false))]
 (SS [o 12 (.mov (BB false))]
 (QQ (SS [o 29 (.load 14 true (t 3)),ff 30 0 4,ll 31 30,o 32 (CC 59 [(t 29),(t 31)]),o 33 (.lenSl (t 32)),KK 34 0]
 (.block 2 (.loop (SS [o 35 (.bin .lss (t 34) (t 33))]
 (QQ (.cond (t 35) .skip (.exit 2))
 (QQ (.block 3 (SS [o 36 (.iAddrS 12 (t 32) (t 34)),o 37 (.load 12 true (t 36)),o 14 (.alloc [Ee,Ee,Zz,Zz,Zz,(.sl 4 true []),(.sl 3 true []),(.sl 3 true []),(.sl 2 true []),(.sl 2 true []),Zz,Ee]),w (.store 12 (t 14) (t 37))]
 (SS [ff 38 1 14,ll 39 38,ff 40 1 10,ll 41 40,o 42 (.bin .eql (t 39) (t 41))]
 (.cond (t 42) (SS [o 11 (.mov (BB true))]
 (.ops [vv 43 12,vv 44 43,gg 45 (.load 14 true (t 3)) 44 false,gf 46 0 10 44 false,gl 47 46 44 false,gg 48 (.load 12 true (t 14)) 44 false,gv 49 2 44 false,gg 50 (CC 60 [(t 45),(t 47),(t 48),(t 49)]) 44 false,o 51 (.pick (t 44) (BB true) (t 50)),vv 12 51])) .skip))))
 (.ops [o 52 (.bin .add (t 34) (II 1)),vv 34 52])))))))
 (SS [vv 53 12,o 54 (.un .not (t 53)),vv 55 54,gv 56 11 55 true,gv 57 56 55 true,gf 58 1 4 57 false,gl 59 58 57 false,gf 60 1 10 57 false,gl 61 60 57 false,gg 62 (.bin .neq (t 59) (t 61)) 57 false,gg 63 (.pick (t 57) (BB true) (t 62)) 55 true,o 64 (.pick (t 55) (t 63) (BB false))]
 (.cond (t 64) (SS [o 6 (.mov (BB false)),KK 7 0]
 .ret) .skip)))))))
 (.ops [o 65 (.bin .add (t 25) (II 1)),vv 25 65])))))))
 (SS [o 6 (.mov (BB true)),KK 7 0]
 .ret))))⟩
def c31:Func :=
⟨3,74,[.tmp 6,.tmp 7],
 (SS [o 3 (.box (t 0)),o 4 (.box (t 1)),o 6 (.mov (BB false)),KK 7 0]
 (QQ (SS [o 15 (.load 14 true (t 3)),o 16 (.load 12 true (t 4)),vv 17 2,o 18 (CC 58 [(t 15),(t 16),(t 17)]),vv 8 18]
 (SS [vv 19 8,o 20 (.bin .neq (t 19) (II 0))]
 (.cond (t 20) (SS [vv 21 8,o 6 (.mov (BB false)),vv 7 21]
 .ret) .skip)))
 (QQ (SS [o 22 (.load 14 true (t 3)),ff 23 0 4,ll 24 23,o 25 (CC 59 [(t 22),(t 24)]),o 26 (.lenSl (t 25)),KK 27 0]
 (.block 0 (.loop (SS [o 28 (.bin .lss (t 27) (t 26))]
 (QQ (.cond (t 28) .skip (.exit 0))
 (QQ (.block 1 (SS [o 29 (.iAddrS 12 (t 25) (t 27)),o 30 (.load 12 true (t 29)),o 10 (.alloc [Ee,Ee,Zz,Zz,Zz,(.sl 4 true []),(.sl 3 true []),(.sl 3 true []),(.sl 2 true []),(.sl 2 true []),Zz,Ee]),w (.store 12 (t 10) (t 30))]
 (QQ (SS [ff 31 9 4,ll 32 31,o 33 (.lenSl (t 32)),KK 34 0]
 (.block 2 (.loop (SS [o 35 (.bin .lss (t 34) (t 33))]
 (QQ (.cond (t 35) .skip (.exit 2))
 (QQ (.block 3 (SS [o 36 (.iAddrS 2 (t 32) (t 34)),o 37 (.load 2 true (t 36)),o 12 (.alloc [Ee,Ee]),w (.store 2 (t 12) (t 37))]
 (SS [ff 38 1 10,ll 39 38,ff 40 1 12,ll 41 40,o 42 (.bin .eql (t 39) (t 41)),vv 43 42,gg 44 (.load 14 true (t 3)) 43 true,gf 45 0 12 43 true,gl 46 45 43 true,gg 47 (.load 12 true (t 10)) 43 true,gv 48 2 43 true,gg 49 (CC 60 [(t 44),(t 46),(t 47),(t 48)]) 43 true,o 50 (.pick (t 43) (t 49) (BB false))]
 (.cond (t 50) (SS [o 6 (.mov (BB false)),KK 7 0]
 .ret) .skip))))
 (.ops [o 51 (.bin .add (t 34) (II 1)),vv 34 51])))))))
 (SS [ff 52 9 10,ll 53 52,o 54 (.lenSl (t 53)),KK 55 0]
 (.block 4 (.loop (SS [o 56 (.bin .lss (t 55) (t 54))]
 (QQ (.cond (t 56) .skip (.exit 4))
 (QQ (.block 5 (SS [o 57 (.iAddrS 2 (t 53) (t 55)),o 58 (.load 2 true (t 57)),o 14 (.alloc [Ee,Ee]),w (.store 2 (t 14) (t 58))]
 (SS [ff 59 1 4,ll 60 59,ff 61 1 14,ll 62 61,o 63 (.bin .eql (t 60) (t 62)),vv 64 63,gg 65 (.load 14 true (t 3)) 64 true,gf 66 0 14 64 true,gl 67 66 64 true,gg 68 (.load 12 true (t 10)) 64 true,gv 69 2 64 true,gg 70 (CC 60 [(t 65),(t 67),(t 68),(t 69)]) 64 true,o 71 (.pick (t 64) (t 70) (BB false))]
 (.cond (t 71) (SS [o 6 (.mov (BB false)),KK 7 0]
 .ret) .skip))))
 (.ops [o 72 (.bin .add (t 55) (II 1)),vv 55 72]))))))))))
 (.ops [o 73 (.bin .add (t 27) (II 1)),vv 27 73])))))))
 (SS [o 6 (.mov (BB true)),KK 7 0]
 .ret))))⟩
def c85:Func :=
⟨2,12,[.tmp 4],
 (SS [o 3 (.box (t 1)),o 4 (.mov (c Ee))]
 (QQ (SS [vv 5 0,o 6 (.bin .eql (t 5) (c (.str ⟨#[122,111,110,101]⟩)))]
 (.cond (t 6) (SS [ff 7 3 3,ff 8 1 7,ll 9 8,vv 4 9]
 .ret) .skip))
 (SS [ff 10 0 3,ll 11 10,vv 4 11]
 .ret)))⟩
def c109:Func :=
⟨2,9,[.tmp 4],
 (SS [o 4 (.mov (BB false))]
 (SS [vv 5 0,vv 6 1,o 7 (CC 168 [(t 5),(t 6)]),o 8 (.bin .geq (t 7) (II 0)),vv 4 8]
 .ret))⟩
def c168:Func :=
⟨2,19,[.tmp 4],
 (SS [KK 4 0]
 (QQ (SS [vv 6 0,o 7 (.lenSl (t 6)),KK 8 0]
 (.block 0 (.loop (SS [o 9 (.bin .lss (t 8) (t 7))]
 (QQ (.cond (t 9) .skip (.exit 0))
 (QQ (.block 1 (SS [vv 10 8,vv 5 10]
 (SS [vv 11 1,vv 12 0,vv 13 5,o 14 (.iAddrS 2 (t 12) (t 13)),o 15 (.load 2 true (t 14)),o 16 (.call false (t 11) [(t 15)])]
 (.cond (t 16) (SS [vv 17 5,vv 4 17]
 .ret) .skip))))
 (.ops [o 18 (.bin .add (t 8) (II 1)),vv 8 18])))))))
 (SS [o 4 (.mov (c (jI (-1))))]
 .ret)))⟩
def c112:Func :=
⟨2,9,[.tmp 4],
 (SS [o 4 (.mov (BB false))]
 (SS [vv 5 0,vv 6 1,o 7 (CC 171 [(t 5),(t 6)]),o 8 (.bin .geq (t 7) (II 0)),vv 4 8]
 .ret))⟩
def c171:Func :=
⟨2,19,[.tmp 4],
 (SS [KK 4 0]
 (QQ (SS [vv 6 0,o 7 (.lenSl (t 6)),KK 8 0]
 (.block 0 (.loop (SS [o 9 (.bin .lss (t 8) (t 7))]
 (QQ (.cond (t 9) .skip (.exit 0))
 (QQ (.block 1 (SS [vv 10 8,vv 5 10]
 (SS [vv 11 1,vv 12 0,vv 13 5,o 14 (.iAddrS 12 (t 12) (t 13)),o 15 (.load 12 true (t 14)),o 16 (.call false (t 11) [(t 15)])]
 (.cond (t 16) (SS [vv 17 5,vv 4 17]
 .ret) .skip))))
 (.ops [o 18 (.bin .add (t 8) (II 1)),vv 8 18])))))))
 (SS [o 4 (.mov (c (jI (-1))))]
 .ret)))⟩
def c82:Func :=
⟨1,40,[.tmp 2],
 (SS [o 1 (.box (t 0)),KK 2 0]
 (SS [ff 3 0 1,ll 4 3,ff 5 1 1,ll 6 5,o 7 (.mkSl true 1 9 Ee 2 [(0,(t 4)),(1,(t 6))]),o 8 (.call true (c (.fn 134 [] [])) [(t 7)]),o 9 (.call true (c (.fn 133 [] [])) [(t 8),(II 7)]),ff 10 2 1,o 11 (.load 2 true (t 10)),o 12 (.call true (c (.fn 135 [] [])) [(t 11)]),ff 13 4 1,ll 14 13,o 15 (.bin .geq (t 14) (c (jI (-1000)))),vv 16 15,gf 17 4 1 16 true,gl 18 17 16 true,gg 19 (.bin .leq (t 18) (II 1000)) 16 true,o 20 (.pick (t 16) (t 19) (BB false)),o 21 (.call true (c (.fn 133 [] [])) [(t 20),(II 1)]),ff 22 5 1,ll 23 22,o 24 (.call true (c (.fn 136 [] [])) [(t 23)]),ff 25 6 1,ll 26 25,o 27 (.call true (c (.fn 137 [] [])) [(t 26)]),o 28 (.load 12 true (t 1)),o 29 (.call true (c (.fn 138 [] [])) [(t 28)]),ff 30 10 1,ll 31 30,o 32 (.call true (c (.fn 139 [] [])) [(t 31),(II 0),(II 1099511627776)]),o 33 (.call true (c (.fn 133 [] [])) [(t 32),(II 1)]),ff 34 11 1,ll 35 34,o 36 (.call true (c (.fn 140 [] [])) [(t 35)]),o 37 (.call true (c (.fn 133 [] [])) [(t 36),(II 7)]),o 38 (.mkSl true 1 35 Zz 8 [(0,(t 9)),(1,(t 12)),(2,(t 21)),(3,(t 24)),(4,(t 27)),(5,(t 29)),(6,(t 33)),(7,(t 37))]),o 39 (.call true (c (.fn 132 [] [])) [(t 38)]),vv 2 39]
 .ret))⟩
def c160:Func :=
⟨1,57,[.tmp 2],
 (SS [o 1 (.box (t 0)),KK 2 0]
 (SS [ff 3 0 1,ll 4 3,o 5 (.mkSl true 1 9 Ee 1 [(0,(t 4))]),o 6 (.call true (c (.fn 134 [] [])) [(t 5)]),o 7 (.call true (c (.fn 133 [] [])) [(t 6),(II 7)]),ff 8 1 1,ll 9 8,o 10 (.bin .geq (t 9) (II 0)),vv 11 10,gf 12 1 1 11 true,gl 13 12 11 true,gg 14 (.bin .leq (t 13) (II 100)) 11 true,o 15 (.pick (t 11) (t 14) (BB false)),o 16 (.call true (c (.fn 133 [] [])) [(t 15),(II 1)]),ff 17 2 1,o 18 (.load 2 true (t 17)),o 19 (.call true (c (.fn 135 [] [])) [(t 18)]),ff 20 4 1,ll 21 20,o 22 (.call true (c (.fn 136 [] [])) [(t 21)]),ff 23 5 1,ll 24 23,o 25 (.call true (c (.fn 201 [] [])) [(t 24)]),ff 26 6 1,ll 27 26,o 28 (.call true (c (.fn 139 [] [])) [(t 27),(II 0),(II 1099511627776)]),vv 29 28,gf 30 7 1 29 true,gl 31 30 29 true,gg 32 (.call true (c (.fn 139 [] [])) [(t 31),(II 0),(II 1073741824)]) 29 true,o 33 (.pick (t 29) (t 32) (BB false)),vv 34 33,gf 35 8 1 34 true,gl 36 35 34 true,gg 37 (.bin .geq (t 36) (II 0)) 34 true,o 38 (.pick (t 34) (t 37) (BB false)),vv 39 38,gf 40 8 1 39 true,gl 41 40 39 true,gg 42 (.bin .leq (t 41) (II 16)) 39 true,o 43 (.pick (t 39) (t 42) (BB false)),vv 44 43,gf 45 9 1 44 true,gl 46 45 44 true,gg 47 (.bin .geq (t 46) (II 0)) 44 true,o 48 (.pick (t 44) (t 47) (BB false)),vv 49 48,gf 50 9 1 49 true,gl 51 50 49 true,gg 52 (.bin .leq (t 51) (II 2)) 49 true,o 53 (.pick (t 49) (t 52) (BB false)),o 54 (.call true (c (.fn 133 [] [])) [(t 53),(II 1)]),o 55 (.mkSl true 1 35 Zz 6 [(0,(t 7)),(1,(t 16)),(2,(t 19)),(3,(t 22)),(4,(t 25)),(5,(t 54))]),o 56 (.call true (c (.fn 132 [] [])) [(t 55)]),vv 2 56]
 .ret))⟩
def c161:Func :=
⟨1,63,[.tmp 2],
 (SS [o 1 (.box (t 0)),KK 2 0]
 (SS [ff 3 0 1,ll 4 3,ff 5 1 1,ll 6 5,ff 7 3 1,ff 8 0 7,ll 9 8,ff 10 3 1,ff 11 1 10,ll 12 11,ff 13 3 1,ff 14 2 13,ll 15 14,o 16 (.mkSl true 1 9 Ee 5 [(0,(t 4)),(1,(t 6)),(2,(t 9)),(3,(t 12)),(4,(t 15))]),o 17 (.call true (c (.fn 134 [] [])) [(t 16)]),o 18 (.call true (c (.fn 133 [] [])) [(t 17),(II 7)]),ff 19 6 1,ll 20 19,o 21 (.call true (c (.fn 185 [] [])) [(t 20)]),ff 22 7 1,o 23 (.load 2 true (t 22)),o 24 (.call true (c (.fn 135 [] [])) [(t 23)]),ff 25 9 1,ll 26 25,o 27 (.call true (c (.fn 202 [] [])) [(t 26)]),ff 28 10 1,ll 29 28,o 30 (.bin .geq (t 29) (II 1)),vv 31 30,gf 32 10 1 31 true,gl 33 32 31 true,gg 34 (.bin .leq (t 33) (II 32)) 31 true,o 35 (.pick (t 31) (t 34) (BB false)),o 36 (.call true (c (.fn 133 [] [])) [(t 35),(II 1)]),ff 37 11 1,ll 38 37,o 39 (.lenStr (t 38)),o 40 (.bin .leq (t 39) (II 16)),o 41 (.call true (c (.fn 133 [] [])) [(t 40),(II 2)]),ff 42 12 1,ll 43 42,o 44 (.bin .geq (t 43) (II 1)),vv 45 44,gf 46 12 1 45 true,gl 47 46 45 true,gg 48 (.bin .leq (t 47) (II 4)) 45 true,o 49 (.pick (t 45) (t 48) (BB false)),vv 50 49,gf 51 2 1 50 true,gl 52 51 50 true,gg 53 (.call true (c (.fn 139 [] [])) [(t 52),(II 0),(II 1099511627776)]) 50 true,o 54 (.pick (t 50) (t 53) (BB false)),vv 55 54,gf 56 13 1 55 true,gl 57 56 55 true,gg 58 (.call true (c (.fn 139 [] [])) [(t 57),(II 0),(II 1099511627776)]) 55 true,o 59 (.pick (t 55) (t 58) (BB false)),o 60 (.call true (c (.fn 133 [] [])) [(t 59),(II 1)]),o 61 (.mkSl true 1 35 Zz 7 [(0,(t 18)),(1,(t 21)),(2,(t 24)),(3,(t 27)),(4,(t 36)),(5,(t 41)),(6,(t 60))]),o 62 (.call true (c (.fn 132 [] [])) [(t 61)]),vv 2 62]
 .ret))⟩
def c166:Func :=
⟨1,87,[.tmp 2],
 (SS [o 1 (.box (t 0)),KK 2 0]
 (SS [ff 6 0 1,ll 7 6,o 8 (.bin .geq (t 7) (II 1)),vv 9 8,gf 10 0 1 9 true,gl 11 10 9 true,gg 12 (.bin .leq (t 11) (II 4)) 9 true,o 13 (.pick (t 9) (t 12) (BB false)),vv 14 13,gf 15 2 1 14 true,gl 16 15 14 true,gg 17 (.bin .geq (t 16) (II 1)) 14 true,o 18 (.pick (t 14) (t 17) (BB false)),vv 19 18,gf 20 2 1 19 true,gl 21 20 19 true,gg 22 (.bin .leq (t 21) (II 3)) 19 true,o 23 (.pick (t 19) (t 22) (BB false)),o 24 (.call true (c (.fn 133 [] [])) [(t 23),(II 1)]),ff 25 1 1,ll 26 25,o 27 (.lenSl (t 26)),o 28 (.bin .leq (t 27) (II 4)),o 29 (.call true (c (.fn 133 [] [])) [(t 28),(II 3)]),ff 30 1 1,ll 31 30,o 32 (.lenSl (t 31)),o 33 (.bin .gtr (t 32) (II 0)),o 34 (.call true (c (.fn 133 [] [])) [(t 33),(II 1)]),o 35 (.mkSl true 1 35 Zz 3 [(0,(t 24)),(1,(t 29)),(2,(t 34))]),o 36 (.call true (c (.fn 132 [] [])) [(t 35)]),vv 3 36]
 (QQ (SS [ff 37 1 1,ll 38 37,o 39 (.lenSl (t 38)),KK 40 0]
 (.block 0 (.loop (SS [o 41 (.bin .lss (t 40) (t 39))]
 (QQ (.cond (t 41) .skip (.exit 0))
 (QQ (.block 1 (SS [vv 42 40,o 43 (.iAddrS 1 (t 38) (t 40)),ll 44 43,vv 4 42,vv 5 44]
 (QQ (SS [vv 45 3,o 46 (.bin .neq (t 45) (II 0))]
 (.cond (t 46) (SS [vv 47 3,vv 2 47]
 .ret) .skip))
 (.ops [vv 48 5,o 49 (.mkSl false 1 9 Ee 1 [(0,(t 48))]),o 50 (CC 134 [(t 49)]),o 51 (CC 133 [(t 50),(II 7)]),vv 52 4,o 53 (.bin .eql (t 52) (II 0)),vv 54 53,gf 55 1 1 54 false,gl 56 55 54 false,gv 57 4 54 false,gg 58 (.bin .sub (t 57) (II 1)) 54 false,gg 59 (.iAddrS 1 (t 56) (t 58)) 54 false,gl 60 59 54 false,gv 61 5 54 false,gg 62 (.bin .lss (t 60) (t 61)) 54 false,o 63 (.pick (t 54) (BB true) (t 62)),o 64 (CC 133 [(t 63),(II 6)]),o 65 (.mkSl false 1 35 Zz 2 [(0,(t 51)),(1,(t 64))]),o 66 (CC 132 [(t 65)]),vv 3 66]))))
 (.ops [o 67 (.bin .add (t 40) (II 1)),vv 40 67])))))))
 (SS [vv 68 3,ff 69 3 1,ll 70 69,o 71 (.call true (c (.fn 139 [] [])) [(t 70),(II 0),(II 1099511627776)]),o 72 (.call true (c (.fn 133 [] [])) [(t 71),(II 1)]),ff 73 4 1,ll 74 73,o 75 (.call true (c (.fn 140 [] [])) [(t 74)]),vv 76 75,gf 77 5 1 76 true,gl 78 77 76 true,gg 79 (.call true (c (.fn 140 [] [])) [(t 78)]) 76 true,o 80 (.pick (t 76) (t 79) (BB false)),o 81 (.call true (c (.fn 133 [] [])) [(t 80),(II 7)]),ff 82 6 1,ll 83 82,o 84 (.call true (c (.fn 202 [] [])) [(t 83)]),o 85 (.mkSl true 1 35 Zz 4 [(0,(t 68)),(1,(t 72)),(2,(t 81)),(3,(t 84))]),o 86 (.call true (c (.fn 132 [] [])) [(t 85)]),vv 2 86]
 .ret))))⟩
def c32:Func :=
⟨1,114,[.tmp 2],
 (SS [o 1 (.box (t 0)),KK 2 0]
 (QQ (SS [ff 11 0 1,ll 12 11,o 13 (CC 65 [(t 12)]),o 14 (.un .not (t 13)),vv 15 14,gf 16 1 1 15 false,gl 17 16 15 false,gg 18 (CC 65 [(t 17)]) 15 false,gg 19 (.un .not (t 18)) 15 false,o 20 (.pick (t 15) (BB true) (t 19))]
 (.cond (t 20) (SS [KK 2 7]
 .ret) .skip))
 (QQ (SS [ff 21 2 1,o 22 (.load 2 true (t 21)),o 23 (CC 66 [(t 22)]),vv 3 23]
 (SS [vv 24 3,o 25 (.bin .neq (t 24) (II 0))]
 (.cond (t 25) (SS [vv 26 3,vv 2 26]
 .ret) .skip)))
 (QQ (SS [ff 27 4 1,ll 28 27,o 29 (.bin .lss (t 28) (c (jI (-1000)))),vv 30 29,gf 31 4 1 30 false,gl 32 31 30 false,gg 33 (.bin .gtr (t 32) (II 1000)) 30 false,o 34 (.pick (t 30) (BB true) (t 33))]
 (.cond (t 34) (SS [KK 2 1]
 .ret) .skip))
 (QQ (SS [ff 35 5 1,ll 36 35,o 37 (CC 67 [(t 36)]),vv 4 37]
 (SS [vv 38 4,o 39 (.bin .neq (t 38) (II 0))]
 (.cond (t 39) (SS [vv 40 4,vv 2 40]
 .ret) .skip)))
 (QQ (SS [ff 41 6 1,ll 42 41,o 43 (CC 68 [(t 42)]),vv 5 43]
 (SS [vv 44 5,o 45 (.bin .neq (t 44) (II 0))]
 (.cond (t 45) (SS [vv 46 5,vv 2 46]
 .ret) .skip)))
 (QQ (SS [ff 47 7 1,ll 48 47,o 49 (.lenSl (t 48)),o 50 (.bin .gtr (t 49) (II 3)),vv 51 50,gf 52 8 1 51 false,gl 53 52 51 false,gg 54 (.lenSl (t 53)) 51 false,gg 55 (.bin .gtr (t 54) (II 3)) 51 false,o 56 (.pick (t 51) (BB true) (t 55)),vv 57 56,gf 58 9 1 57 false,gl 59 58 57 false,gg 60 (.lenSl (t 59)) 57 false,gg 61 (.bin .gtr (t 60) (II 3)) 57 false,o 62 (.pick (t 57) (BB true) (t 61))]
 (.cond (t 62) (SS [KK 2 3]
 .ret) .skip))
 (QQ (SS [ff 63 7 1,ll 64 63,o 65 (.lenSl (t 64)),KK 66 0]
 (.block 0 (.loop (SS [o 67 (.bin .lss (t 66) (t 65))]
 (QQ (.cond (t 67) .skip (.exit 0))
 (QQ (.block 1 (SS [o 68 (.iAddrS 3 (t 64) (t 66)),o 69 (.load 3 true (t 68)),o 7 (.alloc [Ee,Ee,Zz]),w (.store 3 (t 7) (t 69))]
 (QQ (SS [ff 70 0 7,ll 71 70,ff 72 1 7,ll 73 72,o 74 (.build [Ee,Ee] [(0,1,(t 71)),(1,1,(t 73))]),o 75 (.mkSl false 2 66 (.agg [Ee,Ee]) 1 [(0,(t 74))]),o 76 (CC 69 [(t 75)]),vv 8 76]
 (SS [vv 77 8,o 78 (.bin .neq (t 77) (II 0))]
 (.cond (t 78) (SS [vv 79 8,vv 2 79]
 .ret) .skip)))
 (SS [ff 80 2 7,ll 81 80,o 82 (.bin .lss (t 81) (II 1)),vv 83 82,gf 84 2 7 83 false,gl 85 84 83 false,gg 86 (.bin .gtr (t 85) (II 16)) 83 false,o 87 (.pick (t 83) (BB true) (t 86))]
 (.cond (t 87) (SS [KK 2 1]
 .ret) .skip)))))
 (.ops [o 88 (.bin .add (t 66) (II 1)),vv 66 88])))))))
 (QQ (SS [ff 89 8 1,ll 90 89,o 91 (CC 69 [(t 90)]),vv 9 91]
 (SS [vv 92 9,o 93 (.bin .neq (t 92) (II 0))]
 (.cond (t 93) (SS [vv 94 9,vv 2 94]
 .ret) .skip)))
 (QQ (SS [ff 95 9 1,ll 96 95,o 97 (CC 69 [(t 96)]),vv 10 97]
 (SS [vv 98 10,o 99 (.bin .neq (t 98) (II 0))]
 (.cond (t 99) (SS [vv 100 10,vv 2 100]
 .ret) .skip)))
 (QQ (SS [ff 101 10 1,ll 102 101,o 103 (CC 70 [(t 102),(II 0),(II 1099511627776)]),o 104 (.un .not (t 103))]
 (.cond (t 104) (SS [KK 2 1]
 .ret) .skip))
 (QQ (SS [ff 105 11 1,ll 106 105,o 107 (.bin .neq (t 106) (c Ee)),vv 108 107,gf 109 11 1 108 true,gl 110 109 108 true,gg 111 (CC 65 [(t 110)]) 108 true,gg 112 (.un .not (t 111)) 108 true,o 113 (.pick (t 108) (t 112) (BB false))]
 (.cond (t 113) (SS [KK 2 7]
 .ret) .skip))
 (SS [KK 2 0]
 .ret)))))))))))))⟩
def c74:Func :=
⟨1,66,[.tmp 2],
 (SS [o 1 (.box (t 0)),KK 2 0]
 (QQ (SS [ff 6 0 1,ll 7 6,o 8 (CC 65 [(t 7)]),o 9 (.un .not (t 8))]
 (.cond (t 9) (SS [KK 2 7]
 .ret) .skip))
 (QQ (SS [ff 10 1 1,ll 11 10,o 12 (.bin .lss (t 11) (II 0)),vv 13 12,gf 14 1 1 13 false,gl 15 14 13 false,gg 16 (.bin .gtr (t 15) (II 100)) 13 false,o 17 (.pick (t 13) (BB true) (t 16))]
 (.cond (t 17) (SS [KK 2 1]
 .ret) .skip))
 (QQ (SS [ff 18 2 1,o 19 (.load 2 true (t 18)),o 20 (CC 66 [(t 19)]),vv 3 20]
 (SS [vv 21 3,o 22 (.bin .neq (t 21) (II 0))]
 (.cond (t 22) (SS [vv 23 3,vv 2 23]
 .ret) .skip)))
 (QQ (SS [ff 24 4 1,ll 25 24,o 26 (CC 67 [(t 25)]),vv 4 26]
 (SS [vv 27 4,o 28 (.bin .neq (t 27) (II 0))]
 (.cond (t 28) (SS [vv 29 4,vv 2 29]
 .ret) .skip)))
 (QQ (SS [ff 30 5 1,ll 31 30,o 32 (CC 120 [(t 31)]),vv 5 32]
 (SS [vv 33 5,o 34 (.bin .neq (t 33) (II 0))]
 (.cond (t 34) (SS [vv 35 5,vv 2 35]
 .ret) .skip)))
 (QQ (SS [ff 36 6 1,ll 37 36,o 38 (CC 70 [(t 37),(II 0),(II 1099511627776)]),o 39 (.un .not (t 38)),vv 40 39,gf 41 7 1 40 false,gl 42 41 40 false,gg 43 (CC 70 [(t 42),(II 0),(II 1073741824)]) 40 false,gg 44 (.un .not (t 43)) 40 false,o 45 (.pick (t 40) (BB true) (t 44)),vv 46 45,gf 47 8 1 46 false,gl 48 47 46 false,gg 49 (.bin .lss (t 48) (II 0)) 46 false,o 50 (.pick (t 46) (BB true) (t 49)),vv 51 50,gf 52 8 1 51 false,gl 53 52 51 false,gg 54 (.bin .gtr (t 53) (II 16)) 51 false,o 55 (.pick (t 51) (BB true) (t 54)),vv 56 55,gf 57 9 1 56 false,gl 58 57 56 false,gg 59 (.bin .lss (t 58) (II 0)) 56 false,o 60 (.pick (t 56) (BB true) (t 59)),vv 61 60,gf 62 9 1 61 false,gl 63 62 61 false,gg 64 (.bin .gtr (t 63) (II 2)) 61 false,o 65 (.pick (t 61) (BB true) (t 64))]
 (.cond (t 65) (SS [KK 2 1]
 .ret) .skip))
 (SS [KK 2 0]
 .ret))))))))⟩
def c121:Func :=
⟨1,72,[.tmp 2],
 (SS [o 1 (.box (t 0)),KK 2 0]
 (QQ (SS [ff 6 0 1,ll 7 6,o 8 (CC 65 [(t 7)]),o 9 (.un .not (t 8)),vv 10 9,gf 11 1 1 10 false,gl 12 11 10 false,gg 13 (CC 65 [(t 12)]) 10 false,gg 14 (.un .not (t 13)) 10 false,o 15 (.pick (t 10) (BB true) (t 14)),vv 16 15,gf 17 3 1 16 false,gg 18 (.load 3 true (t 17)) 16 false,gg 19 (CC 176 [(t 18)]) 16 false,gg 20 (.un .not (t 19)) 16 false,o 21 (.pick (t 16) (BB true) (t 20))]
 (.cond (t 21) (SS [KK 2 7]
 .ret) .skip))
 (QQ (SS [ff 22 6 1,ll 23 22,o 24 (CC 116 [(t 23)]),vv 3 24]
 (SS [vv 25 3,o 26 (.bin .neq (t 25) (II 0))]
 (.cond (t 26) (SS [vv 27 3,vv 2 27]
 .ret) .skip)))
 (QQ (SS [ff 28 7 1,o 29 (.load 2 true (t 28)),o 30 (CC 66 [(t 29)]),vv 4 30]
 (SS [vv 31 4,o 32 (.bin .neq (t 31) (II 0))]
 (.cond (t 32) (SS [vv 33 4,vv 2 33]
 .ret) .skip)))
 (QQ (SS [ff 34 9 1,ll 35 34,o 36 (CC 177 [(t 35)]),vv 5 36]
 (SS [vv 37 5,o 38 (.bin .neq (t 37) (II 0))]
 (.cond (t 38) (SS [vv 39 5,vv 2 39]
 .ret) .skip)))
 (QQ (SS [ff 40 10 1,ll 41 40,o 42 (.bin .lss (t 41) (II 1)),vv 43 42,gf 44 10 1 43 false,gl 45 44 43 false,gg 46 (.bin .gtr (t 45) (II 32)) 43 false,o 47 (.pick (t 43) (BB true) (t 46))]
 (.cond (t 47) (SS [KK 2 1]
 .ret) .skip))
 (QQ (SS [ff 48 11 1,ll 49 48,o 50 (.lenStr (t 49)),o 51 (.bin .gtr (t 50) (II 16))]
 (.cond (t 51) (SS [KK 2 2]
 .ret) .skip))
 (QQ (SS [ff 52 12 1,ll 53 52,o 54 (.bin .lss (t 53) (II 1)),vv 55 54,gf 56 12 1 55 false,gl 57 56 55 false,gg 58 (.bin .gtr (t 57) (II 4)) 55 false,o 59 (.pick (t 55) (BB true) (t 58)),vv 60 59,gf 61 2 1 60 false,gl 62 61 60 false,gg 63 (CC 70 [(t 62),(II 0),(II 1099511627776)]) 60 false,gg 64 (.un .not (t 63)) 60 false,o 65 (.pick (t 60) (BB true) (t 64)),vv 66 65,gf 67 13 1 66 false,gl 68 67 66 false,gg 69 (CC 70 [(t 68),(II 0),(II 1099511627776)]) 66 false,gg 70 (.un .not (t 69)) 66 false,o 71 (.pick (t 66) (BB true) (t 70))]
 (.cond (t 71) (SS [KK 2 1]
 .ret) .skip))
 (SS [KK 2 0]
 .ret)))))))))⟩
def c124:Func :=
⟨1,82,[.tmp 2],
 (SS [o 1 (.box (t 0)),KK 2 0]
 (QQ (SS [ff 5 0 1,ll 6 5,o 7 (.bin .lss (t 6) (II 1)),vv 8 7,gf 9 0 1 8 false,gl 10 9 8 false,gg 11 (.bin .gtr (t 10) (II 4)) 8 false,o 12 (.pick (t 8) (BB true) (t 11)),vv 13 12,gf 14 2 1 13 false,gl 15 14 13 false,gg 16 (.bin .lss (t 15) (II 1)) 13 false,o 17 (.pick (t 13) (BB true) (t 16)),vv 18 17,gf 19 2 1 18 false,gl 20 19 18 false,gg 21 (.bin .gtr (t 20) (II 3)) 18 false,o 22 (.pick (t 18) (BB true) (t 21))]
 (.cond (t 22) (SS [KK 2 1]
 .ret) .skip))
 (QQ (SS [ff 23 1 1,ll 24 23,o 25 (.lenSl (t 24)),o 26 (.bin .gtr (t 25) (II 4))]
 (.cond (t 26) (SS [KK 2 3]
 .ret) .skip))
 (QQ (SS [ff 27 1 1,ll 28 27,o 29 (.lenSl (t 28)),o 30 (.bin .eql (t 29) (II 0))]
 (.cond (t 30) (SS [KK 2 1]
 .ret) .skip))
 (QQ (SS [ff 31 1 1,ll 32 31,o 33 (.lenSl (t 32)),KK 34 0]
 (.block 0 (.loop (SS [o 35 (.bin .lss (t 34) (t 33))]
 (QQ (.cond (t 35) .skip (.exit 0))
 (QQ (.block 1 (SS [vv 36 34,o 37 (.iAddrS 1 (t 32) (t 34)),ll 38 37,vv 3 36,vv 4 38]
 (QQ (SS [vv 39 4,o 40 (CC 65 [(t 39)]),o 41 (.un .not (t 40))]
 (.cond (t 41) (SS [KK 2 7]
 .ret) .skip))
 (SS [vv 42 3,o 43 (.bin .gtr (t 42) (II 0)),vv 44 43,gf 45 1 1 44 true,gl 46 45 44 true,gv 47 3 44 true,gg 48 (.bin .sub (t 47) (II 1)) 44 true,gg 49 (.iAddrS 1 (t 46) (t 48)) 44 true,gl 50 49 44 true,gv 51 4 44 true,gg 52 (.bin .geq (t 50) (t 51)) 44 true,o 53 (.pick (t 44) (t 52) (BB false))]
 (.cond (t 53) (SS [KK 2 6]
 .ret) .skip)))))
 (.ops [o 54 (.bin .add (t 34) (II 1)),vv 34 54])))))))
 (QQ (SS [ff 55 3 1,ll 56 55,o 57 (CC 70 [(t 56),(II 0),(II 1099511627776)]),o 58 (.un .not (t 57))]
 (.cond (t 58) (SS [KK 2 1]
 .ret) .skip))
 (QQ (SS [ff 59 4 1,ll 60 59,o 61 (.bin .neq (t 60) (c Ee)),vv 62 61,gf 63 4 1 62 true,gl 64 63 62 true,gg 65 (CC 65 [(t 64)]) 62 true,gg 66 (.un .not (t 65)) 62 true,o 67 (.pick (t 62) (t 66) (BB false)),vv 68 67,gf 69 5 1 68 false,gl 70 69 68 false,gg 71 (.bin .neq (t 70) (c Ee)) 68 false,gv 72 71 68 false,gf 73 5 1 72 true,gl 74 73 72 true,gg 75 (CC 65 [(t 74)]) 72 true,gg 76 (.un .not (t 75)) 72 true,gg 77 (.pick (t 72) (t 76) (BB false)) 68 false,o 78 (.pick (t 68) (BB true) (t 77))]
 (.cond (t 78) (SS [KK 2 7]
 .ret) .skip))
 (SS [ff 79 6 1,ll 80 79,o 81 (CC 177 [(t 80)]),vv 2 81]
 .ret))))))))⟩
def c132:Func :=
⟨1,15,[.tmp 2],
 (SS [KK 2 0]
 (QQ (SS [vv 5 0,o 6 (.lenSl (t 5)),KK 7 0]
 (.block 0 (.loop (SS [o 8 (.bin .lss (t 7) (t 6))]
 (QQ (.cond (t 8) .skip (.exit 0))
 (QQ (.block 1 (SS [o 9 (.iAddrS 1 (t 5) (t 7)),ll 10 9,vv 4 10]
 (SS [vv 11 4,o 12 (.bin .neq (t 11) (II 0))]
 (.cond (t 12) (SS [vv 13 4,vv 2 13]
 .ret) .skip))))
 (.ops [o 14 (.bin .add (t 7) (II 1)),vv 7 14])))))))
 (SS [KK 2 0]
 .ret)))⟩
def c133:Func :=
⟨2,7,[.tmp 4],
 (SS [KK 4 0]
 (QQ (SS [vv 5 0]
 (.cond (t 5) (SS [KK 4 0]
 .ret) .skip))
 (SS [vv 6 1,vv 4 6]
 .ret)))⟩
def c134:Func :=
⟨1,6,[.tmp 2],
 (SS [o 2 (.mov (BB false))]
 (SS [vv 3 0,o 4 (CC 182 [(t 3),(c (.fn 183 [] []))]),o 5 (.un .not (t 4)),vv 2 5]
 .ret))⟩
def c135:Func :=
⟨1,16,[.tmp 2],
 (SS [o 1 (.box (t 0)),KK 2 0]
 (QQ (SS [o 6 (.load 2 true (t 1)),KK 7 0]
 (.block 0 (.loop (SS [o 8 (.bin .lss (t 7) (II 2))]
 (QQ (.cond (t 8) .skip (.exit 0))
 (QQ (.block 1 (SS [o 9 (.idxArr 1 2 false (t 6) (t 7)),vv 4 9]
 (SS [vv 10 4,o 11 (CC 185 [(t 10)]),vv 5 11]
 (SS [vv 12 5,o 13 (.bin .neq (t 12) (II 0))]
 (.cond (t 13) (SS [vv 14 5,vv 2 14]
 .ret) .skip)))))
 (.ops [o 15 (.bin .add (t 7) (II 1)),vv 7 15])))))))
 (SS [KK 2 0]
 .ret)))⟩
def c137:Func :=
⟨1,44,[.tmp 2],
 (SS [KK 2 0]
 (QQ (SS [vv 5 0,o 6 (.lenSl (t 5)),o 7 (.bin .gtr (t 6) (II 4))]
 (.cond (t 7) (SS [KK 2 3]
 .ret) .skip))
 (QQ (SS [vv 8 0,o 9 (.lenSl (t 8)),KK 10 0]
 (.block 0 (.loop (SS [o 11 (.bin .lss (t 10) (t 9))]
 (QQ (.cond (t 11) .skip (.exit 0))
 (QQ (.block 1 (SS [vv 12 10,o 13 (.iAddrS 3 (t 8) (t 10)),o 14 (.load 3 true (t 13)),o 4 (.alloc [Ee,Ee,(.bool false)]),vv 3 12,w (.store 3 (t 4) (t 14))]
 (.block 2 (SS [ff 16 0 4,ll 17 16,o 18 (CC 184 [(t 17)]),o 19 (.un .not (t 18)),vv 15 19]
 (.cond (t 15) (SS [KK 2 7]
 .ret) (QQ (SS [ff 21 2 4,ll 22 21,vv 23 22,gf 24 1 4 23 true,gl 25 24 23 true,gg 26 (.bin .neq (t 25) (c Ee)) 23 true,o 27 (.pick (t 23) (t 26) (BB false)),vv 20 27]
 (.cond (t 20) .skip (.ops [ff 28 2 4,ll 29 28,o 30 (.un .not (t 29)),vv 31 30,gf 32 1 4 31 true,gl 33 32 31 true,gg 34 (CC 187 [(t 33)]) 31 true,gg 35 (.un .not (t 34)) 31 true,o 36 (.pick (t 31) (t 35) (BB false)),vv 20 36])))
 (.cond (t 20) (SS [KK 2 20]
 .ret) (SS [vv 38 0,vv 39 3,o 40 (.slc 3 (t 38) none (some (t 39))),o 41 (.load 3 true (t 4)),o 42 (.call true (c (.fn 188 [] [])) [(t 40),(t 41)]),vv 37 42]
 (.cond (t 37) (SS [KK 2 6]
 .ret) .skip)))))))))
 (.ops [o 43 (.bin .add (t 10) (II 1)),vv 10 43])))))))
 (SS [KK 2 0]
 .ret))))⟩
def c138:Func :=
⟨1,75,[.tmp 2],
 (SS [o 1 (.box (t 0)),KK 2 0]
 (QQ (SS [ff 11 7 1,ll 12 11,o 13 (.lenSl (t 12)),ff 14 8 1,ll 15 14,o 16 (.lenSl (t 15)),ff 17 9 1,ll 18 17,o 19 (.lenSl (t 18)),o 20 (.mm true .i64 (t 13) [(t 16),(t 19)]),o 21 (.bin .gtr (t 20) (II 3))]
 (.cond (t 21) (SS [KK 2 3]
 .ret) .skip))
 (QQ (SS [ff 22 7 1,ll 23 22,o 24 (.lenSl (t 23)),KK 25 0]
 (.block 0 (.loop (SS [o 26 (.bin .lss (t 25) (t 24))]
 (QQ (.cond (t 26) .skip (.exit 0))
 (QQ (.block 1 (SS [o 27 (.iAddrS 3 (t 23) (t 25)),o 28 (.load 3 true (t 27)),o 4 (.alloc [Ee,Ee,Zz]),w (.store 3 (t 4) (t 28))]
 (SS [ff 29 0 4,ll 30 29,ff 31 1 4,ll 32 31,o 33 (.call true (c (.fn 189 [] [])) [(t 30),(t 32)]),ff 34 2 4,ll 35 34,o 36 (.bin .geq (t 35) (II 1)),vv 37 36,gf 38 2 4 37 true,gl 39 38 37 true,gg 40 (.bin .leq (t 39) (II 16)) 37 true,o 41 (.pick (t 37) (t 40) (BB false)),o 42 (.call true (c (.fn 133 [] [])) [(t 41),(II 1)]),o 43 (.mkSl true 1 35 Zz 2 [(0,(t 33)),(1,(t 42))]),o 44 (.call true (c (.fn 132 [] [])) [(t 43)]),vv 5 44]
 (SS [vv 45 5,o 46 (.bin .neq (t 45) (II 0))]
 (.cond (t 46) (SS [vv 47 5,vv 2 47]
 .ret) .skip)))))
 (.ops [o 48 (.bin .add (t 25) (II 1)),vv 25 48])))))))
 (QQ (SS [ff 49 8 1,ll 50 49,ff 51 9 1,ll 52 51,o 53 (.mkSl false 1 57 (.sl 2 true []) 2 [(0,(t 50)),(1,(t 52))]),o 54 (.lenSl (t 53)),KK 55 0]
 (.block 2 (.loop (SS [o 56 (.bin .lss (t 55) (t 54))]
 (QQ (.cond (t 56) .skip (.exit 2))
 (QQ (.block 3 (SS [o 57 (.iAddrS 1 (t 53) (t 55)),ll 58 57,vv 7 58]
 (SS [vv 59 7,o 60 (.lenSl (t 59)),KK 61 0]
 (.block 4 (.loop (SS [o 62 (.bin .lss (t 61) (t 60))]
 (QQ (.cond (t 62) .skip (.exit 4))
 (QQ (.block 5 (SS [o 63 (.iAddrS 2 (t 59) (t 61)),o 64 (.load 2 true (t 63)),o 9 (.alloc [Ee,Ee]),w (.store 2 (t 9) (t 64))]
 (SS [ff 65 0 9,ll 66 65,ff 67 1 9,ll 68 67,o 69 (CC 189 [(t 66),(t 68)]),vv 10 69]
 (SS [vv 70 10,o 71 (.bin .neq (t 70) (II 0))]
 (.cond (t 71) (SS [vv 72 10,vv 2 72]
 .ret) .skip)))))
 (.ops [o 73 (.bin .add (t 61) (II 1)),vv 61 73])))))))))
 (.ops [o 74 (.bin .add (t 55) (II 1)),vv 55 74])))))))
 (SS [KK 2 0]
 .ret)))))⟩
def c139:Func :=
⟨3,15,[.tmp 6],
 (SS [o 6 (.mov (BB false))]
 (SS [vv 7 0,vv 8 1,o 9 (.bin .geq (t 7) (t 8)),vv 10 9,gv 11 0 10 true,gv 12 2 10 true,gg 13 (.bin .leq (t 11) (t 12)) 10 true,o 14 (.pick (t 10) (t 13) (BB false)),vv 6 14]
 .ret))⟩
def c140:Func :=
⟨1,9,[.tmp 2],
 (SS [o 2 (.mov (BB false))]
 (SS [vv 3 0,o 4 (.bin .eql (t 3) (c Ee)),vv 5 4,gv 6 0 5 false,gg 7 (CC 184 [(t 6)]) 5 false,o 8 (.pick (t 5) (BB true) (t 7)),vv 2 8]
 .ret))⟩
def c201:Func :=
⟨1,32,[.tmp 2],
 (SS [KK 2 0]
 (QQ (SS [vv 5 0,o 6 (.lenSl (t 5)),o 7 (.bin .gtr (t 6) (II 4))]
 (.cond (t 7) (SS [KK 2 3]
 .ret) .skip))
 (QQ (SS [vv 8 0,o 9 (.lenSl (t 8)),KK 10 0]
 (.block 0 (.loop (SS [o 11 (.bin .lss (t 10) (t 9))]
 (QQ (.cond (t 11) .skip (.exit 0))
 (QQ (.block 1 (SS [vv 12 10,o 13 (.iAddrS 2 (t 8) (t 10)),o 14 (.load 2 true (t 13)),o 4 (.alloc [Ee,Ee]),vv 3 12,w (.store 2 (t 4) (t 14))]
 (.block 2 (SS [ff 16 0 4,ll 17 16,o 18 (CC 184 [(t 17)]),o 19 (.un .not (t 18)),vv 15 19]
 (.cond (t 15) (SS [KK 2 7]
 .ret) (SS [ff 21 1 4,ll 22 21,o 23 (CC 187 [(t 22)]),o 24 (.un .not (t 23)),vv 20 24]
 (.cond (t 20) (SS [KK 2 20]
 .ret) (SS [vv 26 0,vv 27 3,o 28 (.slc 2 (t 26) none (some (t 27))),o 29 (.mkf 244 [] [(t 4)]),o 30 (CC 195 [(t 28),(t 29)]),vv 25 30]
 (.cond (t 25) (SS [KK 2 6]
 .ret) .skip)))))))))
 (.ops [o 31 (.bin .add (t 10) (II 1)),vv 10 31])))))))
 (SS [KK 2 0]
 .ret))))⟩
def c185:Func :=
⟨1,9,[.tmp 2],
 (SS [KK 2 0]
 (QQ (.block 0 (SS [vv 4 0,o 5 (.bin .lss (t 4) (II 0)),vv 3 5]
 (.cond (t 3) (SS [KK 2 11]
 .ret) (SS [vv 7 0,o 8 (.bin .gtr (t 7) (II 1125899906842624)),vv 6 8]
 (.cond (t 6) (SS [KK 2 10]
 .ret) .skip)))))
 (SS [KK 2 0]
 .ret)))⟩
def c202:Func :=
⟨1,38,[.tmp 2],
 (SS [KK 2 0]
 (QQ (SS [vv 6 0,o 7 (.lenSl (t 6)),o 8 (.bin .gtr (t 7) (II 72))]
 (.cond (t 8) (SS [KK 2 3]
 .ret) .skip))
 (QQ (SS [vv 9 0,o 10 (.lenSl (t 9)),KK 11 0]
 (.block 0 (.loop (SS [o 12 (.bin .lss (t 11) (t 10))]
 (QQ (.cond (t 12) .skip (.exit 0))
 (QQ (.block 1 (SS [vv 13 11,o 14 (.iAddrS 3 (t 9) (t 11)),o 15 (.load 3 true (t 14)),o 4 (.alloc [Ee,Ee,Ee]),vv 3 13,w (.store 3 (t 4) (t 15))]
 (SS [ff 16 0 4,ll 17 16,ff 18 1 4,ll 19 18,ff 20 2 4,ll 21 20,o 22 (.mkSl true 1 9 Ee 3 [(0,(t 17)),(1,(t 19)),(2,(t 21))]),o 23 (.call true (c (.fn 134 [] [])) [(t 22)]),o 24 (.call true (c (.fn 133 [] [])) [(t 23),(II 7)]),vv 25 0,vv 26 3,o 27 (.slc 3 (t 25) none (some (t 26))),o 28 (.load 3 true (t 4)),o 29 (.call true (c (.fn 245 [] [])) [(t 27),(t 28)]),o 30 (.un .not (t 29)),o 31 (.call true (c (.fn 133 [] [])) [(t 30),(II 6)]),o 32 (.mkSl true 1 35 Zz 2 [(0,(t 24)),(1,(t 31))]),o 33 (.call true (c (.fn 132 [] [])) [(t 32)]),vv 5 33]
 (SS [vv 34 5,o 35 (.bin .neq (t 34) (II 0))]
 (.cond (t 35) (SS [vv 36 5,vv 2 36]
 .ret) .skip)))))
 (.ops [o 37 (.bin .add (t 11) (II 1)),vv 11 37])))))))
 (SS [KK 2 0]
 .ret))))⟩
def c66:Func :=
⟨1,13,[.tmp 2],
 (SS [o 1 (.box (t 0)),KK 2 0]
 (SS [o 4 (.iAddrA 1 2 (t 1) (II 0)),ll 5 4,o 6 (CC 116 [(t 5)]),vv 3 6]
 (QQ (SS [vv 7 3,o 8 (.bin .neq (t 7) (II 0))]
 (.cond (t 8) (SS [vv 9 3,vv 2 9]
 .ret) .skip))
 (SS [o 10 (.iAddrA 1 2 (t 1) (II 1)),ll 11 10,o 12 (CC 116 [(t 11)]),vv 2 12]
 .ret))))⟩
def c68:Func :=
⟨1,69,[.tmp 2],
 (SS [KK 2 0]
 (QQ (SS [vv 7 0,o 8 (.lenSl (t 7)),o 9 (.bin .gtr (t 8) (II 4))]
 (.cond (t 9) (SS [KK 2 3]
 .ret) .skip))
 (QQ (SS [KK 3 0]
 (.block 0 (.loop (QQ (SS [vv 10 3,vv 11 0,o 12 (.lenSl (t 11)),o 13 (.bin .lss (t 10) (t 12))]
 (.cond (t 13) .skip (.exit 0)))
 (QQ (.block 1 (SS [vv 16 0,vv 17 3,o 18 (.iAddrS 3 (t 16) (t 17)),ff 19 0 18,ll 20 19,o 21 (CC 65 [(t 20)]),vv 4 21]
 (QQ (SS [vv 22 4,o 23 (.un .not (t 22))]
 (.cond (t 23) (SS [KK 2 7]
 .ret) .skip))
 (SS [vv 24 0,vv 25 3,o 26 (.iAddrS 3 (t 24) (t 25)),ff 27 1 26,ll 28 27,o 29 (CC 118 [(t 28)]),vv 5 29]
 (QQ (SS [vv 30 0,vv 31 3,o 32 (.iAddrS 3 (t 30) (t 31)),ff 33 2 32,ll 34 33,vv 35 34,gv 36 0 35 true,gv 37 3 35 true,gg 38 (.iAddrS 3 (t 36) (t 37)) 35 true,gf 39 1 38 35 true,gl 40 39 35 true,gg 41 (.bin .neq (t 40) (c Ee)) 35 true,o 42 (.pick (t 35) (t 41) (BB false)),vv 43 42,gv 44 0 43 false,gv 45 3 43 false,gg 46 (.iAddrS 3 (t 44) (t 45)) 43 false,gf 47 2 46 43 false,gl 48 47 43 false,gg 49 (.un .not (t 48)) 43 false,gv 50 49 43 false,gv 51 5 50 true,gg 52 (.un .not (t 51)) 50 true,gg 53 (.pick (t 50) (t 52) (BB false)) 43 false,o 54 (.pick (t 43) (BB true) (t 53))]
 (.cond (t 54) (SS [KK 2 20]
 .ret) .skip))
 (SS [KK 6 0]
 (.block 2 (.loop (QQ (SS [vv 55 6,vv 56 3,o 57 (.bin .lss (t 55) (t 56))]
 (.cond (t 57) .skip (.exit 2)))
 (QQ (.block 3 (SS [vv 60 0,vv 61 6,o 62 (.iAddrS 3 (t 60) (t 61)),o 63 (.load 3 true (t 62)),vv 64 0,vv 65 3,o 66 (.iAddrS 3 (t 64) (t 65)),o 67 (.load 3 true (t 66)),o 68 (.eqa false [(0,.str),(1,.str),(2,.bool)] (t 63) (t 67))]
 (.cond (t 68) (SS [KK 2 6]
 .ret) .skip)))
 (.ops [vv 58 6,o 59 (.bin .add (t 58) (II 1)),vv 6 59])))))))))))
 (.ops [vv 14 3,o 15 (.bin .add (t 14) (II 1)),vv 3 15]))))))
 (SS [KK 2 0]
 .ret))))⟩
def c69:Func :=
⟨1,24,[.tmp 2],
 (SS [KK 2 0]
 (QQ (SS [vv 5 0,o 6 (.lenSl (t 5)),KK 7 0]
 (.block 0 (.loop (SS [o 8 (.bin .lss (t 7) (t 6))]
 (QQ (.cond (t 8) .skip (.exit 0))
 (QQ (.block 1 (SS [o 9 (.iAddrS 2 (t 5) (t 7)),o 10 (.load 2 true (t 9)),o 4 (.alloc [Ee,Ee]),w (.store 2 (t 4) (t 10))]
 (QQ (SS [ff 11 0 4,ll 12 11,o 13 (.bin .neq (t 12) (c (.str ⟨#[122,111,110,101]⟩))),vv 14 13,gf 15 0 4 14 true,gl 16 15 14 true,gg 17 (.bin .neq (t 16) (c (.str ⟨#[104,111,115,116]⟩))) 14 true,o 18 (.pick (t 14) (t 17) (BB false))]
 (.cond (t 18) (SS [KK 2 1]
 .ret) .skip))
 (SS [ff 19 1 4,ll 20 19,o 21 (CC 65 [(t 20)]),o 22 (.un .not (t 21))]
 (.cond (t 22) (SS [KK 2 7]
 .ret) .skip)))))
 (.ops [o 23 (.bin .add (t 7) (II 1)),vv 7 23])))))))
 (SS [KK 2 0]
 .ret)))⟩
def c70:Func :=
⟨3,15,[.tmp 6],
 (SS [o 6 (.mov (BB false))]
 (SS [vv 7 0,vv 8 1,o 9 (.bin .geq (t 7) (t 8)),vv 10 9,gv 11 0 10 true,gv 12 2 10 true,gg 13 (.bin .leq (t 11) (t 12)) 10 true,o 14 (.pick (t 10) (t 13) (BB false)),vv 6 14]
 .ret))⟩
def c120:Func :=
⟨1,48,[.tmp 2],
 (SS [KK 2 0]
 (QQ (SS [vv 7 0,o 8 (.lenSl (t 7)),o 9 (.bin .gtr (t 8) (II 4))]
 (.cond (t 9) (SS [KK 2 3]
 .ret) .skip))
 (QQ (SS [KK 3 0]
 (.block 0 (.loop (QQ (SS [vv 10 3,vv 11 0,o 12 (.lenSl (t 11)),o 13 (.bin .lss (t 10) (t 12))]
 (.cond (t 13) .skip (.exit 0)))
 (QQ (.block 1 (SS [vv 16 0,vv 17 3,o 18 (.iAddrS 2 (t 16) (t 17)),ff 19 0 18,ll 20 19,o 21 (CC 65 [(t 20)]),vv 4 21]
 (QQ (SS [vv 22 4,o 23 (.un .not (t 22))]
 (.cond (t 23) (SS [KK 2 7]
 .ret) .skip))
 (SS [vv 24 0,vv 25 3,o 26 (.iAddrS 2 (t 24) (t 25)),ff 27 1 26,ll 28 27,o 29 (CC 118 [(t 28)]),vv 5 29]
 (QQ (SS [vv 30 5,o 31 (.un .not (t 30))]
 (.cond (t 31) (SS [KK 2 20]
 .ret) .skip))
 (SS [KK 6 0]
 (.block 2 (.loop (QQ (SS [vv 32 6,vv 33 3,o 34 (.bin .lss (t 32) (t 33))]
 (.cond (t 34) .skip (.exit 2)))
 (QQ (.block 3 (SS [vv 37 0,vv 38 6,o 39 (.iAddrS 2 (t 37) (t 38)),ff 40 0 39,ll 41 40,vv 42 0,vv 43 3,o 44 (.iAddrS 2 (t 42) (t 43)),ff 45 0 44,ll 46 45,o 47 (.bin .eql (t 41) (t 46))]
 (.cond (t 47) (SS [KK 2 6]
 .ret) .skip)))
 (.ops [vv 35 6,o 36 (.bin .add (t 35) (II 1)),vv 6 36])))))))))))
 (.ops [vv 14 3,o 15 (.bin .add (t 14) (II 1)),vv 3 15]))))))
 (SS [KK 2 0]
 .ret))))⟩
def c176:Func :=
⟨1,16,[.tmp 2],
 (SS [o 1 (.box (t 0)),o 2 (.mov (BB false))]
 (SS [ff 3 0 1,ll 4 3,o 5 (CC 65 [(t 4)]),vv 6 5,gf 7 1 1 6 true,gl 8 7 6 true,gg 9 (CC 65 [(t 8)]) 6 true,o 10 (.pick (t 6) (t 9) (BB false)),vv 11 10,gf 12 2 1 11 true,gl 13 12 11 true,gg 14 (CC 65 [(t 13)]) 11 true,o 15 (.pick (t 11) (t 14) (BB false)),vv 2 15]
 .ret))⟩
def c116:Func :=
⟨1,7,[.tmp 2],
 (SS [KK 2 0]
 (QQ (SS [vv 3 0,o 4 (.bin .lss (t 3) (II 0))]
 (.cond (t 4) (SS [KK 2 11]
 .ret) .skip))
 (QQ (SS [vv 5 0,o 6 (.bin .gtr (t 5) (II 1125899906842624))]
 (.cond (t 6) (SS [KK 2 10]
 .ret) .skip))
 (SS [KK 2 0]
 .ret))))⟩
def c177:Func :=
⟨1,33,[.tmp 2],
 (SS [KK 2 0]
 (QQ (SS [vv 7 0,o 8 (.lenSl (t 7)),o 9 (.bin .gtr (t 8) (II 72))]
 (.cond (t 9) (SS [KK 2 3]
 .ret) .skip))
 (QQ (SS [vv 10 0,o 11 (.lenSl (t 10)),KK 12 0]
 (.block 0 (.loop (SS [o 13 (.bin .lss (t 12) (t 11))]
 (QQ (.cond (t 13) .skip (.exit 0))
 (QQ (.block 1 (SS [vv 14 12,o 15 (.iAddrS 3 (t 10) (t 12)),o 16 (.load 3 true (t 15)),o 4 (.alloc [Ee,Ee,Ee]),vv 3 14,w (.store 3 (t 4) (t 16))]
 (QQ (SS [o 17 (.load 3 true (t 4)),o 18 (CC 176 [(t 17)]),o 19 (.un .not (t 18))]
 (.cond (t 19) (SS [KK 2 7]
 .ret) .skip))
 (SS [vv 20 0,vv 21 3,o 22 (.slc 3 (t 20) none (some (t 21))),o 23 (.lenSl (t 22)),KK 24 0]
 (.block 2 (.loop (SS [o 25 (.bin .lss (t 24) (t 23))]
 (QQ (.cond (t 25) .skip (.exit 2))
 (QQ (.block 3 (SS [o 26 (.iAddrS 3 (t 22) (t 24)),o 27 (.load 3 true (t 26)),o 6 (.alloc [Ee,Ee,Ee]),w (.store 3 (t 6) (t 27))]
 (SS [o 28 (.load 3 true (t 6)),o 29 (.load 3 true (t 4)),o 30 (.eqa false [(0,.str),(1,.str),(2,.str)] (t 28) (t 29))]
 (.cond (t 30) (SS [KK 2 6]
 .ret) .skip))))
 (.ops [o 31 (.bin .add (t 24) (II 1)),vv 24 31]))))))))))
 (.ops [o 32 (.bin .add (t 12) (II 1)),vv 12 32])))))))
 (SS [KK 2 0]
 .ret))))⟩
def c183:Func :=
⟨1,6,[.tmp 2],
 (SS [o 2 (.mov (BB false))]
 (SS [vv 3 0,o 4 (CC 184 [(t 3)]),o 5 (.un .not (t 4)),vv 2 5]
 .ret))⟩
def c188:Func :=
⟨2,9,[.tmp 4],
 (SS [o 3 (.box (t 1)),o 4 (.mov (BB false))]
 (SS [vv 5 0,o 6 (.load 3 true (t 3)),o 7 (CC 228 [(t 5),(t 6)]),o 8 (.bin .geq (t 7) (II 0)),vv 4 8]
 .ret))⟩
def c189:Func :=
⟨2,18,[.tmp 4],
 (SS [KK 4 0]
 (SS [vv 5 0,o 6 (.bin .eql (t 5) (c (.str ⟨#[122,111,110,101]⟩))),vv 7 6,gv 8 0 7 false,gg 9 (.bin .eql (t 8) (c (.str ⟨#[104,111,115,116]⟩))) 7 false,o 10 (.pick (t 7) (BB true) (t 9)),o 11 (CC 133 [(t 10),(II 1)]),vv 12 1,o 13 (.mkSl false 1 9 Ee 1 [(0,(t 12))]),o 14 (CC 134 [(t 13)]),o 15 (CC 133 [(t 14),(II 7)]),o 16 (.mkSl false 1 35 Zz 2 [(0,(t 11)),(1,(t 15))]),o 17 (CC 132 [(t 16)]),vv 4 17]
 .ret))⟩
def c195:Func :=
⟨2,9,[.tmp 4],
 (SS [o 4 (.mov (BB false))]
 (SS [vv 5 0,vv 6 1,o 7 (CC 235 [(t 5),(t 6)]),o 8 (.bin .geq (t 7) (II 0)),vv 4 8]
 .ret))⟩
def c244:Func :=
⟨2,9,[.tmp 3],
 (SS [o 2 (.box (t 0)),o 3 (.mov (BB false))]
 (SS [ff 4 0 2,ll 5 4,ff 6 0 1,ll 7 6,o 8 (.bin .eql (t 5) (t 7)),vv 3 8]
 .ret))⟩
def c245:Func :=
⟨2,9,[.tmp 4],
 (SS [o 3 (.box (t 1)),o 4 (.mov (BB false))]
 (SS [vv 5 0,o 6 (.load 3 true (t 3)),o 7 (CC 263 [(t 5),(t 6)]),o 8 (.bin .geq (t 7) (II 0)),vv 4 8]
 .ret))⟩
def c208:Func :=
⟨1,18,[.tmp 2],
 (SS [KK 2 0]
 (SS [KK 3 0]
 (QQ (SS [vv 6 0,o 7 (.lenSl (t 6)),KK 8 0]
 (.block 0 (.loop (SS [o 9 (.bin .lss (t 8) (t 7))]
 (QQ (.cond (t 9) .skip (.exit 0))
 (QQ (.block 1 (SS [o 10 (.iAddrS 1 (t 6) (t 8)),ll 11 10,vv 5 11]
 (SS [vv 12 5,vv 13 3,o 14 (.bin .neq (t 12) (t 13))]
 (.cond (t 14) (SS [vv 15 5,vv 2 15]
 .ret) .skip))))
 (.ops [o 16 (.bin .add (t 8) (II 1)),vv 8 16])))))))
 (SS [vv 17 3,vv 2 17]
 .ret))))⟩
def c228:Func :=
⟨2,19,[.tmp 4],
 (SS [o 3 (.box (t 1)),KK 4 0]
 (QQ (SS [vv 6 0,o 7 (.lenSl (t 6)),KK 8 0]
 (.block 0 (.loop (SS [o 9 (.bin .lss (t 8) (t 7))]
 (QQ (.cond (t 9) .skip (.exit 0))
 (QQ (.block 1 (SS [vv 10 8,vv 5 10]
 (SS [o 11 (.load 3 true (t 3)),vv 12 0,vv 13 5,o 14 (.iAddrS 3 (t 12) (t 13)),o 15 (.load 3 true (t 14)),o 16 (.eqa false [(0,.str),(1,.str),(2,.bool)] (t 11) (t 15))]
 (.cond (t 16) (SS [vv 17 5,vv 4 17]
 .ret) .skip))))
 (.ops [o 18 (.bin .add (t 8) (II 1)),vv 8 18])))))))
 (SS [o 4 (.mov (c (jI (-1))))]
 .ret)))⟩
def c235:Func :=
⟨2,19,[.tmp 4],
 (SS [KK 4 0]
 (QQ (SS [vv 6 0,o 7 (.lenSl (t 6)),KK 8 0]
 (.block 0 (.loop (SS [o 9 (.bin .lss (t 8) (t 7))]
 (QQ (.cond (t 9) .skip (.exit 0))
 (QQ (.block 1 (SS [vv 10 8,vv 5 10]
 (SS [vv 11 1,vv 12 0,vv 13 5,o 14 (.iAddrS 2 (t 12) (t 13)),o 15 (.load 2 true (t 14)),o 16 (.call false (t 11) [(t 15)])]
 (.cond (t 16) (SS [vv 17 5,vv 4 17]
 .ret) .skip))))
 (.ops [o 18 (.bin .add (t 8) (II 1)),vv 8 18])))))))
 (SS [o 4 (.mov (c (jI (-1))))]
 .ret)))⟩
def c263:Func :=
⟨2,19,[.tmp 4],
 (SS [o 3 (.box (t 1)),KK 4 0]
 (QQ (SS [vv 6 0,o 7 (.lenSl (t 6)),KK 8 0]
 (.block 0 (.loop (SS [o 9 (.bin .lss (t 8) (t 7))]
 (QQ (.cond (t 9) .skip (.exit 0))
 (QQ (.block 1 (SS [vv 10 8,vv 5 10]
 (SS [o 11 (.load 3 true (t 3)),vv 12 0,vv 13 5,o 14 (.iAddrS 3 (t 12) (t 13)),o 15 (.load 3 true (t 14)),o 16 (.eqa false [(0,.str),(1,.str),(2,.str)] (t 11) (t 15))]
 (.cond (t 16) (SS [vv 17 5,vv 4 17]
 .ret) .skip))))
 (.ops [o 18 (.bin .add (t 8) (II 1)),vv 8 18])))))))
 (SS [o 4 (.mov (c (jI (-1))))]
 .ret)))⟩
def c186:Func :=
⟨2,35,[.tmp 4,.tmp 5],
 (SS [o 4 (.mov (c (.sl 6 true []))),KK 5 0]
 (QQ (SS [vv 11 0,o 12 (.lenSl (t 11)),vv 13 1,o 14 (.bin .gtr (t 12) (t 13))]
 (.cond (t 14) (SS [o 4 (.mov (c (.sl 6 true []))),KK 5 3]
 .ret) .skip))
 (SS [o 6 (.mov (c (.sl 6 true [])))]
 (.gh (.tmp 6 99 6 192) (QQ (SS [vv 15 0,o 16 (.lenSl (t 15)),KK 17 0]
 (.block 0 (.loop (SS [o 18 (.bin .lss (t 17) (t 16))]
 (QQ (.cond (t 18) .skip (.exit 0))
 (QQ (.block 1 (SS [o 19 (.iAddrS 4 (t 15) (t 17)),o 20 (.load 4 true (t 19)),o 8 (.alloc [Ee,Zz,(.sl 1 true []),Zz]),w (.store 4 (t 8) (t 20))]
 (SS [o 22 (.load 4 true (t 8)),o 23 (CC 226 [(t 22)]),vv 21 23,o 24 (.ext 0 (t 21)),o 25 (.ext 1 (t 21)),o 9 (.alloc [(.bool false),(.bool false),(.bool false),(.sl 1 true []),Zz,Zz]),w (.store 6 (t 9) (t 24)),vv 10 25]
 (QQ (SS [vv 26 10,o 27 (.bin .neq (t 26) (II 0))]
 (.cond (t 27) (SS [vv 28 10,o 4 (.mov (c (.sl 6 true []))),vv 5 28]
 .ret) .skip))
 (.ops [vv 29 6,o 30 (.load 6 true (t 9)),o 31 (.mkSl false 6 192 (.agg [(.bool false),(.bool false),(.bool false),(.sl 1 true []),Zz,Zz]) 1 [(0,(t 30))]),o 32 (.app 6 192 48 (t 29) (t 31)),vv 6 32])))))
 (.ops [o 33 (.bin .add (t 17) (II 1)),vv 17 33])))))))
 (SS [vv 34 6,vv 4 34,KK 5 0]
 .ret))))))⟩
def c136:Func :=
⟨1,11,[.tmp 2],
 (SS [KK 2 0]
 (SS [vv 6 0,o 7 (CC 186 [(t 6),(II 8)]),vv 5 7,o 8 (.ext 0 (t 5)),o 9 (.ext 1 (t 5)),vv 3 8,vv 4 9]
 (SS [vv 10 4,vv 2 10]
 .ret)))⟩
def c117:Func :=
⟨1,23,[.tmp 2],
 (SS [KK 2 0]
 (QQ (SS [KK 3 0]
 (.block 0 (.loop (QQ (SS [vv 6 3,vv 7 0,o 8 (.lenSl (t 7)),o 9 (.bin .lss (t 6) (t 8))]
 (.cond (t 9) .skip (.exit 0)))
 (QQ (.block 1 (SS [vv 13 0,vv 14 3,o 15 (.iAddrS 4 (t 13) (t 14)),o 16 (.load 4 true (t 15)),o 17 (CC 172 [(t 16)]),vv 12 17,o 18 (.ext 0 (t 12)),o 19 (.ext 1 (t 12)),o 4 (.alloc [(.bool false),(.bool false),(.bool false),(.sl 1 true []),Zz,Zz]),w (.store 6 (t 4) (t 18)),vv 5 19]
 (SS [vv 20 5,o 21 (.bin .neq (t 20) (II 0))]
 (.cond (t 21) (SS [vv 22 5,vv 2 22]
 .ret) .skip))))
 (.ops [vv 10 3,o 11 (.bin .add (t 10) (II 1)),vv 3 11]))))))
 (SS [KK 2 0]
 .ret)))⟩
def c67:Func :=
⟨1,8,[.tmp 2],
 (SS [KK 2 0]
 (QQ (SS [vv 3 0,o 4 (.lenSl (t 3)),o 5 (.bin .gtr (t 4) (II 8))]
 (.cond (t 5) (SS [KK 2 3]
 .ret) .skip))
 (SS [vv 6 0,o 7 (CC 117 [(t 6)]),vv 2 7]
 .ret)))⟩
end Go.Proofs.AM
