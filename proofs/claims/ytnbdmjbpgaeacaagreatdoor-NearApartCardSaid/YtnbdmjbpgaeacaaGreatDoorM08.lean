/- Part 8 of the lemmas: APVc, AVVf, AVVg, AGLa, AGLb. -/
import Derived.Test.YtnbdmjbpgaeacaaGreatDoorM06
import Derived.Test.YtnbdmjbpgaeacaaGreatDoorM07
import Derived.Lib.LaidTab
import Derived.Lib.ParseIntBTie
import Derived.WalkKit
import Derived.Test.YtnbdmjbpgaeacaaGreatDoorProg
import Derived.Shelf.Abstract
set_option maxRecDepth 100000
set_option maxHeartbeats 8000000
set_option linter.all false
namespace Go.Proofs.AM
open Go Cd
def c226:Func :=
⟨1,51,[.cell 2 6 true,.tmp 3],
 (SS [o 1 (.box (t 0)),o 2 (.alloc [(.bool false),(.bool false),(.bool false),(.sl 1 true []),Zz,Zz]),KK 3 0]
 (QQ (SS [o 6 (.load 4 true (t 1)),o 7 (CC 253 [(t 6)]),vv 4 7]
 (SS [vv 8 4,o 9 (.bin .neq (t 8) (II 0))]
 (.cond (t 9) (SS [o 10 (.build [(.bool false),(.bool false),(.bool false),(.sl 1 true []),Zz,Zz] []),vv 11 4,w (.store 6 (t 2) (t 10)),vv 3 11]
 .ret) .skip)))
 (SS [ff 12 2 1,ll 13 12,o 14 (.mkSl false 1 31 (.sl 1 true []) 1 [(0,(t 13))]),o 15 (CC 255 [(t 14)]),o 16 (CC 254 [(t 15)]),o 17 (.build [(.bool false),(.bool false),(.bool false),(.sl 1 true []),Zz,Zz] [(3,1,(t 16))]),o 5 (.alloc [(.bool false),(.bool false),(.bool false),(.sl 1 true []),Zz,Zz]),w (.store 6 (t 5) (t 17))]
 (.join (SS [ff 18 1 1,ll 19 18]
 (.block 0 (SS [o 21 (.bin .eql (t 19) (II 2)),vv 20 21]
 (.cond (t 20) (.ops [ff 22 0 5,w (.store 1 (t 22) (BB true)),ff 23 1 5,w (.store 1 (t 23) (BB true))]) (SS [o 25 (.bin .eql (t 19) (II 3)),vv 24 25]
 (.cond (t 24) (.ops [ff 26 1 5,w (.store 1 (t 26) (BB true))]) (SS [o 28 (.bin .eql (t 19) (II 4)),vv 27 28]
 (.cond (t 27) (.ops [ff 29 0 5,w (.store 1 (t 29) (BB true))]) (SS [o 31 (.bin .eql (t 19) (II 5)),vv 30 31]
 (.cond (t 30) (.ops [ff 33 3 1,ll 34 33,o 35 (.bin .add (t 34) (II 1)),o 36 (.call true (c (.fn 255 [] [])) [(c (.sl 1 true []))]),o 37 (.call true (c (.fn 256 [] [])) [(t 35),(II 2147483648),(t 36)]),vv 32 37,o 38 (.ext 0 (t 32)),o 39 (.ext 1 (t 32)),w (.store 6 (t 5) (t 38))]) (SS [o 41 (.bin .eql (t 19) (II 6)),vv 40 41]
 (.cond (t 40) (.ops [ff 43 3 1,ll 44 43,o 45 (.bin .sub (t 44) (II 1)),o 46 (.call true (c (.fn 255 [] [])) [(c (.sl 1 true []))]),o 47 (.call true (c (.fn 256 [] [])) [(c (jI (-2147483648))),(t 45),(t 46)]),vv 42 47,o 48 (.ext 0 (t 42)),o 49 (.ext 1 (t 42)),w (.store 6 (t 5) (t 48))]) .skip))))))))))))
 (SS [o 50 (.load 6 true (t 5)),w (.store 6 (t 2) (t 50)),KK 3 0]
 .ret)))))⟩
def c227:Func :=
⟨1,28,[.tmp 2,.tmp 3],
 (SS [KK 2 0,o 3 (.mov (BB false))]
 (SS [vv 7 0,o 8 (CC 257 [(t 7),(II 10),(II 64)]),vv 6 8,o 9 (.ext 0 (t 6)),o 10 (.ext 1 (t 6)),vv 4 9,vv 5 10]
 (QQ (SS [vv 11 5,o 12 (.eqn true (t 11) (c .nili)),vv 13 12,gv 14 4 13 false,gg 15 (.bin .lss (t 14) (c (jI (-2147483648)))) 13 false,o 16 (.pick (t 13) (BB true) (t 15)),vv 17 16,gv 18 4 17 false,gg 19 (.bin .gtr (t 18) (II 2147483648)) 17 false,o 20 (.pick (t 17) (BB true) (t 19)),vv 21 20,gv 22 4 21 false,gg 23 (CC 258 [(t 22),(II 10)]) 21 false,gv 24 0 21 false,gg 25 (.bin .neq (t 23) (t 24)) 21 false,o 26 (.pick (t 21) (BB true) (t 25))]
 (.cond (t 26) (SS [KK 2 0,o 3 (.mov (BB false))]
 .ret) .skip))
 (SS [vv 27 4,vv 2 27,o 3 (.mov (BB true))]
 .ret))))⟩
def c173:Func :=
⟨1,58,[.tmp 2,.tmp 3],
 (SS [KK 2 0,o 3 (.mov (BB false))]
 (QQ (SS [vv 7 0,o 8 (.lenStr (t 7)),o 9 (.bin .gtr (t 8) (II 11))]
 (.cond (t 9) (SS [KK 2 0,o 3 (.mov (BB false))]
 .ret) .skip))
 (SS [KK 4 0]
 (QQ (SS [KK 5 0]
 (.block 0 (.loop (QQ (SS [vv 10 5,vv 11 0,o 12 (.lenStr (t 11)),o 13 (.bin .lss (t 10) (t 12))]
 (.cond (t 13) .skip (.exit 0)))
 (QQ (.block 1 (SS [vv 16 0,vv 17 5,o 18 (.idxStr (t 16) (t 17)),o 19 (.bin .geq (t 18) (c (.int .u8 48))),vv 20 19,gv 21 0 20 true,gv 22 5 20 true,gg 23 (.idxStr (t 21) (t 22)) 20 true,gg 24 (.bin .leq (t 23) (c (.int .u8 57))) 20 true,o 25 (.pick (t 20) (t 24) (BB false))]
 (.cond (t 25) (.ops [vv 26 4,o 27 (.bin .mul (t 26) (II 10)),vv 28 0,vv 29 5,o 30 (.idxStr (t 28) (t 29)),o 31 (.bin .sub (t 30) (c (.int .u8 48))),o 32 (.cvInt .i64 (t 31)),o 33 (.bin .add (t 27) (t 32)),vv 4 33]) .skip)))
 (.ops [vv 14 5,o 15 (.bin .add (t 14) (II 1)),vv 5 15]))))))
 (QQ (SS [vv 34 0,o 35 (.lenStr (t 34)),o 36 (.bin .gtr (t 35) (II 0)),vv 37 36,gv 38 0 37 true,gg 39 (.idxStr (t 38) (II 0)) 37 true,gg 40 (.bin .eql (t 39) (c (.int .u8 45))) 37 true,o 41 (.pick (t 37) (t 40) (BB false))]
 (.cond (t 41) (.ops [vv 42 4,o 43 (.un .neg (t 42)),vv 4 43]) .skip))
 (SS [vv 44 4,o 45 (CC 212 [(t 44)]),vv 6 45]
 (QQ (SS [vv 46 6,vv 47 0,o 48 (.bin .neq (t 46) (t 47)),vv 49 48,gv 50 4 49 false,gg 51 (.bin .lss (t 50) (c (jI (-2147483648)))) 49 false,o 52 (.pick (t 49) (BB true) (t 51)),vv 53 52,gv 54 4 53 false,gg 55 (.bin .gtr (t 54) (II 2147483648)) 53 false,o 56 (.pick (t 53) (BB true) (t 55))]
 (.cond (t 56) (SS [KK 2 0,o 3 (.mov (BB false))]
 .ret) .skip))
 (SS [vv 57 4,vv 2 57,o 3 (.mov (BB true))]
 .ret))))))))⟩
def c65:Func :=
⟨1,54,[.tmp 2],
 (SS [o 2 (.mov (BB false))]
 (QQ (SS [vv 5 0,o 6 (.lenStr (t 5)),o 7 (.bin .lss (t 6) (II 1)),vv 8 7,gv 9 0 8 false,gg 10 (.lenStr (t 9)) 8 false,gg 11 (.bin .gtr (t 10) (II 16)) 8 false,o 12 (.pick (t 8) (BB true) (t 11)),vv 13 12,gv 14 0 13 false,gg 15 (.idxStr (t 14) (II 0)) 13 false,gg 16 (.bin .lss (t 15) (c (.int .u8 97))) 13 false,o 17 (.pick (t 13) (BB true) (t 16)),vv 18 17,gv 19 0 18 false,gg 20 (.idxStr (t 19) (II 0)) 18 false,gg 21 (.bin .gtr (t 20) (c (.int .u8 122))) 18 false,o 22 (.pick (t 18) (BB true) (t 21))]
 (.cond (t 22) (SS [o 2 (.mov (BB false))]
 .ret) .skip))
 (QQ (SS [KK 3 0]
 (.block 0 (.loop (QQ (SS [vv 23 3,vv 24 0,o 25 (.lenStr (t 24)),o 26 (.bin .lss (t 23) (t 25))]
 (.cond (t 26) .skip (.exit 0)))
 (QQ (.block 1 (SS [vv 29 0,vv 30 3,o 31 (.idxStr (t 29) (t 30)),vv 4 31]
 (SS [vv 32 4,o 33 (.bin .lss (t 32) (c (.int .u8 97))),vv 34 33,gv 35 4 34 false,gg 36 (.bin .gtr (t 35) (c (.int .u8 122))) 34 false,o 37 (.pick (t 34) (BB true) (t 36)),vv 38 37,gv 39 4 38 true,gg 40 (.bin .lss (t 39) (c (.int .u8 48))) 38 true,gv 41 40 38 true,gv 42 4 41 false,gg 43 (.bin .gtr (t 42) (c (.int .u8 57))) 41 false,gg 44 (.pick (t 41) (BB true) (t 43)) 38 true,o 45 (.pick (t 38) (t 44) (BB false)),vv 46 45,gv 47 4 46 true,gg 48 (.bin .neq (t 47) (c (.int .u8 46))) 46 true,o 49 (.pick (t 46) (t 48) (BB false)),vv 50 49,gv 51 4 50 true,gg 52 (.bin .neq (t 51) (c (.int .u8 45))) 50 true,o 53 (.pick (t 50) (t 52) (BB false))]
 (.cond (t 53) (SS [o 2 (.mov (BB false))]
 .ret) .skip))))
 (.ops [vv 27 3,o 28 (.bin .add (t 27) (II 1)),vv 3 28]))))))
 (SS [o 2 (.mov (BB true))]
 .ret))))⟩
def c118:Func :=
⟨1,17,[.tmp 2],
 (SS [o 2 (.mov (BB false))]
 (SS [vv 6 0,o 7 (CC 65 [(t 6)]),vv 3 7]
 (SS [vv 9 0,o 10 (CC 173 [(t 9)]),vv 8 10,o 11 (.ext 0 (t 8)),o 12 (.ext 1 (t 8)),vv 4 11,vv 5 12]
 (SS [vv 13 3,vv 14 13,gv 15 5 14 false,o 16 (.pick (t 14) (BB true) (t 15)),vv 2 16]
 .ret))))⟩
def c184:Func :=
⟨1,50,[.tmp 2],
 (SS [o 2 (.mov (BB false))]
 (QQ (SS [vv 6 0,o 7 (.cvSB (t 6)),o 8 (.lenSl (t 7)),KK 9 0]
 (.block 0 (.loop (SS [o 10 (.bin .lss (t 9) (t 8))]
 (QQ (.cond (t 10) .skip (.exit 0))
 (QQ (.block 1 (SS [vv 11 9,o 12 (.iAddrS 1 (t 7) (t 9)),ll 13 12,vv 3 11,vv 4 13]
 (SS [vv 14 4,o 15 (.bin .geq (t 14) (c (.int .u8 97))),vv 16 15,gv 17 4 16 true,gg 18 (.bin .leq (t 17) (c (.int .u8 122))) 16 true,o 19 (.pick (t 16) (t 18) (BB false)),vv 5 19]
 (SS [vv 20 5,o 21 (.un .not (t 20)),vv 22 21,gv 23 3 22 true,gg 24 (.bin .eql (t 23) (II 0)) 22 true,gv 25 24 22 true,gv 26 4 25 false,gg 27 (.bin .neq (t 26) (c (.int .u8 46))) 25 false,gv 28 27 25 false,gv 29 4 28 true,gg 30 (.bin .neq (t 29) (c (.int .u8 45))) 28 true,gg 31 (.pick (t 28) (t 30) (BB false)) 25 false,gv 32 31 25 false,gv 33 4 32 true,gg 34 (.bin .lss (t 33) (c (.int .u8 48))) 32 true,gv 35 34 32 true,gv 36 4 35 false,gg 37 (.bin .gtr (t 36) (c (.int .u8 57))) 35 false,gg 38 (.pick (t 35) (BB true) (t 37)) 32 true,gg 39 (.pick (t 32) (t 38) (BB false)) 25 false,gg 40 (.pick (t 25) (BB true) (t 39)) 22 true,o 41 (.pick (t 22) (t 40) (BB false))]
 (.cond (t 41) (SS [o 2 (.mov (BB false))]
 .ret) .skip)))))
 (.ops [o 42 (.bin .add (t 9) (II 1)),vv 9 42])))))))
 (SS [vv 43 0,o 44 (.bin .neq (t 43) (c Ee)),vv 45 44,gv 46 0 45 true,gg 47 (.lenStr (t 46)) 45 true,gg 48 (.bin .leq (t 47) (II 16)) 45 true,o 49 (.pick (t 45) (t 48) (BB false)),vv 2 49]
 .ret)))⟩
def c187:Func :=
⟨1,15,[.tmp 2],
 (SS [o 2 (.mov (BB false))]
 (SS [vv 6 0,o 7 (CC 227 [(t 6)]),vv 5 7,o 8 (.ext 0 (t 5)),o 9 (.ext 1 (t 5)),vv 3 8,vv 4 9]
 (SS [vv 10 4,vv 11 10,gv 12 0 11 false,gg 13 (CC 184 [(t 12)]) 11 false,o 14 (.pick (t 11) (BB true) (t 13)),vv 2 14]
 .ret)))⟩
def c172:Func :=
⟨1,53,[.cell 2 6 true,.tmp 3],
 (SS [o 1 (.box (t 0)),o 2 (.alloc [(.bool false),(.bool false),(.bool false),(.sl 1 true []),Zz,Zz]),KK 3 0]
 (SS [o 9 (.load 4 true (t 1)),o 10 (CC 209 [(t 9)]),vv 4 10]
 (QQ (SS [vv 11 4,o 12 (.bin .neq (t 11) (II 0))]
 (.cond (t 12) (SS [o 13 (.build [(.bool false),(.bool false),(.bool false),(.sl 1 true []),Zz,Zz] []),vv 14 4,w (.store 6 (t 2) (t 13)),vv 3 14]
 .ret) .skip))
 (QQ (SS [ff 15 1 1,ll 16 15]
 (.block 0 (SS [o 18 (.bin .eql (t 16) (II 1)),vv 17 18]
 (.cond (t 17) (SS [ff 19 2 1,ll 20 19,o 21 (CC 210 [(t 20)]),o 22 (.build [(.bool false),(.bool false),(.bool false),(.sl 1 true []),Zz,Zz] [(3,1,(t 21))]),w (.store 6 (t 2) (t 22)),KK 3 0]
 .ret) (SS [o 24 (.bin .eql (t 16) (II 2)),vv 23 24]
 (.cond (t 23) (SS [ff 25 2 1,ll 26 25,o 27 (CC 210 [(t 26)]),o 28 (.build [(.bool false),(.bool false),(.bool false),(.sl 1 true []),Zz,Zz] [(0,1,(BB true)),(1,1,(BB true)),(3,1,(t 27))]),w (.store 6 (t 2) (t 28)),KK 3 0]
 .ret) (SS [o 30 (.bin .eql (t 16) (II 3)),vv 29 30]
 (.cond (t 29) (SS [o 31 (.build [(.bool false),(.bool false),(.bool false),(.sl 1 true []),Zz,Zz] [(1,1,(BB true))]),w (.store 6 (t 2) (t 31)),KK 3 0]
 .ret) (SS [o 33 (.bin .eql (t 16) (II 4)),vv 32 33]
 (.cond (t 32) (SS [o 34 (.build [(.bool false),(.bool false),(.bool false),(.sl 1 true []),Zz,Zz] [(0,1,(BB true))]),w (.store 6 (t 2) (t 34)),KK 3 0]
 .ret) (SS [o 36 (.bin .eql (t 16) (II 5)),vv 35 36]
 (.cond (t 35) (SS [ff 38 3 1,ll 39 38,o 40 (.bin .add (t 39) (II 1)),o 41 (CC 211 [(t 40),(II 2147483648),(c (.sl 1 true []))]),vv 37 41,o 42 (.ext 0 (t 37)),o 43 (.ext 1 (t 37)),o 5 (.alloc [(.bool false),(.bool false),(.bool false),(.sl 1 true []),Zz,Zz]),w (.store 6 (t 5) (t 42)),vv 6 43]
 (SS [o 44 (.load 6 true (t 5)),w (.store 6 (t 2) (t 44)),KK 3 0]
 .ret)) .skip))))))))))))
 (SS [ff 46 3 1,ll 47 46,o 48 (.bin .sub (t 47) (II 1)),o 49 (CC 211 [(c (jI (-2147483648))),(t 48),(c (.sl 1 true []))]),vv 45 49,o 50 (.ext 0 (t 45)),o 51 (.ext 1 (t 45)),o 7 (.alloc [(.bool false),(.bool false),(.bool false),(.sl 1 true []),Zz,Zz]),w (.store 6 (t 7) (t 50)),vv 8 51]
 (SS [o 52 (.load 6 true (t 7)),w (.store 6 (t 2) (t 52)),KK 3 0]
 .ret))))))⟩
def c253:Func :=
⟨1,73,[.tmp 2],
 (SS [o 1 (.box (t 0)),KK 2 0]
 (.join (.ops [ff 5 1 1,ll 6 5,o 7 (.bin .eql (t 6) (II 1)),vv 8 7,gf 9 1 1 8 false,gl 10 9 8 false,gg 11 (.bin .eql (t 10) (II 2)) 8 false,o 12 (.pick (t 8) (BB true) (t 11)),vv 3 12])
 (.join (.ops [ff 13 1 1,ll 14 13,o 15 (.bin .eql (t 14) (II 5)),vv 16 15,gf 17 1 1 16 false,gl 18 17 16 false,gg 19 (.bin .eql (t 18) (II 6)) 16 false,o 20 (.pick (t 16) (BB true) (t 19)),vv 4 20])
 (QQ (.block 0 (SS [ff 22 0 1,ll 23 22,o 24 (CC 184 [(t 23)]),o 25 (.un .not (t 24)),vv 21 25]
 (.cond (t 21) (SS [KK 2 7]
 .ret) (.join (SS [ff 27 1 1,ll 28 27,o 29 (.bin .lss (t 28) (II 1)),vv 30 29,gf 31 1 1 30 false,gl 32 31 30 false,gg 33 (.bin .gtr (t 32) (II 6)) 30 false,o 34 (.pick (t 30) (BB true) (t 33)),vv 26 34]
 (.cond (t 26) .skip (SS [vv 35 3,ff 36 2 1,ll 37 36,o 38 (.lenSl (t 37)),o 39 (.bin .gtr (t 38) (II 0)),o 40 (.eqb true (t 35) (t 39)),vv 26 40]
 (.cond (t 26) .skip (SS [vv 41 4,o 42 (.un .not (t 41)),vv 43 42,gf 44 3 1 43 true,gl 45 44 43 true,gg 46 (.bin .neq (t 45) (II 0)) 43 true,o 47 (.pick (t 43) (t 46) (BB false)),vv 26 47]
 (.cond (t 26) .skip (SS [ff 48 3 1,ll 49 48,o 50 (.bin .lss (t 49) (c (jI (-2147483648)))),vv 26 50]
 (.cond (t 26) .skip (.ops [ff 51 3 1,ll 52 51,o 53 (.bin .gtr (t 52) (II 2147483648)),vv 26 53])))))))))
 (.cond (t 26) (SS [KK 2 30]
 .ret) (SS [ff 55 2 1,ll 56 55,o 57 (.lenSl (t 56)),o 58 (.bin .gtr (t 57) (II 8)),vv 54 58]
 (.cond (t 54) (SS [KK 2 3]
 .ret) (SS [ff 60 2 1,ll 61 60,o 62 (CC 182 [(t 61),(c (.fn 265 [] []))]),vv 59 62]
 (.cond (t 59) (SS [KK 2 20]
 .ret) (SS [ff 64 2 1,ll 65 64,o 66 (.mkSl true 1 31 (.sl 1 true []) 1 [(0,(t 65))]),o 67 (.call true (c (.fn 255 [] [])) [(t 66)]),o 68 (.lenMap (t 67)),ff 69 2 1,ll 70 69,o 71 (.lenSl (t 70)),o 72 (.bin .lss (t 68) (t 71)),vv 63 72]
 (.cond (t 63) (SS [KK 2 6]
 .ret) .skip)))))))))))
 (SS [KK 2 0]
 .ret)))))⟩
def c255:Func :=
⟨1,26,[.tmp 2],
 (SS [o 2 (.mov (c .nilm))]
 (SS [o 8 (.mkMap),vv 3 8]
 (QQ (SS [vv 9 0,o 10 (.lenSl (t 9)),KK 11 0]
 (.block 0 (.loop (SS [o 12 (.bin .lss (t 11) (t 10))]
 (QQ (.cond (t 12) .skip (.exit 0))
 (QQ (.block 1 (SS [o 13 (.iAddrS 1 (t 9) (t 11)),ll 14 13,vv 5 14]
 (SS [vv 15 5,o 16 (.lenSl (t 15)),KK 17 0]
 (.block 2 (.loop (SS [o 18 (.bin .lss (t 17) (t 16))]
 (QQ (.cond (t 18) .skip (.exit 2))
 (QQ (.block 3 (SS [o 19 (.iAddrS 1 (t 15) (t 17)),ll 20 19,vv 7 20]
 (.ops [vv 21 3,vv 22 7,w (.mput (false,[(0,.str)]) (t 21) (t 22) (BB true))])))
 (.ops [o 23 (.bin .add (t 17) (II 1)),vv 17 23])))))))))
 (.ops [o 24 (.bin .add (t 11) (II 1)),vv 11 24])))))))
 (SS [vv 25 3,vv 2 25]
 .ret))))⟩
def c256:Func :=
⟨3,95,[.cell 6 6 true,.tmp 7],
 (SS [o 6 (.alloc [(.bool false),(.bool false),(.bool false),(.sl 1 true []),Zz,Zz]),o 7 (.mov (BB false))]
 (.join (.block 0 (.loop (QQ (SS [vv 14 0,vv 15 1,o 16 (.bin .leq (t 14) (t 15)),vv 17 16,gv 18 2 17 true,gv 19 0 17 true,gg 20 (CC 258 [(t 19),(II 10)]) 17 true,gg 21 (.look (false,[(0,.str)]) (.bool false) false (t 18) (t 20)) 17 true,o 22 (.pick (t 17) (t 21) (BB false))]
 (.cond (t 22) .skip (.exit 0)))
 (.block 1 (.ops [vv 23 0,o 24 (.bin .add (t 23) (II 1)),vv 0 24])))))
 (.join (.block 2 (.loop (QQ (SS [vv 25 0,vv 26 1,o 27 (.bin .leq (t 25) (t 26)),vv 28 27,gv 29 2 28 true,gv 30 1 28 true,gg 31 (CC 258 [(t 30),(II 10)]) 28 true,gg 32 (.look (false,[(0,.str)]) (.bool false) false (t 29) (t 31)) 28 true,o 33 (.pick (t 28) (t 32) (BB false))]
 (.cond (t 33) .skip (.exit 2)))
 (.block 3 (.ops [vv 34 1,o 35 (.bin .sub (t 34) (II 1)),vv 1 35])))))
 (.join (SS [vv 36 2,o 37 (.mkIter (t 36))]
 (.block 4 (.loop (SS [o 38 (.next (t 37)),o 39 (.ext 0 (t 38))]
 (QQ (.cond (t 39) .skip (.exit 4))
 (.block 5 (SS [o 40 (.entry (t 37)),o 41 (.ext 0 (t 40)),vv 8 41]
 (SS [vv 43 8,o 44 (CC 227 [(t 43)]),vv 42 44,o 45 (.ext 0 (t 42)),o 46 (.ext 1 (t 42)),vv 9 45,vv 10 46]
 (SS [vv 47 10,o 48 (.un .not (t 47)),vv 49 48,gv 50 9 49 false,gv 51 0 49 false,gg 52 (.bin .leq (t 50) (t 51)) 49 false,o 53 (.pick (t 49) (BB true) (t 52)),vv 54 53,gv 55 9 54 false,gv 56 1 54 false,gg 57 (.bin .geq (t 55) (t 56)) 54 false,o 58 (.pick (t 54) (BB true) (t 57))]
 (.cond (t 58) (.ops [vv 59 2,vv 60 8,w (.mdel (false,[(0,.str)]) (t 59) (t 60))]) .skip))))))))))
 (QQ (SS [vv 61 1,vv 62 0,o 63 (.bin .sub (t 61) (t 62)),o 64 (.bin .add (t 63) (II 1)),vv 65 2,o 66 (.lenMap (t 65)),o 67 (.bin .sub (t 64) (t 66)),o 68 (.bin .gtr (t 67) (II 64))]
 (.cond (t 68) (SS [vv 69 2,o 70 (CC 254 [(t 69)]),vv 71 0,vv 72 1,o 73 (.build [(.bool false),(.bool false),(.bool false),(.sl 1 true []),Zz,Zz] [(1,1,(BB true)),(2,1,(BB true)),(3,1,(t 70)),(4,1,(t 71)),(5,1,(t 72))]),vv 74 2,o 75 (.lenMap (t 74)),o 76 (.bin .leq (t 75) (II 64)),w (.store 6 (t 6) (t 73)),vv 7 76]
 .ret) .skip))
 (SS [o 77 (.mkMap),vv 11 77]
 (QQ (SS [vv 78 0,vv 12 78]
 (.block 6 (.loop (QQ (SS [vv 79 12,vv 80 1,o 81 (.bin .leq (t 79) (t 80))]
 (.cond (t 81) .skip (.exit 6)))
 (QQ (.block 7 (SS [vv 84 12,o 85 (CC 258 [(t 84),(II 10)]),vv 13 85]
 (SS [vv 86 2,vv 87 13,o 88 (.look (false,[(0,.str)]) (.bool false) false (t 86) (t 87)),o 89 (.un .not (t 88))]
 (.cond (t 89) (.ops [vv 90 11,vv 91 13,w (.mput (false,[(0,.str)]) (t 90) (t 91) (BB true))]) .skip))))
 (.ops [vv 82 12,o 83 (.bin .add (t 82) (II 1)),vv 12 83]))))))
 (SS [vv 92 11,o 93 (CC 254 [(t 92)]),o 94 (.build [(.bool false),(.bool false),(.bool false),(.sl 1 true []),Zz,Zz] [(3,1,(t 93))]),w (.store 6 (t 6) (t 94)),o 7 (.mov (BB true))]
 .ret))))))))⟩
def c212:Func :=
⟨1,29,[.tmp 2],
 (SS [o 2 (.mov (c Ee))]
 (SS [o 3 (.mov (c Ee))]
 (SS [vv 6 0,vv 4 6]
 (QQ (.block 0 (.loop (.block 1 (SS [vv 7 4,o 8 (.bin .rem (t 7) (II 10)),vv 5 8]
 (QQ (SS [vv 9 5,o 10 (.bin .lss (t 9) (II 0))]
 (.cond (t 10) (.ops [vv 11 5,o 12 (.un .neg (t 11)),vv 5 12]) .skip))
 (SS [vv 13 5,o 14 (.bin .add (II 48) (t 13)),o 15 (.cvInt .u8 (t 14)),o 16 (.mkSl false 1 5 (.int .u8 0) 1 [(0,(t 15))]),o 17 (.cvBS (t 16)),vv 18 3,o 19 (.bin .add (t 17) (t 18)),vv 3 19]
 (SS [vv 20 4,o 21 (.bin .quo (t 20) (II 10)),vv 4 21]
 (SS [vv 22 4,o 23 (.bin .eql (t 22) (II 0))]
 (.cond (t 23) (.exit 0) .skip)))))))))
 (QQ (SS [vv 24 0,o 25 (.bin .lss (t 24) (II 0))]
 (.cond (t 25) (SS [vv 26 3,o 27 (.bin .add (c (.str ⟨#[45]⟩)) (t 26)),vv 2 27]
 .ret) .skip))
 (SS [vv 28 3,vv 2 28]
 .ret))))))⟩
def c209:Func :=
⟨1,103,[.tmp 2],
 (SS [o 1 (.box (t 0)),KK 2 0]
 (SS [ff 10 0 1,ll 11 10,o 12 (CC 65 [(t 11)]),vv 3 12]
 (QQ (SS [vv 13 3,o 14 (.un .not (t 13))]
 (.cond (t 14) (SS [KK 2 7]
 .ret) .skip))
 (.join (.ops [ff 15 1 1,ll 16 15,o 17 (.bin .eql (t 16) (II 1)),vv 18 17,gf 19 1 1 18 false,gl 20 19 18 false,gg 21 (.bin .eql (t 20) (II 2)) 18 false,o 22 (.pick (t 18) (BB true) (t 21)),vv 4 22])
 (.join (.ops [ff 23 1 1,ll 24 23,o 25 (.bin .eql (t 24) (II 5)),vv 26 25,gf 27 1 1 26 false,gl 28 27 26 false,gg 29 (.bin .eql (t 28) (II 6)) 26 false,o 30 (.pick (t 26) (BB true) (t 29)),vv 5 30])
 (.join (SS [ff 31 1 1,ll 32 31,o 33 (.bin .lss (t 32) (II 1)),vv 34 33,gf 35 1 1 34 false,gl 36 35 34 false,gg 37 (.bin .gtr (t 36) (II 6)) 34 false,o 38 (.pick (t 34) (BB true) (t 37)),vv 39 38,gv 40 4 39 false,gf 41 2 1 39 false,gl 42 41 39 false,gg 43 (.lenSl (t 42)) 39 false,gg 44 (.bin .gtr (t 43) (II 0)) 39 false,gg 45 (.eqb true (t 40) (t 44)) 39 false,o 46 (.pick (t 39) (BB true) (t 45)),vv 47 46,gv 48 5 47 false,gg 49 (.un .not (t 48)) 47 false,gv 50 49 47 false,gf 51 3 1 50 true,gl 52 51 50 true,gg 53 (.bin .neq (t 52) (II 0)) 50 true,gg 54 (.pick (t 50) (t 53) (BB false)) 47 false,o 55 (.pick (t 47) (BB true) (t 54)),vv 56 55,gf 57 3 1 56 false,gl 58 57 56 false,gg 59 (.bin .lss (t 58) (c (jI (-2147483648)))) 56 false,o 60 (.pick (t 56) (BB true) (t 59)),vv 61 60,gf 62 3 1 61 false,gl 63 62 61 false,gg 64 (.bin .gtr (t 63) (II 2147483648)) 61 false,o 65 (.pick (t 61) (BB true) (t 64))]
 (.cond (t 65) (SS [KK 2 30]
 .ret) .skip))
 (QQ (SS [ff 66 2 1,ll 67 66,o 68 (.lenSl (t 67)),o 69 (.bin .gtr (t 68) (II 8))]
 (.cond (t 69) (SS [KK 2 3]
 .ret) .skip))
 (QQ (SS [KK 6 0]
 (.block 0 (.loop (QQ (SS [vv 70 6,ff 71 2 1,ll 72 71,o 73 (.lenSl (t 72)),o 74 (.bin .lss (t 70) (t 73))]
 (.cond (t 74) .skip (.exit 0)))
 (QQ (.block 1 (SS [ff 77 2 1,ll 78 77,vv 79 6,o 80 (.iAddrS 1 (t 78) (t 79)),ll 81 80,o 82 (CC 118 [(t 81)]),vv 7 82]
 (SS [vv 83 7,o 84 (.un .not (t 83))]
 (.cond (t 84) (SS [KK 2 20]
 .ret) .skip))))
 (.ops [vv 75 6,o 76 (.bin .add (t 75) (II 1)),vv 6 76]))))))
 (QQ (SS [KK 8 0]
 (.block 2 (.loop (QQ (SS [vv 85 8,ff 86 2 1,ll 87 86,o 88 (.lenSl (t 87)),o 89 (.bin .lss (t 85) (t 88))]
 (.cond (t 89) .skip (.exit 2)))
 (QQ (.block 3 (SS [ff 92 2 1,ll 93 92,vv 94 8,o 95 (.slc 1 (t 93) none (some (t 94))),ff 96 2 1,ll 97 96,vv 98 8,o 99 (.iAddrS 1 (t 97) (t 98)),ll 100 99,o 101 (.call true (c (.fn 240 [] [])) [(t 95),(t 100)]),vv 9 101]
 (SS [vv 102 9]
 (.cond (t 102) (SS [KK 2 6]
 .ret) .skip))))
 (.ops [vv 90 8,o 91 (.bin .add (t 90) (II 1)),vv 8 91]))))))
 (SS [KK 2 0]
 .ret))))))))))⟩
def c210:Func :=
⟨1,18,[.tmp 2],
 (SS [o 2 (.mov (c (.sl 1 true [])))]
 (SS [o 3 (.mov (c (.sl 1 true [])))]
 (QQ (SS [KK 4 0]
 (.block 0 (.loop (QQ (SS [vv 5 4,vv 6 0,o 7 (.lenSl (t 6)),o 8 (.bin .lss (t 5) (t 7))]
 (.cond (t 8) .skip (.exit 0)))
 (QQ (.block 1 (.ops [vv 11 3,vv 12 0,vv 13 4,o 14 (.iAddrS 1 (t 12) (t 13)),ll 15 14,o 16 (CC 247 [(t 11),(t 15)]),vv 3 16]))
 (.ops [vv 9 4,o 10 (.bin .add (t 9) (II 1)),vv 4 10]))))))
 (SS [vv 17 3,vv 2 17]
 .ret))))⟩
def c211:Func :=
⟨3,109,[.cell 6 6 true,.tmp 7],
 (SS [o 6 (.alloc [(.bool false),(.bool false),(.bool false),(.sl 1 true []),Zz,Zz]),o 7 (.mov (BB false))]
 (.join (.block 0 (.loop (QQ (SS [vv 20 0,vv 21 1,o 22 (.bin .leq (t 20) (t 21))]
 (.cond (t 22) .skip (.exit 0)))
 (.block 1 (SS [vv 23 0,o 24 (CC 212 [(t 23)]),vv 8 24]
 (SS [vv 25 2,vv 26 8,o 27 (CC 240 [(t 25),(t 26)]),vv 9 27]
 (QQ (SS [vv 28 9,o 29 (.un .not (t 28))]
 (.cond (t 29) (.exit 0) .skip))
 (.ops [vv 30 0,o 31 (.bin .add (t 30) (II 1)),vv 0 31]))))))))
 (.join (.block 2 (.loop (QQ (SS [vv 32 0,vv 33 1,o 34 (.bin .leq (t 32) (t 33))]
 (.cond (t 34) .skip (.exit 2)))
 (.block 3 (SS [vv 35 1,o 36 (CC 212 [(t 35)]),vv 10 36]
 (SS [vv 37 2,vv 38 10,o 39 (CC 240 [(t 37),(t 38)]),vv 11 39]
 (QQ (SS [vv 40 11,o 41 (.un .not (t 40))]
 (.cond (t 41) (.exit 2) .skip))
 (.ops [vv 42 1,o 43 (.bin .sub (t 42) (II 1)),vv 1 43]))))))))
 (SS [o 12 (.mov (c (.sl 1 true [])))]
 (.join (SS [KK 13 0]
 (.block 4 (.loop (QQ (SS [vv 44 13,vv 45 2,o 46 (.lenSl (t 45)),o 47 (.bin .lss (t 44) (t 46))]
 (.cond (t 47) .skip (.exit 4)))
 (QQ (.block 5 (SS [vv 51 2,vv 52 13,o 53 (.iAddrS 1 (t 51) (t 52)),ll 54 53,o 55 (CC 173 [(t 54)]),vv 50 55,o 56 (.ext 0 (t 50)),o 57 (.ext 1 (t 50)),vv 14 56,vv 15 57]
 (SS [vv 58 15,vv 59 58,gv 60 14 59 true,gv 61 0 59 true,gg 62 (.bin .gtr (t 60) (t 61)) 59 true,o 63 (.pick (t 59) (t 62) (BB false)),vv 64 63,gv 65 14 64 true,gv 66 1 64 true,gg 67 (.bin .lss (t 65) (t 66)) 64 true,o 68 (.pick (t 64) (t 67) (BB false))]
 (.cond (t 68) (.ops [vv 69 12,vv 70 2,vv 71 13,o 72 (.iAddrS 1 (t 70) (t 71)),ll 73 72,o 74 (CC 247 [(t 69),(t 73)]),vv 12 74]) .skip))))
 (.ops [vv 48 13,o 49 (.bin .add (t 48) (II 1)),vv 13 49]))))))
 (QQ (SS [vv 75 1,vv 76 0,o 77 (.bin .sub (t 75) (t 76)),o 78 (.bin .add (t 77) (II 1)),vv 79 12,o 80 (.lenSl (t 79)),o 81 (.bin .sub (t 78) (t 80)),o 82 (.bin .leq (t 81) (II 64))]
 (.cond (t 82) (SS [o 16 (.mov (c (.sl 1 true [])))]
 (QQ (SS [vv 83 0,vv 17 83]
 (.block 6 (.loop (QQ (SS [vv 84 17,vv 85 1,o 86 (.bin .leq (t 84) (t 85))]
 (.cond (t 86) .skip (.exit 6)))
 (QQ (.block 7 (SS [vv 89 17,o 90 (CC 212 [(t 89)]),vv 18 90]
 (SS [vv 91 12,vv 92 18,o 93 (CC 240 [(t 91),(t 92)]),vv 19 93]
 (SS [vv 94 19,o 95 (.un .not (t 94))]
 (.cond (t 95) (.ops [vv 96 16,vv 97 18,o 98 (CC 247 [(t 96),(t 97)]),vv 16 98]) .skip)))))
 (.ops [vv 87 17,o 88 (.bin .add (t 87) (II 1)),vv 17 88]))))))
 (SS [vv 99 16,o 100 (.build [(.bool false),(.bool false),(.bool false),(.sl 1 true []),Zz,Zz] [(3,1,(t 99))]),w (.store 6 (t 6) (t 100)),o 7 (.mov (BB true))]
 .ret))) .skip))
 (QQ (SS [vv 101 12,o 102 (.lenSl (t 101)),o 103 (.bin .gtr (t 102) (II 64))]
 (.cond (t 103) (SS [o 104 (.build [(.bool false),(.bool false),(.bool false),(.sl 1 true []),Zz,Zz] []),w (.store 6 (t 6) (t 104)),o 7 (.mov (BB false))]
 .ret) .skip))
 (SS [vv 105 12,vv 106 0,vv 107 1,o 108 (.build [(.bool false),(.bool false),(.bool false),(.sl 1 true []),Zz,Zz] [(1,1,(BB true)),(2,1,(BB true)),(3,1,(t 105)),(4,1,(t 106)),(5,1,(t 107))]),w (.store 6 (t 6) (t 108)),o 7 (.mov (BB true))]
 .ret))))))))⟩
def c232:Func :=
⟨2,37,[.tmp 4],
 (SS [o 2 (.box (t 0)),o 4 (.mov (BB false))]
 (SS [ff 8 3 2,ll 9 8,vv 10 1,o 11 (CC 52 [(t 9),(t 10)]),vv 5 11]
 (QQ (SS [ff 12 1 2,ll 13 12,vv 14 5,o 15 (.eqb true (t 13) (t 14))]
 (.cond (t 15) (QQ (SS [ff 16 2 2,ll 17 16,o 18 (.un .not (t 17))]
 (.cond (t 18) (SS [o 4 (.mov (BB true))]
 .ret) .skip))
 (SS [vv 20 1,o 21 (CC 227 [(t 20)]),vv 19 21,o 22 (.ext 0 (t 19)),o 23 (.ext 1 (t 19)),vv 6 22,vv 7 23]
 (SS [vv 24 7,vv 25 24,gv 26 6 25 true,gf 27 4 2 25 true,gl 28 27 25 true,gg 29 (.bin .geq (t 26) (t 28)) 25 true,o 30 (.pick (t 25) (t 29) (BB false)),vv 31 30,gv 32 6 31 true,gf 33 5 2 31 true,gl 34 33 31 true,gg 35 (.bin .leq (t 32) (t 34)) 31 true,o 36 (.pick (t 31) (t 35) (BB false)),vv 4 36]
 .ret))) .skip))
 (SS [o 4 (.mov (BB false))]
 .ret))))⟩
def c240:Func :=
⟨2,18,[.tmp 4],
 (SS [o 4 (.mov (BB false))]
 (QQ (SS [KK 5 0]
 (.block 0 (.loop (QQ (SS [vv 6 5,vv 7 0,o 8 (.lenSl (t 7)),o 9 (.bin .lss (t 6) (t 8))]
 (.cond (t 9) .skip (.exit 0)))
 (QQ (.block 1 (SS [vv 12 0,vv 13 5,o 14 (.iAddrS 1 (t 12) (t 13)),ll 15 14,vv 16 1,o 17 (.bin .eql (t 15) (t 16))]
 (.cond (t 17) (SS [o 4 (.mov (BB true))]
 .ret) .skip)))
 (.ops [vv 10 5,o 11 (.bin .add (t 10) (II 1)),vv 5 11]))))))
 (SS [o 4 (.mov (BB false))]
 .ret)))⟩
def c182:Func :=
⟨2,9,[.tmp 4],
 (SS [o 4 (.mov (BB false))]
 (SS [vv 5 0,vv 6 1,o 7 (CC 225 [(t 5),(t 6)]),o 8 (.bin .geq (t 7) (II 0)),vv 4 8]
 .ret))⟩
def c265:Func :=
⟨1,6,[.tmp 2],
 (SS [o 2 (.mov (BB false))]
 (SS [vv 3 0,o 4 (CC 187 [(t 3)]),o 5 (.un .not (t 4)),vv 2 5]
 .ret))⟩
def c247:Func :=
⟨2,48,[.tmp 4],
 (SS [o 4 (.mov (c (.sl 1 true [])))]
 (SS [KK 5 0]
 (QQ (.block 0 (.loop (QQ (SS [vv 7 5,vv 8 0,o 9 (.lenSl (t 8)),o 10 (.bin .lss (t 7) (t 9)),vv 11 10,gv 12 0 11 true,gv 13 5 11 true,gg 14 (.iAddrS 1 (t 12) (t 13)) 11 true,gl 15 14 11 true,gv 16 1 11 true,gg 17 (.bin .lss (t 15) (t 16)) 11 true,o 18 (.pick (t 11) (t 17) (BB false))]
 (.cond (t 18) .skip (.exit 0)))
 (.block 1 (.ops [vv 19 5,o 20 (.bin .add (t 19) (II 1)),vv 5 20])))))
 (QQ (SS [vv 21 5,vv 22 0,o 23 (.lenSl (t 22)),o 24 (.bin .lss (t 21) (t 23)),vv 25 24,gv 26 0 25 true,gv 27 5 25 true,gg 28 (.iAddrS 1 (t 26) (t 27)) 25 true,gl 29 28 25 true,gv 30 1 25 true,gg 31 (.bin .eql (t 29) (t 30)) 25 true,o 32 (.pick (t 25) (t 31) (BB false))]
 (.cond (t 32) (SS [vv 33 0,vv 4 33]
 .ret) .skip))
 (SS [o 6 (.mov (c (.sl 1 true [])))]
 (SS [vv 34 6,vv 35 0,vv 36 5,o 37 (.slc 1 (t 35) none (some (t 36))),o 38 (.app 1 9 16 (t 34) (t 37)),vv 6 38]
 (SS [vv 39 6,vv 40 1,o 41 (.mkSl false 1 9 Ee 1 [(0,(t 40))]),o 42 (.app 1 9 16 (t 39) (t 41)),vv 6 42]
 (SS [vv 43 6,vv 44 0,vv 45 5,o 46 (.slc 1 (t 44) (some (t 45)) none),o 47 (.app 1 9 16 (t 43) (t 46)),vv 4 47]
 .ret))))))))⟩
def c52:Func :=
⟨2,9,[.tmp 4],
 (SS [o 4 (.mov (BB false))]
 (SS [vv 5 0,vv 6 1,o 7 (CC 106 [(t 5),(t 6)]),o 8 (.bin .geq (t 7) (II 0)),vv 4 8]
 .ret))⟩
def c225:Func :=
⟨2,19,[.tmp 4],
 (SS [KK 4 0]
 (QQ (SS [vv 6 0,o 7 (.lenSl (t 6)),KK 8 0]
 (.block 0 (.loop (SS [o 9 (.bin .lss (t 8) (t 7))]
 (QQ (.cond (t 9) .skip (.exit 0))
 (QQ (.block 1 (SS [vv 10 8,vv 5 10]
 (SS [vv 11 1,vv 12 0,vv 13 5,o 14 (.iAddrS 1 (t 12) (t 13)),ll 15 14,o 16 (.call false (t 11) [(t 15)])]
 (.cond (t 16) (SS [vv 17 5,vv 4 17]
 .ret) .skip))))
 (.ops [o 18 (.bin .add (t 8) (II 1)),vv 8 18])))))))
 (SS [o 4 (.mov (c (jI (-1))))]
 .ret)))⟩
def c106:Func :=
⟨2,19,[.tmp 4],
 (SS [KK 4 0]
 (QQ (SS [vv 6 0,o 7 (.lenSl (t 6)),KK 8 0]
 (.block 0 (.loop (SS [o 9 (.bin .lss (t 8) (t 7))]
 (QQ (.cond (t 9) .skip (.exit 0))
 (QQ (.block 1 (SS [vv 10 8,vv 5 10]
 (SS [vv 11 1,vv 12 0,vv 13 5,o 14 (.iAddrS 1 (t 12) (t 13)),ll 15 14,o 16 (.bin .eql (t 11) (t 15))]
 (.cond (t 16) (SS [vv 17 5,vv 4 17]
 .ret) .skip))))
 (.ops [o 18 (.bin .add (t 8) (II 1)),vv 8 18])))))))
 (SS [o 4 (.mov (c (jI (-1))))]
 .ret)))⟩
end Go.Proofs.AM
namespace Go.Proofs.AM
open Go Go.Lib Cd
theorem yikY {n:Int} (h:FI n):(decDigits n.natAbs).length<=19:=by
 have:=y6qY 18 n.natAbs (by have:(10:Nat) ^ 19=10000000000000000000:=by decide
                            unfold FI at h
                            omega)
 omega
theorem yilY (q:Int):(0<=q->q.tdiv 10=q / 10)/\(q<0->q.tdiv 10=-((-q) / 10)):=by
 refine ⟨fun h=>Int.tdiv_eq_ediv_of_nonneg h,fun h=>?_⟩
 have h1:(-q).tdiv 10=(-q) / 10:=Int.tdiv_eq_ediv_of_nonneg (by omega)
 rw [Int.neg_tdiv] at h1
 omega
theorem yimY (q:Int):(0<=q->q.tmod 10=q % 10)/\(q<0->q.tmod 10=-((-q) % 10)):=by
 refine ⟨fun h=>Int.tmod_eq_emod_of_nonneg h,fun h=>?_⟩
 have h1:(-q).tmod 10=(-q) % 10:=Int.tmod_eq_emod_of_nonneg (by omega)
 rw [Int.neg_tmod] at h1
 omega
theorem yinY (R:Ans) (n0:Int) (hn0:FI n0):AnsF R c212 [jI n0] (mkS (itoa n0)):=by
 obtain ⟨r,hr⟩:∃ r,r=itoa n0:=⟨_,rfl⟩
 rw [←hr]
 have hd:=yikY hn0
 unfold FI at hn0
 refine y0Y ⟨rfl,by decide⟩ fun O hO V hV=>?_
 conv=>cbv
 refine y6Y (fun c d=>∃ (q:Int) (acc:Str),d=⟨[(0,jI n0),(3,mkS acc),(4,jI q)],[],false⟩/\(-9223372036854775808<=q/\q<=9223372036854775807)/\c=q.natAbs+1/\decDigits n0.natAbs=decDigits q.natAbs++acc) ⟨_,_,⟨_,[],rfl,hn0,rfl,by simp⟩,⟨⟨rfl,rfl,rfl,trivial⟩,trivial,rfl⟩⟩ ?_
 rintro J up c d ⟨q,acc,rfl,hq,rfl,hacc⟩
 have key:∀ (e:Int),e=((q.natAbs % 10:Nat):Int)->(∃ l:Str,strOf [.int .u8 (O .wrap .u8 (O .iop .add .i64 48 e))]=some l/\l=[UInt8.ofNat (48+q.natAbs % 10)]):=by
  intro e he
  rw [y2Y hO (by omega) (by omega),ycxY hO,yczY (by omega) (by omega)]
  refine ⟨_,?_,rfl⟩
  unfold strOf
  rw [if_pos (by omega)]
  simp only [strOf,Option.map_some]
  rw [show (48+e).toNat=48+q.natAbs % 10 by omega]
 have hsl:acc.length<=19:=by have:=congrArg List.length hacc;simp at this;omega
 have hcat:O .cat ⟨[UInt8.ofNat (48+q.natAbs % 10)].toArray⟩ ⟨⟨acc⟩⟩=⟨⟨UInt8.ofNat (48+q.natAbs % 10)::acc⟩⟩:=o_cat hO [_] acc
 have hlen1:O .slen ⟨[UInt8.ofNat (48+q.natAbs % 10)].toArray⟩=1:=y1bY hO [_]
 have hlen2:O .slen ⟨⟨acc⟩⟩=acc.length:=y1bY hO acc
 obtain ⟨td1,td2⟩:=yilY q
 obtain ⟨tm1,tm2⟩:=yimY q
 have hrem:O .iop .rem .i64 q 10=q.tmod 10:=o_rem hO _ _ _ (by decide)
 have hquo:O .iop .quo .i64 q 10=q.tdiv 10:=by
  rw [o_quo hO _ _ _ (by decide),y43Y (by omega) (by omega)]
 have hneg:O .neg .neg .i64 (q.tmod 10)=- q.tmod 10:=by rw [o_neg hO,y43Y (by omega) (by omega)];omega
 have fin0:q.tdiv 10=0->UInt8.ofNat (48+q.natAbs % 10)::acc=decDigits n0.natAbs:=by
  intro h
  rw [hacc,y4tY (by omega)]
  rw [show q.natAbs % 10=q.natAbs by omega]
  rfl
 have fin1:q.tdiv 10≠0->decDigits n0.natAbs=decDigits (q.tdiv 10).natAbs++(UInt8.ofNat (48+q.natAbs % 10)::acc):=by
  intro h
  rw [hacc,y5vY (u:=q.natAbs) (by omega)]
  rw [show (q.tdiv 10).natAbs=q.natAbs / 10 by omega]
  simp
 obtain ⟨ds,hds⟩:∃ ds:Str,ds=[UInt8.ofNat (48+q.natAbs % 10)]:=⟨_,rfl⟩
 obtain ⟨acc',hacc'⟩:∃ acc':Str,acc'=UInt8.ofNat (48+q.natAbs % 10)::acc:=⟨_,rfl⟩
 rw [←hacc'] at fin0 fin1 hcat
 have hl':acc'.length<=20:=by rw [hacc'];simp;omega
 rw [←hds] at hcat hlen1
 conv=>cbv
 rw [hrem]
 have rest:∀ e:Int,e=((q.natAbs % 10:Nat):Int)->∃ l:Str,strOf [.int .u8 (O .wrap .u8 (O .iop .add .i64 48 e))]=some l/\l=ds:=by
  intro e he;obtain ⟨l,h1,h2⟩:=key e he;exact ⟨l,h1,by rw [h2,hds]⟩
 obtain ⟨e0,he0⟩:∃ e0:Int,e0=q.tmod 10:=⟨_,rfl⟩
 rw [←he0] at hneg ⊢
 conv=>cbv
 rintro (_|_) h1
 ·replace h1:=f_lss hO h1
  obtain ⟨l,hl1,rfl⟩:=rest e0 (by omega)
  conv=>cbv
  intro g
  conv=>cbv
  refine ⟨_,hl1,?_⟩
  conv=>cbv
  refine ⟨⟨by rw [hlen1,hlen2];omega⟩,?_⟩
  rw [hcat]
  conv=>cbv
  rw [hquo]
  obtain ⟨q',hq'⟩:∃ q':Int,q'=q.tdiv 10:=⟨_,rfl⟩
  rw [←hq'] at fin0 fin1 ⊢
  conv=>cbv
  rintro (_|_) h2
  ·replace h2:=f_eql hO h2
   conv=>cbv
   exact ⟨_,_,up _ _ ⟨q',acc',rfl,by omega,rfl,fin1 h2⟩,⟨⟨rfl,rfl,rfl,trivial⟩,trivial,rfl⟩,by omega⟩
  ·replace h2:=t_eql hO h2
   have hf:=fin0 h2
   conv=>cbv
   rintro (_|_) h3
   ·replace h3:=f_lss hO h3
    conv=>cbv
    rw [hr,hf,y4vY h3]
   ·replace h3:=t_lss hO h3
    have hc2:O .cat ⟨#[45]⟩ ⟨⟨acc'⟩⟩=⟨⟨45::acc'⟩⟩:=o_cat hO [45] acc'
    have hl3:O .slen ⟨#[45]⟩=1:=y1bY hO [45]
    have hl4:O .slen ⟨⟨acc'⟩⟩=acc'.length:=y1bY hO acc'
    conv=>cbv
    refine ⟨⟨by rw [hl3,hl4];omega⟩,?_⟩
    rw [hc2]
    conv=>cbv
    rw [hr,hf,y4uY h3]
 ·replace h1:=t_lss hO h1
  conv=>cbv
  rw [hneg]
  obtain ⟨e1,he1⟩:∃ e1:Int,e1=-e0:=⟨_,rfl⟩
  rw [←he1]
  obtain ⟨l,hl1,rfl⟩:=rest e1 (by omega)
  conv=>cbv
  intro g
  conv=>cbv
  refine ⟨_,hl1,?_⟩
  conv=>cbv
  refine ⟨⟨by rw [hlen1,hlen2];omega⟩,?_⟩
  rw [hcat]
  conv=>cbv
  rw [hquo]
  obtain ⟨q',hq'⟩:∃ q':Int,q'=q.tdiv 10:=⟨_,rfl⟩
  rw [←hq'] at fin0 fin1 ⊢
  conv=>cbv
  rintro (_|_) h2
  ·replace h2:=f_eql hO h2
   conv=>cbv
   exact ⟨_,_,up _ _ ⟨q',acc',rfl,by omega,rfl,fin1 h2⟩,⟨⟨rfl,rfl,rfl,trivial⟩,trivial,rfl⟩,by omega⟩
  ·replace h2:=t_eql hO h2
   have hf:=fin0 h2
   conv=>cbv
   rintro (_|_) h3
   ·replace h3:=f_lss hO h3
    conv=>cbv
    rw [hr,hf,y4vY h3]
   ·replace h3:=t_lss hO h3
    have hc2:O .cat ⟨#[45]⟩ ⟨⟨acc'⟩⟩=⟨⟨45::acc'⟩⟩:=o_cat hO [45] acc'
    have hl3:O .slen ⟨#[45]⟩=1:=y1bY hO [45]
    have hl4:O .slen ⟨⟨acc'⟩⟩=acc'.length:=y1bY hO acc'
    conv=>cbv
    refine ⟨⟨by rw [hl3,hl4];omega⟩,?_⟩
    rw [hc2]
    conv=>cbv
    rw [hr,hf,y4uY h3]
def NumR (s:Str) (v:Int) (b:Bool):Prop:=(b=true/\numS s=some v)∨(b=false/\v=0/\numS s=none)
theorem yioY {s:Str} (h:11<s.length):numS s=none:=by
 cases hn:numS s with
 | none=>rfl
 | some n=>have:=y8pY hn;omega
theorem NumR.ex (s:Str):∃ v b,NumR s v b:=by
 cases h:numS s with
 | none=>exact ⟨0,false,.inr ⟨rfl,rfl,h⟩⟩
 | some n=>exact ⟨n,true,.inl ⟨rfl,h⟩⟩
theorem NumR.of {s:Str} {v n:Int} {b:Bool} (h:NumR s v b) (hn:numS s=some n):b=true/\v=n:=by
 rcases h with ⟨h1,h2⟩|⟨_,_,h2⟩
 ·rw [h2] at hn;simp only [Option.some.injEq] at hn;exact ⟨h1,hn⟩
 ·rw [h2] at hn;simp at hn
theorem NumR.none {s:Str} {v:Int} {b:Bool} (h:NumR s v b) (hn:numS s=none):b=false/\v=0:=by
 rcases h with ⟨_,h2⟩|⟨h1,h2,_⟩
 ·rw [h2] at hn;simp at hn
 ·exact ⟨h1,h2⟩
theorem yipY:∀ (l:Str),l.foldl digv 0<10 ^ l.length:=by
 have key:∀ (l:Str) (a:Nat),l.foldl digv a<(a+1)*10 ^ l.length:=by
  intro l
  induction l with
  | nil=>intro a;simp
  | cons c r ih =>
    intro a
    rw [List.foldl_cons,List.length_cons]
    refine Nat.lt_of_lt_of_le (ih (digv a c)) ?_
    rw [Nat.pow_succ,Nat.mul_comm (10 ^ r.length) 10,←Nat.mul_assoc]
    refine Nat.mul_le_mul_right _ ?_
    unfold digv
    split<;>omega
 intro l
 have:=key l 0
 simpa using this
theorem yiqY (R:Ans) (h37:∀ n,FI n->R.v 212 [jI n] (mkS (itoa n))) (s:Str) (hs:SL s) (v:Int) (b:Bool) (hvb:NumR s v b):AnsF R c173 [mkS s] (.tup [jI v,.bool b]):=by
 unfold SL at hs
 refine y0Y ⟨rfl,by decide⟩ fun O hO V hV=>?_
 subst hV
 conv=>cbv
 rintro (_|_) h1
 ·replace h1:=f_gtr hO h1
  rw [y1bY hO] at h1
  have h11:s.length<=11:=by omega
  conv=>cbv
  refine y6Y (fun c d=>∃ (i a:Int) (k:Nat),d=⟨[(0,mkS s),(4,jI a),(5,jI i)],[],false⟩/\i=k/\k<=s.length/\c=s.length-k/\a=((s.take k).foldl digv 0:Nat)) ⟨_,_,⟨_,_,0,rfl,rfl,by omega,rfl,by simp⟩,⟨⟨rfl,rfl,rfl,trivial⟩,trivial,rfl⟩⟩ ?_
  rintro J up c d ⟨i,a,k,rfl,hi,hk,rfl,ha⟩
  have hbound:(s.take k).foldl digv 0<100000000000:=by
   have h2:=yipY (s.take k)
   have h3:(10:Nat) ^ (s.take k).length<=10 ^ 11:=Nat.pow_le_pow_right (by decide) (by simp;omega)
   have:(10:Nat) ^ 11=100000000000:=by decide
   omega
  conv=>cbv
  rintro (_|_) h2
  ·replace h2:=f_lss hO h2
   rw [y1bY hO] at h2
   have hk2:s.take k=s:=List.take_of_length_le (by omega)
   rw [hk2] at ha hbound
   have fin:∀ n:Int,n=valS s->(∀ g:Int,g=n->FI g)/\(itoa n≠s->NumR s 0 false)/\(n<least->NumR s 0 false)/\(most<n->NumR s 0 false)/\(itoa n=s->least<=n->n<=most->NumR s n true):=by
    intro n hn
    subst hn
    have hb:-100000000000<valS s/\valS s<100000000000:=by unfold valS dig;split<;>omega
    refine ⟨fun g hg=>by unfold FI;omega,fun h=>.inr ⟨rfl,rfl,?_⟩,fun h=>.inr ⟨rfl,rfl,?_⟩,fun h=>.inr ⟨rfl,rfl,?_⟩,fun h3 h4 h5=>.inl ⟨rfl,?_⟩⟩
    ·unfold numS;rw [if_neg (fun hc=>h hc.1)]
    ·unfold numS;rw [if_neg (fun hc=>by omega)]
    ·unfold numS;rw [if_neg (fun hc=>by omega)]
    ·unfold numS;rw [if_pos ⟨h3,h4,h5⟩]
   have same:∀ v' b',NumR s v' b'->v=v'/\b=b':=by
    intro v' b' h
    rcases h with ⟨h4,h5⟩|⟨h4,h5,h6⟩
    ·obtain ⟨h7,h8⟩:=hvb.of h5;exact ⟨h8,by rw [h7,h4]⟩
    ·obtain ⟨h7,h8⟩:=hvb.none h6;exact ⟨by rw [h8,h5],by rw [h7,h4]⟩
   conv=>cbv
   have br:∀ x:Int,x=valS s->∃ z:Str,V.v 212 [jI x] (.str ⟨⟨z⟩⟩)/\z=itoa x:=fun x hx=>⟨_,h37 x ((fin x hx).1 x rfl),rfl⟩
   rintro (_|_) h3
   ·replace h3:=f_gtr hO h3
    rw [y1bY hO] at h3
    conv=>cbv
    have hs0:s=[]:=List.length_eq_zero_iff.1 (by omega)
    obtain ⟨n,hn⟩:∃ n:Int,n=a:=⟨_,rfl⟩
    have hnv:n=valS s:=by rw [hn,ha,hs0];rfl
    rw [←hn]
    clear hn
    obtain ⟨z,hz,hzi⟩:=br n hnv
    obtain ⟨_,f1,f2,f3,f4⟩:=fin n hnv
    refine ⟨_,hz,?_⟩
    conv=>cbv
    rintro (_|_) h5
    ·replace h5:z=s:=y4sY hO h5
     conv=>cbv
     rintro (_|_) h6
     ·replace h6:=f_lss hO h6
      conv=>cbv
      rintro (_|_) h7
      ·replace h7:=f_gtr hO h7
       conv=>cbv
       obtain ⟨e1,e2⟩:=same _ _ (f4 (by rw [←hzi];exact h5) (by unfold least;omega) (by unfold most;omega))
       rw [e1,e2]
      ·replace h7:=t_gtr hO h7
       conv=>cbv
       obtain ⟨e1,e2⟩:=same _ _ (f3 (by unfold most;omega))
       rw [e1,e2]
     ·replace h6:=t_lss hO h6
      conv=>cbv
      obtain ⟨e1,e2⟩:=same _ _ (f2 (by unfold least;omega))
      rw [e1,e2]
    ·replace h5:z≠s:=y4rY hO h5
     conv=>cbv
     obtain ⟨e1,e2⟩:=same _ _ (f1 (by rw [←hzi];exact h5))
     rw [e1,e2]
   ·replace h3:=t_gtr hO h3
    rw [y1bY hO] at h3
    conv=>cbv
    obtain ⟨c0,hc0⟩:∃ c,s[0]?=some c:=⟨_,List.getElem?_eq_getElem (by omega)⟩
    obtain ⟨u,hu⟩:∃ u:Int,u=O .u8 c0:=⟨_,rfl⟩
    have hu2:=hu
    rw [o_u8 hO] at hu2
    refine ⟨c0,⟨by decide⟩,hc0,?_⟩
    rw [←hu]
    conv=>cbv
    rintro (_|_) h4
    ·replace h4:=f_eql hO h4
     conv=>cbv
     obtain ⟨n,hn⟩:∃ n:Int,n=a:=⟨_,rfl⟩
     have hnv:n=valS s:=by
      unfold valS
      rw [hc0,if_neg (fun e=>by simp only [Option.some.injEq] at e;subst e;exact h4 hu2),hn,ha]
      rfl
     rw [←hn]
     clear hn
     obtain ⟨z,hz,hzi⟩:=br n hnv
     obtain ⟨_,f1,f2,f3,f4⟩:=fin n hnv
     refine ⟨_,hz,?_⟩
     conv=>cbv
     rintro (_|_) h5
     ·replace h5:z=s:=y4sY hO h5
      conv=>cbv
      rintro (_|_) h6
      ·replace h6:=f_lss hO h6
       conv=>cbv
       rintro (_|_) h7
       ·replace h7:=f_gtr hO h7
        conv=>cbv
        obtain ⟨e1,e2⟩:=same _ _ (f4 (by rw [←hzi];exact h5) (by unfold least;omega) (by unfold most;omega))
        rw [e1,e2]
       ·replace h7:=t_gtr hO h7
        conv=>cbv
        obtain ⟨e1,e2⟩:=same _ _ (f3 (by unfold most;omega))
        rw [e1,e2]
      ·replace h6:=t_lss hO h6
       conv=>cbv
       obtain ⟨e1,e2⟩:=same _ _ (f2 (by unfold least;omega))
       rw [e1,e2]
     ·replace h5:z≠s:=y4rY hO h5
      conv=>cbv
      obtain ⟨e1,e2⟩:=same _ _ (f1 (by rw [←hzi];exact h5))
      rw [e1,e2]
    ·replace h4:=t_eql hO h4
     have hneg:O .neg .neg .i64 a=-a:=by rw [o_neg hO,y43Y (by omega) (by omega)];omega
     conv=>cbv
     rw [hneg]
     obtain ⟨n,hn⟩:∃ n:Int,n=-a:=⟨_,rfl⟩
     have hnv:n=valS s:=by
      unfold valS
      have:c0=45:=by
       apply UInt8.toNat_inj.1
       have:(45:UInt8).toNat=45:=by decide
       omega
      rw [hc0,if_pos (by rw [this]),hn,ha]
      rfl
     rw [←hn]
     clear hn
     obtain ⟨z,hz,hzi⟩:=br n hnv
     obtain ⟨_,f1,f2,f3,f4⟩:=fin n hnv
     refine ⟨_,hz,?_⟩
     conv=>cbv
     rintro (_|_) h5
     ·replace h5:z=s:=y4sY hO h5
      conv=>cbv
      rintro (_|_) h6
      ·replace h6:=f_lss hO h6
       conv=>cbv
       rintro (_|_) h7
       ·replace h7:=f_gtr hO h7
        conv=>cbv
        obtain ⟨e1,e2⟩:=same _ _ (f4 (by rw [←hzi];exact h5) (by unfold least;omega) (by unfold most;omega))
        rw [e1,e2]
       ·replace h7:=t_gtr hO h7
        conv=>cbv
        obtain ⟨e1,e2⟩:=same _ _ (f3 (by unfold most;omega))
        rw [e1,e2]
      ·replace h6:=t_lss hO h6
       conv=>cbv
       obtain ⟨e1,e2⟩:=same _ _ (f2 (by unfold least;omega))
       rw [e1,e2]
     ·replace h5:z≠s:=y4rY hO h5
      conv=>cbv
      obtain ⟨e1,e2⟩:=same _ _ (f1 (by rw [←hzi];exact h5))
      rw [e1,e2]
  ·replace h2:=t_lss hO h2
   rw [y1bY hO] at h2
   conv=>cbv
   obtain ⟨b',hb'⟩:∃ b',s[k]?=some b':=⟨_,List.getElem?_eq_getElem (by omega)⟩
   obtain ⟨u,hu⟩:∃ u:Int,u=O .u8 b':=⟨_,rfl⟩
   have hu2:=hu
   rw [o_u8 hO] at hu2
   have hstep:(s.take (k+1)).foldl digv 0=digv ((s.take k).foldl digv 0) b':=by
    rw [List.take_add_one,hb',List.foldl_append]
    rfl
   refine ⟨b',⟨by omega⟩,by rw [hi];exact hb',?_⟩
   rw [←hu]
   conv=>cbv
   rintro (_|_) h3
   ·replace h3:=f_geq hO h3
    conv=>cbv
    refine ⟨_,_,up _ _ ⟨_,_,k+1,rfl,?_,by omega,rfl,?_⟩,⟨⟨rfl,rfl,rfl,trivial⟩,trivial,rfl⟩,by omega⟩
    ·rw [y2Y hO (by omega) (by omega)];omega
    ·rw [ha,hstep];unfold digv;rw [if_neg (by omega)]
   ·replace h3:=t_geq hO h3
    conv=>cbv
    refine ⟨b',⟨by omega⟩,by rw [hi];exact hb',?_⟩
    rw [←hu]
    conv=>cbv
    rintro (_|_) h4
    ·replace h4:=f_leq hO h4
     conv=>cbv
     refine ⟨_,_,up _ _ ⟨_,_,k+1,rfl,?_,by omega,rfl,?_⟩,⟨⟨rfl,rfl,rfl,trivial⟩,trivial,rfl⟩,by omega⟩
     ·rw [y2Y hO (by omega) (by omega)];omega
     ·rw [ha,hstep];unfold digv;rw [if_neg (by omega)]
    ·replace h4:=t_leq hO h4
     conv=>cbv
     refine ⟨b',⟨by omega⟩,by rw [hi];exact hb',?_⟩
     rw [←hu]
     conv=>cbv
     refine ⟨_,_,up _ _ ⟨_,_,k+1,rfl,?_,by omega,rfl,?_⟩,⟨⟨rfl,rfl,rfl,trivial⟩,trivial,rfl⟩,by omega⟩
     ·rw [y2Y hO (by omega) (by omega)];omega
     ·rw [yi7Y hO (by omega) (by omega),o_sub hO,yczY (by omega) (by omega),ycxY hO,y43Y (by omega) (by omega),y2Y hO (by omega) (by omega),ha,hstep]
      unfold digv
      rw [if_pos (by omega)]
      omega
 ·replace h1:=t_gtr hO h1
  rw [y1bY hO] at h1
  conv=>cbv
  obtain ⟨h2,h3⟩:=hvb.none (yioY (by omega))
  rw [h2,h3]
def ydhY (V:Ans) (f:Nat):Prop:=∀ s:Str,SL s->∃ (v:Int) (e:D),V.v f [mkS s,jI 10,jI 64] (.tup [jI v,e])/\FI v/\((e=.nili/\Lib.parseIntB 64 s=.ok v)∨(e=.opq/\∀ n,Lib.parseIntB 64 s≠.ok n))
theorem yirY (R:Ans) (h35:ydhY R 257) (h36:∀ n,FI n->R.v 258 [jI n,jI 10] (mkS (itoa n))) (s:Str) (hs:SL s) (v:Int) (b:Bool) (hvb:NumR s v b):AnsF R c227 [mkS s] (.tup [jI v,.bool b]):=by
 obtain ⟨x,e,hx,hfi,hcase⟩:=h35 s hs
 have same:∀ v' b',NumR s v' b'->v=v'/\b=b':=by
  intro v' b' h
  rcases h with ⟨h4,h5⟩|⟨h4,h5,h6⟩
  ·obtain ⟨h7,h8⟩:=hvb.of h5;exact ⟨h8,by rw [h7,h4]⟩
  ·obtain ⟨h7,h8⟩:=hvb.none h6;exact ⟨by rw [h8,h5],by rw [h7,h4]⟩
 have none:(∀ n,NumP s n->False)->NumR s 0 false:=fun h=>.inr ⟨rfl,rfl,by
  cases hn:numS s with
  | none=>rfl
  | some n=>exact (h n (numS_iff.1 hn)).elim⟩
 refine y0Y ⟨rfl,by decide⟩ fun O hO V hV=>?_
 subst hV
 rcases hcase with ⟨rfl,hp⟩|⟨rfl,hp⟩
 ·have only:∀ n,NumP s n->n=x:=by
   rintro n ⟨rfl,h1,h2⟩
   rw [yd9Y h1 h2] at hp
   simpa using hp
  obtain ⟨z,hz,hzi⟩:∃ z:Str,V.v 258 [jI x,jI 10] (.str ⟨⟨z⟩⟩)/\z=itoa x:=⟨_,h36 x hfi,rfl⟩
  conv=>cbv
  refine ⟨_,hx,?_⟩
  conv=>cbv
  rintro (_|_) h1
  ·replace h1:=f_lss hO h1
   conv=>cbv
   rintro (_|_) h2
   ·replace h2:=f_gtr hO h2
    conv=>cbv
    refine ⟨_,hz,?_⟩
    conv=>cbv
    rintro (_|_) h3
    ·replace h3:z=s:=y4sY hO h3
     conv=>cbv
     obtain ⟨e1,e2⟩:=same x true (.inl ⟨rfl,numS_iff.2 ⟨by rw [←h3,hzi],by unfold least;omega,by unfold most;omega⟩⟩)
     rw [e1,e2]
    ·replace h3:z≠s:=y4rY hO h3
     conv=>cbv
     obtain ⟨e1,e2⟩:=same _ _ (none fun n hn=>h3 (by rw [hzi,←only n hn];exact hn.1.symm))
     rw [e1,e2]
   ·replace h2:=t_gtr hO h2
    conv=>cbv
    obtain ⟨e1,e2⟩:=same _ _ (none fun n hn=>by have:=only n hn;have:=hn.2.2;unfold most at this;omega)
    rw [e1,e2]
  ·replace h1:=t_lss hO h1
   conv=>cbv
   obtain ⟨e1,e2⟩:=same _ _ (none fun n hn=>by have:=only n hn;have:=hn.2.1;unfold least at this;omega)
   rw [e1,e2]
 ·obtain ⟨e1,e2⟩:=same _ _ (none fun n hn=>hp n (by obtain ⟨rfl,h1,h2⟩:=hn;exact yd9Y h1 h2))
  conv=>cbv
  refine ⟨_,hx,?_⟩
  conv=>cbv
  rw [e1,e2]
theorem ydiY (s:Str) {v:Int} {b:Bool} (h:NumR s v b):yoY s=(b||nameB s):=by
 rw [ydaY]
 rcases h with ⟨h1,h2⟩|⟨h1,_,h2⟩<;>rw [h1,h2]<;>simp
theorem yisY (R:Ans) (h16:∀ s,SL s->R.v 65 [mkS s] (.bool (nameB s))) (h15:∀ s,SL s->∀ v b,NumR s v b->R.v 173 [mkS s] (.tup [jI v,.bool b])) (s:Str) (hs:SL s):AnsF R c118 [mkS s] (.bool (yoY s)):=by
 obtain ⟨v,b,hvb⟩:=NumR.ex s
 have hv:=ydiY s hvb
 have k1:=h16 s hs
 have k2:=h15 s hs v b hvb
 obtain ⟨r,hr⟩:∃ r,r=yoY s:=⟨_,rfl⟩
 obtain ⟨q,hq⟩:∃ q,q=nameB s:=⟨_,rfl⟩
 rw [←hr,←hq] at hv
 rw [←hq] at k1
 rw [←hr]
 clear hr hq hvb
 refine y0Y ⟨rfl,by decide⟩ fun O hO V hV=>?_
 subst hV
 conv=>cbv
 refine ⟨_,k1,?_⟩
 conv=>cbv
 refine ⟨_,k2,?_⟩
 subst hv
 cases q<;>cases b<;>(conv=>cbv)<;>trivial
theorem yitY (R:Ans) (h18:∀ s,SL s->R.v 184 [mkS s] (.bool (nameB s))) (h13:∀ s,SL s->∀ v b,NumR s v b->R.v 227 [mkS s] (.tup [jI v,.bool b])) (s:Str) (hs:SL s):AnsF R c187 [mkS s] (.bool (yoY s)):=by
 obtain ⟨v,b,hvb⟩:=NumR.ex s
 have hv:=ydiY s hvb
 have k1:=h18 s hs
 have k2:=h13 s hs v b hvb
 obtain ⟨r,hr⟩:∃ r,r=yoY s:=⟨_,rfl⟩
 obtain ⟨q,hq⟩:∃ q,q=nameB s:=⟨_,rfl⟩
 rw [←hr,←hq] at hv
 rw [←hq] at k1
 rw [←hr]
 clear hr hq hvb
 refine y0Y ⟨rfl,by decide⟩ fun O hO V hV=>?_
 subst hV
 conv=>cbv
 refine ⟨_,k2,?_⟩
 subst hv
 cases b
 ·conv=>cbv
  refine ⟨_,k1,?_⟩
  conv=>cbv
  trivial
 ·conv=>cbv
  trivial
end Go.Proofs.AM
namespace Go.Proofs.AM
open Go Go.Lib Go.RowKit Go.Maps Go.Sort Go.Shelf
structure Gd (P:Program) (w:World):Prop where
 syn : ∃ tp p, w.var? P "strconv.ErrSyntax" = some #[.iface tp p]
 rng : ∃ tp p, w.var? P "strconv.ErrRange" = some #[.iface tp p]
 tab : Lib.TabIs P w "internal/strconv.uint64pow10" .u64 Lib.pow10Tab
theorem y90Y {P:Program} {w w':World} {n:String} {cs:Array Value} (h:w.var? P n=some cs) (hb:Below w.heap.size w w'):w'.var? P n=some cs:=by
 unfold World.var? at h ⊢
 rw [Option.bind_eq_some_iff] at h ⊢
 obtain ⟨g,h1,h2⟩:=h
 refine ⟨g,h1,?_⟩
 cases hg:w.heap[g]? with
 | none=>rw [hg] at h2;simp at h2
 | some o =>
   have hlt:g<w.heap.size:=(Array.getElem?_eq_some_iff.mp hg).1
   rw [hb.block g hlt]
   exact h2
theorem Gd.grows (P:Program):Grows (Gd P):=by
 intro w w' h hb
 obtain ⟨⟨t1,p1,h1⟩,⟨t2,p2,h2⟩,h3⟩:=h
 exact ⟨⟨t1,p1,y90Y h1 hb⟩,⟨t2,p2,y90Y h2 hb⟩,y90Y h3 hb⟩
theorem yiuY (w:World) (k:Nat) (os:Array Obj):RowKit.Below w.heap.size w (Go.Sort.grow (w.drewN k) os) where
 os:=rfl
 tape:=rfl
 output:=rfl
 size:=by simp [Go.Sort.grow,World.drewN]
 block:=fun j hj=>by
  show (w.heap++os)[j]?=w.heap[j]?
  rw [Array.getElem?_append_left hj]
theorem fmt36 (n:Int) (hn:FI n):(PR Tryz.prog (Gd Tryz.prog)).v 258 [.int .i64 n,.int .i64 10] (mkS (itoa n)):=by
 refine ⟨enters_of Tryz.func258 (by kernel_rfl) rfl,rfl,fun w S vs hG hv=>?_⟩
 simp only [RVs,RV] at hv
 obtain ⟨_,_,e1,rfl,_,_,rfl,rfl,rfl⟩:=hv
 obtain rfl:vs=#[.int .i64 n,.int .i64 10]:=by apply Array.toList_inj.1;rw [e1]
 refine (Any.strconv_FormatInt_10 Tryz.laysM173 n hn.1 hn.2 w hG.tab).mono ?_
 rintro e w' ⟨rfl,k,os,rfl⟩
 exact ⟨_,rfl,yiuY w k os,rfl⟩
theorem yivY:ydhY (PR Tryz.prog (Gd Tryz.prog)) 257:=by
 intro s hs
 unfold SL at hs
 have hen:y1Y Tryz.prog 257:=enters_of Tryz.func257 (by kernel_rfl) rfl
 have hsz:(⟨⟨s⟩⟩:ByteArray).size=s.length:=rfl
 have args:∀ {c:Cx} {vs:Array Value},RVs c [mkS s,.int .i64 10,.int .i64 64] vs.toList->vs=#[.string ⟨⟨s⟩⟩,.int .i64 10,.int .i64 64]:=by
  intro c vs hv
  simp only [RVs,RV,mkS] at hv
  obtain ⟨_,_,e1,rfl,_,_,rfl,rfl,_,_,rfl,rfl,rfl⟩:=hv
  apply Array.toList_inj.1
  rw [e1]
 rcases hp:parseIntB 64 s with v|_|_
 ·have hb:=parseIntB_bounds hp
  have e63:((2 ^ (64-1):Nat):Int)=9223372036854775808:=by decide
  rw [e63] at hb
  refine ⟨v,.nili,⟨hen,rfl,fun w S vs hG hv=>?_⟩,⟨by omega,by omega⟩,.inl ⟨rfl,rfl⟩⟩
  obtain rfl:=args hv
  refine (Any.strconv_ParseInt_10_at64_ok Tryz.laysC174 ⟨⟨s⟩⟩ (by rw [hsz];omega) v hp w).mono ?_
  rintro e w' ⟨rfl,hw⟩
  refine ⟨_,rfl,?_,by simp [RV,RVs]⟩
  rcases hw with rfl|⟨t,rfl⟩
  ·exact Below.refl _ _
  ·exact bytesWorld_below w _ t
 ·refine ⟨0,.opq,⟨hen,rfl,fun w S vs hG hv=>?_⟩,⟨by omega,by omega⟩,.inr ⟨rfl,fun n hn=>by simp at hn⟩⟩
  obtain rfl:=args hv
  obtain ⟨tp,p,hvar⟩:=hG.syn
  refine (Any.strconv_ParseInt_10_at64_syntax_var Tryz.laysC174 ⟨⟨s⟩⟩ (by rw [hsz];omega) hp tp p w hvar).mono ?_
  rintro e w' ⟨N,rfl,_,_,hb⟩
  exact ⟨_,rfl,hb,by simp only [RV,RVs];exact ⟨_,rfl,_,_,rfl,rfl,_,_,rfl,⟨_,_,rfl⟩,rfl⟩⟩
 ·have hsat:FI (intSat 64 s):=by
   have e63:((2 ^ (64-1):Nat):Int)=9223372036854775808:=by decide
   cases s with
   | nil=>simp [parseIntB] at hp
   | cons c r =>
     by_cases h45:c=45
     ·subst h45;rw [intSat_minus,e63];exact ⟨by omega,by omega⟩
     ·rw [intSat_other _ _ _ (fun e=>h45 (by apply UInt8.toNat_inj.1;rw [e];rfl))]
      have:((2 ^ (64-1)-1:Nat):Int)=9223372036854775807:=by decide
      rw [this]
      exact ⟨by omega,by omega⟩
  refine ⟨intSat 64 s,.opq,⟨hen,rfl,fun w S vs hG hv=>?_⟩,hsat,.inr ⟨rfl,fun n hn=>by simp at hn⟩⟩
  obtain rfl:=args hv
  obtain ⟨tp,p,hvar⟩:=hG.rng
  refine (Any.strconv_ParseInt_10_at64_range_var Tryz.laysC174 ⟨⟨s⟩⟩ (by rw [hsz];omega) hp tp p w hvar).mono ?_
  rintro e w' ⟨N,rfl,_,_,hb⟩
  exact ⟨_,rfl,hb,by simp only [RV,RVs];exact ⟨_,rfl,_,_,rfl,rfl,_,_,rfl,⟨_,_,rfl⟩,rfl⟩⟩
theorem ydjY {H:Type} (x:Lit × DataW H):∀ l:List (Lit × DataW H),(DataW.insert x l).Perm (x::l)
 | []=>List.Perm.refl _
 | y::r=>by
   unfold DataW.insert
   split
   ·exact List.Perm.refl _
   ·exact ((ydjY x r).cons y).trans (List.Perm.swap x y r)
theorem y91Y {H:Type}:∀ l:List (Lit × DataW H),(l.foldr DataW.insert []).Perm l
 | []=>List.Perm.refl _
 | x::r=>(ydjY x _).trans ((y91Y r).cons x)
theorem yiwY {ss K:List Str} (h:ss.Perm K) (hK:K.Nodup):ss.mergeSort (fun x y=>decide (x<=y))=ylY K:=by
 have hp:=List.mergeSort_perm ss fun x y=>decide (x<=y)
 have hs:=List.pairwise_mergeSort (le:=fun x y:Str=>decide (x<=y)) (fun a b c h1 h2=>by
  simp only [decide_eq_true_eq] at h1 h2 ⊢
  exact List.le_trans h1 h2) (fun a b=>by
  simp only [Bool.or_eq_true,decide_eq_true_eq]
  exact List.le_total a b) ss
 have hn:(ss.mergeSort fun x y=>decide (x<=y)).Nodup:=(hp.trans h).nodup_iff.2 hK
 refine y8uY ?_ (y6uY K) fun z=>by rw [(hp.trans h).mem_iff,y5wY]
 unfold Rises
 refine (hs.and hn).imp fun {a b} hab=>?_
 obtain ⟨h1,h2⟩:=hab
 simp only [decide_eq_true_eq] at h1
 rcases y8sY a b with k|k|k
 ·exact k
 ·exact absurd k h2
 ·exact absurd h1 (List.not_le.2 k)
def y4yY:Value->Option (DataW Unit × List MemPlace):=fun _=>some (.nil,[])
theorem yixY {b:Nat} {K:List Str} (hKs:∀ s∈K,SL s) (hKl:K.length<=8796093022208) {w:World} {mes:Array MapEntry} {clk:Nat} (hb:w.heap[b]?=some (.map mes clk)) (hst:Stp mes clk)
 (hes:mes.toList.map (·.key)=K.map fun s=>.string ⟨⟨s⟩⟩):∃ D0:DataW Unit,w.ownsMap Tryz.prog 9 y4yY b mes.size D0/\Maps.size D0=K.length/\(strKeys D0).Perm K:=by
 have hlen:mes.size=K.length:=by have:=congrArg List.length hes;simpa using this
 have hrd:∀ x∈mes.toList,∃ s∈K,x.key=.string ⟨⟨s⟩⟩:=fun x hx=>by
  have:x.key∈mes.toList.map (·.key):=List.mem_map.2 ⟨x,hx,rfl⟩
  rw [hes] at this
  obtain ⟨s,h1,h2⟩:=List.mem_map.1 this
  exact ⟨s,h1,h2.symm⟩
 have hko:∀ s,SL s->keyOf Tryz.prog 9 (.string ⟨⟨s⟩⟩)=some (.string s):=fun s hs=>Go.WideMaps.keyOf_string_mk (s:=⟨⟨s⟩⟩) Tryz.underlying9 (by
  have hsz:(⟨⟨s⟩⟩:ByteArray).size=s.length:=rfl
  unfold SL at hs
  have:maxLen=9223372036854775807:=by decide
  omega)
 have hrg:mes.toList.map (fun x=>Go.strOf (Go.WideElems.rg Tryz.prog 9 y4yY x).1)=K:=by
  have:∀ (l:List MapEntry) (K:List Str),(∀ s∈K,SL s)->l.map (·.key)=K.map (fun s=>Value.string ⟨⟨s⟩⟩)->l.map (fun x=>Go.strOf (Go.WideElems.rg Tryz.prog 9 y4yY x).1)=K:=by
   intro l
   induction l with
   | nil=>intro K _ h;cases K with
     | nil=>rfl
     | cons _ _=>simp at h
   | cons x l ih =>
     intro K hK h
     cases K with
     | nil=>simp at h
     | cons s K =>
       simp only [List.map_cons,List.cons.injEq] at h ⊢
       refine ⟨?_,ih K (fun s hs=>hK s (by simp [hs])) h.2⟩
       unfold Go.WideElems.rg Go.WideElems.rd y4yY
       rw [h.1,hko s (hK s (by simp))]
       rfl
  exact this _ _ hKs hes
 refine ⟨_,⟨mes,clk,hb,⟨by
  have:maxLen=9223372036854775807:=by decide
  omega,hst,fun x hx=>?_⟩,Nat.le_refl _,rfl⟩,?_,?_⟩
 ·obtain ⟨s,hs,hk⟩:=hrd x hx
  exact ⟨(.string s,.nil),by unfold Go.WideElems.rd y4yY;rw [hk,hko s (hKs s hs)];rfl⟩
 ·rw [Maps.size_eq,(y91Y _).length_eq]
  simpa using hlen
 ·show (List.map _ _).Perm K
  refine ((y91Y _).map _).trans ?_
  rw [List.map_map]
  generalize Go.WideElems.rg Tryz.prog 9 (y4yY)=F at hrg ⊢
  exact List.Perm.of_eq hrg
theorem yiyY (m:Nat):AnyZ.SortsIn Tryz.prog Tryz.sortedL_ren Fence.wide m :=
 ⟨fun blk off cap ss W hH hblk hsz=>callsIn_wide.2 (AnyM.slices_Sort_string Tryz.sortL blk off cap ss W hH hblk hsz),fun p cap W=>callsIn_wide.2 (AnyM.slices_Sort_string_none Tryz.sortL p cap W)⟩
theorem yizY (mb:Option Nat) (W:World):CallsIn Fence.wide 5 Tryz.prog 267 #[.map mb] W fun e w'=>e=.returned (.func (.func 281) #[] #[.pointer (some ⟨W.heap.size,0,none⟩)])/\w'=W.alloc (.cells #[.map mb] 93) :=
 AnyZ.keys_in Tryz.keysL Fence.wide 5 trivial rfl mb W
theorem yj0Y {H:Type} (b nn:Nat) (D0:DataW H) (R:Value->Option (DataW H × List MemPlace)) (w:World) (hown:w.ownsMap Tryz.prog 9 R b nn D0) (hmax:Maps.size D0<=maxLen) (hbytes:Maps.size D0*16<=140737488355328) :
 CallsIn Fence.wide 5 Tryz.prog 266 #[.func (.func 281) #[] #[.pointer (some ⟨w.heap.size,0,none⟩)]] (w.alloc (.cells #[.map (some b)] 93)) fun e w'=>∃ (v:Value) (ss:List (List UInt8)),e=.returned v/\ss.Perm (strKeys D0) /\
  w'.ownsRow (w.alloc (.cells #[.map (some b)] 93)).heap.size 9 1 v ss.length ((ss.mergeSort (fun x y=>decide (x<=y))).map encStr)/\(v=.slice none 0 0↔ss=[])/\RowKit.Below (w.alloc (.cells #[.map (some b)] 93)).heap.size (w.alloc (.cells #[.map (some b)] 93)) w':=by
 have hbl:=hown.lt
 have hseq:SeqGives Fence.wide 2 Tryz.prog 281 #[.pointer (some ⟨w.heap.size,0,none⟩)] encStr (fun ss=>ss.Perm (strKeys D0)) (Maps.size D0) (w.alloc (.cells #[.map (some b)] 93)) :=
  AnyZ.keys_gives (ρ:=Tryz.keysL_ren) { Tryz.keysL with } Fence.wide _ trivial rfl (by omega) w.heap.size b nn D0 _ (by simp) (by simp) (by
   obtain ⟨es,clock,hb,Ft,hs,hD⟩:=hown
   exact ⟨es,clock,(Below.heap_alloc _ _ b hbl).trans hb,Ft,hs,hD⟩)
 exact AnyZ.sorted_in Tryz.sortedL Fence.wide 5 trivial trivial trivial trivial rfl (by omega) (yiyY _) (enters_of Tryz.func280 (by kernel_rfl) rfl) 281 #[.pointer (some ⟨w.heap.size,0,none⟩)] trivial (enters_of Tryz.func281 (by kernel_rfl) rfl) _ _ hmax hbytes _ hseq
theorem yj1Y (b:Nat) (K:List Str) (hK:K.Nodup) (hKs:∀ s∈K,SL s) (hKl:K.length<=8796093022208) (w:World) (mes:Array MapEntry) (clk:Nat) (hb:w.heap[b]?=some (.map mes clk)) (hst:Stp mes clk)
 (hes:mes.toList.map (·.key)=K.map fun s=>.string ⟨⟨s⟩⟩) :
 Calls Tryz.prog 254 #[.map (some b)] w fun e w'=>∃ v:Value,e=.returned v/\w'.ownsRow w.heap.size 9 1 v K.length ((ylY K).map encStr)/\Below w.heap.size w w':=by
 obtain ⟨D0,hown,hsz,hperm⟩:=yixY hKs hKl hb hst hes
 have hmax:Maps.size D0<=maxLen:=by
  have:maxLen=9223372036854775807:=by decide
  omega
 have hbytes:Maps.size D0*16<=140737488355328:=by omega
 refine (callsIn_wide (n:=6)).1 ?_
 have hfK:Fence.wide.fn 267:=trivial
 have hfS:Fence.wide.fn 266:=trivial
 refine callsIn_of_wp Tryz.func254 rfl trivial ?_ rfl
 simp only [Tryz.ntmps254,List.size_toArray,List.length_cons,List.length_nil,Nat.reduceAdd,Nat.reduceSub,Array.replicate_succ,Array.replicate_zero,List.push_toArray,List.append_toArray,List.nil_append,List.cons_append]
 gi_wp2_with (first
  | (gi_at_call 267;refine (yizY _ _).mono ?_;rintro e w' ⟨rfl,rfl⟩)
  | (gi_at_call 266;refine (yj0Y b _ D0 _ w hown hmax hbytes).mono ?_;rintro e w' ⟨v,ss,rfl,hS,hrow,hnil,hb⟩))
 go_ret
 have hp:=hS.trans hperm
 have e1:=yiwY hp hK
 have hrow':=ownsRow_base_a (base':=w.heap.size) hrow (by simp)
 rw [e1,hp.length_eq] at hrow'
 exact ⟨v,rfl,hrow',((Below.refl _ w).alloc (Nat.le_refl _) _).trans (hb.mono (by simp))⟩
theorem yj2Y {w:World} {S:Nat->Prop} {base:Nat} {v:Value} {l:List Str} {n:Nat} (h:w.ownsRow base 9 1 v n (l.map encStr)) (hS:∀ b,base<=b->S b):RV ⟨w,S,bx0,noLoc⟩ (.sl 1 false (l.map mkS)) v:=by
 obtain ⟨hlen,h⟩:=h
 have hn:n=l.length:=by simpa using hlen.symm
 subst hn
 simp only [RV,List.length_map]
 rcases h with ⟨rfl,h0⟩|⟨g,cap,cur,rfl,hg,hgb,h1,h2,h3,h4⟩
 ·have:l=[]:=List.eq_nil_of_length_eq_zero h0
  subst this
  exact ⟨none,0,rfl,Nat.le_refl _,by simp,by simp,trivial⟩
 ·refine ⟨some ⟨g,0,none⟩,cap,rfl,h1,by simp,by simp,?_⟩
  have hlt:g<w.heap.size:=(Array.getElem?_eq_some_iff.mp hgb).1
  have key:∀ (r:List Str) (i:Nat),(∀ (j:Nat) s,r[j]?=some s->l[i+j]?=some s)->RSl ⟨w,S,bx0,noLoc⟩ 1 (some ⟨g,0,none⟩) i (r.map mkS):=by
   intro r
   induction r with
   | nil=>intro i _;trivial
   | cons s r ih =>
     intro i hr
     simp only [List.map_cons,RSl]
     refine ⟨⟨⟨g,0,none⟩,.string ⟨⟨s⟩⟩,rfl,hS g hg,hlt,rfl,rfl,by simp [Value.cells,Value.oneCell'],fun j hj=>?_⟩,ih (i+1) fun j s hj=>by have:=hr (j+1) s (by simpa using hj);rw [←this];congr 1;omega⟩
     have hj0:j=0:=by omega
     subst hj0
     have hs:=hr 0 s rfl
     rw [Nat.add_zero] at hs
     have hi:i<l.length:=(List.getElem?_eq_some_iff.1 hs).1
     have hc:cur[i]?=some (encStr s):=by
      have e1:(cur.toList.take (l.length*1))[i]?=some (encStr s):=by rw [h4,List.getElem?_map,hs];rfl
      rw [List.getElem?_take_of_lt (by omega)] at e1
      simpa using e1
     show w.cell? (Addr.add ⟨g,0,none⟩ (i*1+0))=_
     rw [y2qY]
     unfold World.cell?
     simp only [Nat.zero_add,Nat.mul_one,Nat.add_zero]
     rw [hgb]
     simpa [encStr,Value.cells] using hc
  exact key l 0 fun j s hj=>by simpa using hj
theorem ydkY {c:Cx}:∀ {K:List Str} {l:List MapEntry},REs c (K.map ent) l->l.map (·.key)=K.map fun s=>.string ⟨⟨s⟩⟩
 | [],l,h=>by simp only [List.map_nil,REs] at h;subst h;rfl
 | s::K,l,h=>by
   simp only [List.map_cons,REs,ent,RV,RVs,mkS] at h
   obtain ⟨e,r,rfl,⟨vs,h1,_,_,h2,rfl,_,_,rfl,rfl,rfl⟩,h3⟩:=h
   simp only [Value.tuple.injEq] at h1
   subst h1
   simp only [List.cons.injEq] at h2
   simp only [List.map_cons,List.cons.injEq]
   exact ⟨h2.1,ydkY h3⟩
theorem ydlY (K:List Str) (hK:K.Nodup) (hKs:∀ s∈K,SL s) (hKl:K.length<=8796093022208):(PR Tryz.prog (Gd Tryz.prog)).v 254 [.mapv (K.map ent)] (.sl 1 false ((ylY K).map mkS)):=by
 have hc:CleanL ((ylY K).map mkS):=yaY yiY rfl
 refine ⟨enters_of Tryz.func254 (by kernel_rfl) rfl,by simp [closed,hc.c],fun w S vs hG hv=>?_⟩
 simp only [RVs,RV] at hv
 obtain ⟨_,_,e1,⟨b,mes,clk,rfl,hA,⟨hb,hst⟩,hes⟩,rfl⟩:=hv
 obtain rfl:vs=#[.map (some b)]:=by apply Array.toList_inj.1;rw [e1]
 refine (yj1Y b K hK hKs hKl w mes clk hb hst (ydkY hes)).mono ?_
 rintro e w' ⟨v,rfl,hrow,hbl⟩
 exact ⟨_,rfl,hbl,yj2Y hrow fun b hb=>.inr hb⟩
end Go.Proofs.AM
namespace Go.Proofs.AM
open Go Go.RowKit Go.Shelf Cd
set_option maxRecDepth 100000
theorem yj3Y:Tryz.prog.follows .mixedOrders=true:=by kernel_rfl
theorem E52:y1Y Tryz.prog 52:=enters_of Tryz.func52 (by kernel_rfl) rfl
theorem T52:funcT Tryz.prog [] Tryz.f52=some c52.erase:=by kernel_rfl
theorem E65:y1Y Tryz.prog 65:=enters_of Tryz.func65 (by kernel_rfl) rfl
theorem T65:funcT Tryz.prog [] Tryz.f65=some c65.erase:=by kernel_rfl
theorem E106:y1Y Tryz.prog 106:=enters_of Tryz.func106 (by kernel_rfl) rfl
theorem T106:funcT Tryz.prog [] Tryz.f106=some c106.erase:=by kernel_rfl
theorem E118:y1Y Tryz.prog 118:=enters_of Tryz.func118 (by kernel_rfl) rfl
theorem T118:funcT Tryz.prog [] Tryz.f118=some c118.erase:=by kernel_rfl
theorem E172:y1Y Tryz.prog 172:=enters_of Tryz.func172 (by kernel_rfl) rfl
theorem T172:funcT Tryz.prog [] Tryz.f172=some c172.erase:=by kernel_rfl
theorem E173:y1Y Tryz.prog 173:=enters_of Tryz.func173 (by kernel_rfl) rfl
theorem T173:funcT Tryz.prog [] Tryz.f173=some c173.erase:=by kernel_rfl
theorem E182:y1Y Tryz.prog 182:=enters_of Tryz.func182 (by kernel_rfl) rfl
theorem T182:funcT Tryz.prog [] Tryz.f182=some c182.erase:=by kernel_rfl
theorem E184:y1Y Tryz.prog 184:=enters_of Tryz.func184 (by kernel_rfl) rfl
theorem T184:funcT Tryz.prog [] Tryz.f184=some c184.erase:=by kernel_rfl
theorem E187:y1Y Tryz.prog 187:=enters_of Tryz.func187 (by kernel_rfl) rfl
theorem T187:funcT Tryz.prog [] Tryz.f187=some c187.erase:=by kernel_rfl
theorem E209:y1Y Tryz.prog 209:=enters_of Tryz.func209 (by kernel_rfl) rfl
theorem T209:funcT Tryz.prog [] Tryz.f209=some c209.erase:=by kernel_rfl
theorem E210:y1Y Tryz.prog 210:=enters_of Tryz.func210 (by kernel_rfl) rfl
theorem T210:funcT Tryz.prog [] Tryz.f210=some c210.erase:=by kernel_rfl
theorem E211:y1Y Tryz.prog 211:=enters_of Tryz.func211 (by kernel_rfl) rfl
theorem T211:funcT Tryz.prog [] Tryz.f211=some c211.erase:=by kernel_rfl
theorem E212:y1Y Tryz.prog 212:=enters_of Tryz.func212 (by kernel_rfl) rfl
theorem T212:funcT Tryz.prog [] Tryz.f212=some c212.erase:=by kernel_rfl
theorem E225:y1Y Tryz.prog 225:=enters_of Tryz.func225 (by kernel_rfl) rfl
theorem T225:funcT Tryz.prog [] Tryz.f225=some c225.erase:=by kernel_rfl
theorem E226:y1Y Tryz.prog 226:=enters_of Tryz.func226 (by kernel_rfl) rfl
theorem T226:funcT Tryz.prog [] Tryz.f226=some c226.erase:=by kernel_rfl
theorem E227:y1Y Tryz.prog 227:=enters_of Tryz.func227 (by kernel_rfl) rfl
theorem T227:funcT Tryz.prog [] Tryz.f227=some c227.erase:=by kernel_rfl
theorem E240:y1Y Tryz.prog 240:=enters_of Tryz.func240 (by kernel_rfl) rfl
theorem T240:funcT Tryz.prog [] Tryz.f240=some c240.erase:=by kernel_rfl
theorem E247:y1Y Tryz.prog 247:=enters_of Tryz.func247 (by kernel_rfl) rfl
theorem T247:funcT Tryz.prog [] Tryz.f247=some c247.erase:=by kernel_rfl
theorem E253:y1Y Tryz.prog 253:=enters_of Tryz.func253 (by kernel_rfl) rfl
theorem T253:funcT Tryz.prog [] Tryz.f253=some c253.erase:=by kernel_rfl
theorem E255:y1Y Tryz.prog 255:=enters_of Tryz.func255 (by kernel_rfl) rfl
theorem T255:funcT Tryz.prog [] Tryz.f255=some c255.erase:=by kernel_rfl
theorem E256:y1Y Tryz.prog 256:=enters_of Tryz.func256 (by kernel_rfl) rfl
theorem T256:funcT Tryz.prog [] Tryz.f256=some c256.erase:=by kernel_rfl
theorem E265:y1Y Tryz.prog 265:=enters_of Tryz.func265 (by kernel_rfl) rfl
theorem T265:funcT Tryz.prog [] Tryz.f265=some c265.erase:=by kernel_rfl
end Go.Proofs.AM
