/- Part 9 of the lemmas: ZPVc, ZVVf, ZVVg, ZGLa, ZGLb, ZVVa, ZVVb. -/
import Derived.Test.YtococcgeoknmjaaGreatDoorM07
import Derived.Test.YtococcgeoknmjaaGreatDoorM08
import Derived.Lib.LaidTab
import Derived.Lib.ParseIntBTie
import Derived.WalkKit
import Derived.Test.YtococcgeoknmjaaGreatDoorProg
import Derived.Shelf.Abstract
namespace Go.Proofs.AM
open Go Cd
def c180 : Func :=
⟨1, 51, [.cell 2 6 true, .tmp 3],
 (.seq (.ops [o 1 (.box (t 0)), o 2 (.alloc [(.bool false), (.bool false), (.bool false), (.sl 1 true []), (.int .i64 0), (.int .i64 0)]), o 3 (.mov (c (.int .i64 0)))])
 (.seq (.seq (.ops [o 6 (.load 4 true (t 1)), o 7 (.call false (c (.fn 213 [] [])) [(t 6)]), o 4 (.mov (t 7))])
 (.seq (.ops [o 8 (.mov (t 4)), o 9 (.bin .neq (t 8) (c (.int .i64 0)))])
 (.cond (t 9) (.seq (.ops [o 10 (.build [(.bool false), (.bool false), (.bool false), (.sl 1 true []), (.int .i64 0), (.int .i64 0)] []), o 11 (.mov (t 4)), w (.store 6 (t 2) (t 10)), o 3 (.mov (t 11))])
 .ret) .skip)))
 (.seq (.ops [o 12 (.fAddr 2 (t 1)), o 13 (.load 1 false (t 12)), o 14 (.mkSl false 1 38 (.sl 1 true []) 1 [(0, (t 13))]), o 15 (.call false (c (.fn 181 [] [])) [(t 14)]), o 16 (.call false (c (.fn 182 [] [])) [(t 15)]), o 17 (.build [(.bool false), (.bool false), (.bool false), (.sl 1 true []), (.int .i64 0), (.int .i64 0)] [(3, 1, (t 16))]), o 5 (.alloc [(.bool false), (.bool false), (.bool false), (.sl 1 true []), (.int .i64 0), (.int .i64 0)]), w (.store 6 (t 5) (t 17))])
 (.join (.seq (.ops [o 18 (.fAddr 1 (t 1)), o 19 (.load 1 false (t 18))])
 (.block 0 (.seq (.ops [o 21 (.bin .eql (t 19) (c (.int .i64 2))), o 20 (.mov (t 21))])
 (.cond (t 20) (.ops [o 22 (.fAddr 0 (t 5)), w (.store 1 (t 22) (c (.bool true))), o 23 (.fAddr 1 (t 5)), w (.store 1 (t 23) (c (.bool true)))]) (.seq (.ops [o 25 (.bin .eql (t 19) (c (.int .i64 3))), o 24 (.mov (t 25))])
 (.cond (t 24) (.ops [o 26 (.fAddr 1 (t 5)), w (.store 1 (t 26) (c (.bool true)))]) (.seq (.ops [o 28 (.bin .eql (t 19) (c (.int .i64 4))), o 27 (.mov (t 28))])
 (.cond (t 27) (.ops [o 29 (.fAddr 0 (t 5)), w (.store 1 (t 29) (c (.bool true)))]) (.seq (.ops [o 31 (.bin .eql (t 19) (c (.int .i64 5))), o 30 (.mov (t 31))])
 (.cond (t 30) (.ops [o 33 (.fAddr 3 (t 1)), o 34 (.load 1 false (t 33)), o 35 (.bin .add (t 34) (c (.int .i64 1))), o 36 (.call true (c (.fn 181 [] [])) [(c (.sl 1 true []))]), o 37 (.call true (c (.fn 183 [] [])) [(t 35), (c (.int .i64 2147483648)), (t 36)]), o 32 (.mov (t 37)), o 38 (.ext 0 (t 32)), o 39 (.ext 1 (t 32)), w (.store 6 (t 5) (t 38))]) (.seq (.ops [o 41 (.bin .eql (t 19) (c (.int .i64 6))), o 40 (.mov (t 41))])
 (.cond (t 40) (.ops [o 43 (.fAddr 3 (t 1)), o 44 (.load 1 false (t 43)), o 45 (.bin .sub (t 44) (c (.int .i64 1))), o 46 (.call true (c (.fn 181 [] [])) [(c (.sl 1 true []))]), o 47 (.call true (c (.fn 183 [] [])) [(c (.int .i64 (-2147483648))), (t 45), (t 46)]), o 42 (.mov (t 47)), o 48 (.ext 0 (t 42)), o 49 (.ext 1 (t 42)), w (.store 6 (t 5) (t 48))]) .skip))))))))))))
 (.seq (.ops [o 50 (.load 6 true (t 5)), w (.store 6 (t 2) (t 50)), o 3 (.mov (c (.int .i64 0)))])
 .ret)))))⟩
def c187 : Func :=
⟨1, 28, [.tmp 2, .tmp 3],
 (.seq (.ops [o 2 (.mov (c (.int .i64 0))), o 3 (.mov (c (.bool false)))])
 (.seq (.ops [o 7 (.mov (t 0)), o 8 (.call false (c (.fn 228 [] [])) [(t 7), (c (.int .i64 10)), (c (.int .i64 64))]), o 6 (.mov (t 8)), o 9 (.ext 0 (t 6)), o 10 (.ext 1 (t 6)), o 4 (.mov (t 9)), o 5 (.mov (t 10))])
 (.seq (.seq (.ops [o 11 (.mov (t 5)), o 12 (.eqn true (t 11) (c .nili)), o 13 (.mov (t 12)), ⟨some 14, .mov (t 4), some (13, false)⟩, ⟨some 15, .bin .lss (t 14) (c (.int .i64 (-2147483648))), some (13, false)⟩, o 16 (.pick (t 13) (c (.bool true)) (t 15)), o 17 (.mov (t 16)), ⟨some 18, .mov (t 4), some (17, false)⟩, ⟨some 19, .bin .gtr (t 18) (c (.int .i64 2147483648)), some (17, false)⟩, o 20 (.pick (t 17) (c (.bool true)) (t 19)), o 21 (.mov (t 20)), ⟨some 22, .mov (t 4), some (21, false)⟩, ⟨some 23, .call false (c (.fn 216 [] [])) [(t 22), (c (.int .i64 10))], some (21, false)⟩, ⟨some 24, .mov (t 0), some (21, false)⟩, ⟨some 25, .bin .neq (t 23) (t 24), some (21, false)⟩, o 26 (.pick (t 21) (c (.bool true)) (t 25))])
 (.cond (t 26) (.seq (.ops [o 2 (.mov (c (.int .i64 0))), o 3 (.mov (c (.bool false)))])
 .ret) .skip))
 (.seq (.ops [o 27 (.mov (t 4)), o 2 (.mov (t 27)), o 3 (.mov (c (.bool true)))])
 .ret))))⟩
def c232 : Func :=
⟨1, 58, [.tmp 2, .tmp 3],
 (.seq (.ops [o 2 (.mov (c (.int .i64 0))), o 3 (.mov (c (.bool false)))])
 (.seq (.seq (.ops [o 7 (.mov (t 0)), o 8 (.lenStr (t 7)), o 9 (.bin .gtr (t 8) (c (.int .i64 11)))])
 (.cond (t 9) (.seq (.ops [o 2 (.mov (c (.int .i64 0))), o 3 (.mov (c (.bool false)))])
 .ret) .skip))
 (.seq (.ops [o 4 (.mov (c (.int .i64 0)))])
 (.seq (.seq (.ops [o 5 (.mov (c (.int .i64 0)))])
 (.block 0 (.loop (.seq (.seq (.ops [o 10 (.mov (t 5)), o 11 (.mov (t 0)), o 12 (.lenStr (t 11)), o 13 (.bin .lss (t 10) (t 12))])
 (.cond (t 13) .skip (.exit 0)))
 (.seq (.block 1 (.seq (.ops [o 16 (.mov (t 0)), o 17 (.mov (t 5)), o 18 (.idxStr (t 16) (t 17)), o 19 (.bin .geq (t 18) (c (.int .u8 48))), o 20 (.mov (t 19)), ⟨some 21, .mov (t 0), some (20, true)⟩, ⟨some 22, .mov (t 5), some (20, true)⟩, ⟨some 23, .idxStr (t 21) (t 22), some (20, true)⟩, ⟨some 24, .bin .leq (t 23) (c (.int .u8 57)), some (20, true)⟩, o 25 (.pick (t 20) (t 24) (c (.bool false)))])
 (.cond (t 25) (.ops [o 26 (.mov (t 4)), o 27 (.bin .mul (t 26) (c (.int .i64 10))), o 28 (.mov (t 0)), o 29 (.mov (t 5)), o 30 (.idxStr (t 28) (t 29)), o 31 (.bin .sub (t 30) (c (.int .u8 48))), o 32 (.cvInt .i64 (t 31)), o 33 (.bin .add (t 27) (t 32)), o 4 (.mov (t 33))]) .skip)))
 (.ops [o 14 (.mov (t 5)), o 15 (.bin .add (t 14) (c (.int .i64 1))), o 5 (.mov (t 15))]))))))
 (.seq (.seq (.ops [o 34 (.mov (t 0)), o 35 (.lenStr (t 34)), o 36 (.bin .gtr (t 35) (c (.int .i64 0))), o 37 (.mov (t 36)), ⟨some 38, .mov (t 0), some (37, true)⟩, ⟨some 39, .idxStr (t 38) (c (.int .i64 0)), some (37, true)⟩, ⟨some 40, .bin .eql (t 39) (c (.int .u8 45)), some (37, true)⟩, o 41 (.pick (t 37) (t 40) (c (.bool false)))])
 (.cond (t 41) (.ops [o 42 (.mov (t 4)), o 43 (.un .neg (t 42)), o 4 (.mov (t 43))]) .skip))
 (.seq (.ops [o 44 (.mov (t 4)), o 45 (.call false (c (.fn 231 [] [])) [(t 44)]), o 6 (.mov (t 45))])
 (.seq (.seq (.ops [o 46 (.mov (t 6)), o 47 (.mov (t 0)), o 48 (.bin .neq (t 46) (t 47)), o 49 (.mov (t 48)), ⟨some 50, .mov (t 4), some (49, false)⟩, ⟨some 51, .bin .lss (t 50) (c (.int .i64 (-2147483648))), some (49, false)⟩, o 52 (.pick (t 49) (c (.bool true)) (t 51)), o 53 (.mov (t 52)), ⟨some 54, .mov (t 4), some (53, false)⟩, ⟨some 55, .bin .gtr (t 54) (c (.int .i64 2147483648)), some (53, false)⟩, o 56 (.pick (t 53) (c (.bool true)) (t 55))])
 (.cond (t 56) (.seq (.ops [o 2 (.mov (c (.int .i64 0))), o 3 (.mov (c (.bool false)))])
 .ret) .skip))
 (.seq (.ops [o 57 (.mov (t 4)), o 2 (.mov (t 57)), o 3 (.mov (c (.bool true)))])
 .ret))))))))⟩
def c110 : Func :=
⟨1, 54, [.tmp 2],
 (.seq (.ops [o 2 (.mov (c (.bool false)))])
 (.seq (.seq (.ops [o 5 (.mov (t 0)), o 6 (.lenStr (t 5)), o 7 (.bin .lss (t 6) (c (.int .i64 1))), o 8 (.mov (t 7)), ⟨some 9, .mov (t 0), some (8, false)⟩, ⟨some 10, .lenStr (t 9), some (8, false)⟩, ⟨some 11, .bin .gtr (t 10) (c (.int .i64 16)), some (8, false)⟩, o 12 (.pick (t 8) (c (.bool true)) (t 11)), o 13 (.mov (t 12)), ⟨some 14, .mov (t 0), some (13, false)⟩, ⟨some 15, .idxStr (t 14) (c (.int .i64 0)), some (13, false)⟩, ⟨some 16, .bin .lss (t 15) (c (.int .u8 97)), some (13, false)⟩, o 17 (.pick (t 13) (c (.bool true)) (t 16)), o 18 (.mov (t 17)), ⟨some 19, .mov (t 0), some (18, false)⟩, ⟨some 20, .idxStr (t 19) (c (.int .i64 0)), some (18, false)⟩, ⟨some 21, .bin .gtr (t 20) (c (.int .u8 122)), some (18, false)⟩, o 22 (.pick (t 18) (c (.bool true)) (t 21))])
 (.cond (t 22) (.seq (.ops [o 2 (.mov (c (.bool false)))])
 .ret) .skip))
 (.seq (.seq (.ops [o 3 (.mov (c (.int .i64 0)))])
 (.block 0 (.loop (.seq (.seq (.ops [o 23 (.mov (t 3)), o 24 (.mov (t 0)), o 25 (.lenStr (t 24)), o 26 (.bin .lss (t 23) (t 25))])
 (.cond (t 26) .skip (.exit 0)))
 (.seq (.block 1 (.seq (.ops [o 29 (.mov (t 0)), o 30 (.mov (t 3)), o 31 (.idxStr (t 29) (t 30)), o 4 (.mov (t 31))])
 (.seq (.ops [o 32 (.mov (t 4)), o 33 (.bin .lss (t 32) (c (.int .u8 97))), o 34 (.mov (t 33)), ⟨some 35, .mov (t 4), some (34, false)⟩, ⟨some 36, .bin .gtr (t 35) (c (.int .u8 122)), some (34, false)⟩, o 37 (.pick (t 34) (c (.bool true)) (t 36)), o 38 (.mov (t 37)), ⟨some 39, .mov (t 4), some (38, true)⟩, ⟨some 40, .bin .lss (t 39) (c (.int .u8 48)), some (38, true)⟩, ⟨some 41, .mov (t 40), some (38, true)⟩, ⟨some 42, .mov (t 4), some (41, false)⟩, ⟨some 43, .bin .gtr (t 42) (c (.int .u8 57)), some (41, false)⟩, ⟨some 44, .pick (t 41) (c (.bool true)) (t 43), some (38, true)⟩, o 45 (.pick (t 38) (t 44) (c (.bool false))), o 46 (.mov (t 45)), ⟨some 47, .mov (t 4), some (46, true)⟩, ⟨some 48, .bin .neq (t 47) (c (.int .u8 46)), some (46, true)⟩, o 49 (.pick (t 46) (t 48) (c (.bool false))), o 50 (.mov (t 49)), ⟨some 51, .mov (t 4), some (50, true)⟩, ⟨some 52, .bin .neq (t 51) (c (.int .u8 45)), some (50, true)⟩, o 53 (.pick (t 50) (t 52) (c (.bool false)))])
 (.cond (t 53) (.seq (.ops [o 2 (.mov (c (.bool false)))])
 .ret) .skip))))
 (.ops [o 27 (.mov (t 3)), o 28 (.bin .add (t 27) (c (.int .i64 1))), o 3 (.mov (t 28))]))))))
 (.seq (.ops [o 2 (.mov (c (.bool true)))])
 .ret))))⟩
def c193 : Func :=
⟨1, 17, [.tmp 2],
 (.seq (.ops [o 2 (.mov (c (.bool false)))])
 (.seq (.ops [o 6 (.mov (t 0)), o 7 (.call false (c (.fn 110 [] [])) [(t 6)]), o 3 (.mov (t 7))])
 (.seq (.ops [o 9 (.mov (t 0)), o 10 (.call false (c (.fn 232 [] [])) [(t 9)]), o 8 (.mov (t 10)), o 11 (.ext 0 (t 8)), o 12 (.ext 1 (t 8)), o 4 (.mov (t 11)), o 5 (.mov (t 12))])
 (.seq (.ops [o 13 (.mov (t 3)), o 14 (.mov (t 13)), ⟨some 15, .mov (t 5), some (14, false)⟩, o 16 (.pick (t 14) (c (.bool true)) (t 15)), o 2 (.mov (t 16))])
 .ret))))⟩
def c89 : Func :=
⟨1, 50, [.tmp 2],
 (.seq (.ops [o 2 (.mov (c (.bool false)))])
 (.seq (.seq (.ops [o 6 (.mov (t 0)), o 7 (.cvSB (t 6)), o 8 (.lenSl (t 7)), o 9 (.mov (c (.int .i64 0)))])
 (.block 0 (.loop (.seq (.ops [o 10 (.bin .lss (t 9) (t 8))])
 (.seq (.cond (t 10) .skip (.exit 0))
 (.seq (.block 1 (.seq (.ops [o 11 (.mov (t 9)), o 12 (.iAddrS 1 (t 7) (t 9)), o 13 (.load 1 false (t 12)), o 3 (.mov (t 11)), o 4 (.mov (t 13))])
 (.seq (.ops [o 14 (.mov (t 4)), o 15 (.bin .geq (t 14) (c (.int .u8 97))), o 16 (.mov (t 15)), ⟨some 17, .mov (t 4), some (16, true)⟩, ⟨some 18, .bin .leq (t 17) (c (.int .u8 122)), some (16, true)⟩, o 19 (.pick (t 16) (t 18) (c (.bool false))), o 5 (.mov (t 19))])
 (.seq (.ops [o 20 (.mov (t 5)), o 21 (.un .not (t 20)), o 22 (.mov (t 21)), ⟨some 23, .mov (t 3), some (22, true)⟩, ⟨some 24, .bin .eql (t 23) (c (.int .i64 0)), some (22, true)⟩, ⟨some 25, .mov (t 24), some (22, true)⟩, ⟨some 26, .mov (t 4), some (25, false)⟩, ⟨some 27, .bin .neq (t 26) (c (.int .u8 46)), some (25, false)⟩, ⟨some 28, .mov (t 27), some (25, false)⟩, ⟨some 29, .mov (t 4), some (28, true)⟩, ⟨some 30, .bin .neq (t 29) (c (.int .u8 45)), some (28, true)⟩, ⟨some 31, .pick (t 28) (t 30) (c (.bool false)), some (25, false)⟩, ⟨some 32, .mov (t 31), some (25, false)⟩, ⟨some 33, .mov (t 4), some (32, true)⟩, ⟨some 34, .bin .lss (t 33) (c (.int .u8 48)), some (32, true)⟩, ⟨some 35, .mov (t 34), some (32, true)⟩, ⟨some 36, .mov (t 4), some (35, false)⟩, ⟨some 37, .bin .gtr (t 36) (c (.int .u8 57)), some (35, false)⟩, ⟨some 38, .pick (t 35) (c (.bool true)) (t 37), some (32, true)⟩, ⟨some 39, .pick (t 32) (t 38) (c (.bool false)), some (25, false)⟩, ⟨some 40, .pick (t 25) (c (.bool true)) (t 39), some (22, true)⟩, o 41 (.pick (t 22) (t 40) (c (.bool false)))])
 (.cond (t 41) (.seq (.ops [o 2 (.mov (c (.bool false)))])
 .ret) .skip)))))
 (.ops [o 42 (.bin .add (t 9) (c (.int .i64 1))), o 9 (.mov (t 42))])))))))
 (.seq (.ops [o 43 (.mov (t 0)), o 44 (.bin .neq (t 43) (c (.str ⟨#[]⟩))), o 45 (.mov (t 44)), ⟨some 46, .mov (t 0), some (45, true)⟩, ⟨some 47, .lenStr (t 46), some (45, true)⟩, ⟨some 48, .bin .leq (t 47) (c (.int .i64 16)), some (45, true)⟩, o 49 (.pick (t 45) (t 48) (c (.bool false))), o 2 (.mov (t 49))])
 .ret)))⟩
def c90 : Func :=
⟨1, 15, [.tmp 2],
 (.seq (.ops [o 2 (.mov (c (.bool false)))])
 (.seq (.ops [o 6 (.mov (t 0)), o 7 (.call false (c (.fn 187 [] [])) [(t 6)]), o 5 (.mov (t 7)), o 8 (.ext 0 (t 5)), o 9 (.ext 1 (t 5)), o 3 (.mov (t 8)), o 4 (.mov (t 9))])
 (.seq (.ops [o 10 (.mov (t 4)), o 11 (.mov (t 10)), ⟨some 12, .mov (t 0), some (11, false)⟩, ⟨some 13, .call false (c (.fn 89 [] [])) [(t 12)], some (11, false)⟩, o 14 (.pick (t 11) (c (.bool true)) (t 13)), o 2 (.mov (t 14))])
 .ret)))⟩
def c93 : Func :=
⟨1, 53, [.cell 2 6 true, .tmp 3],
 (.seq (.ops [o 1 (.box (t 0)), o 2 (.alloc [(.bool false), (.bool false), (.bool false), (.sl 1 true []), (.int .i64 0), (.int .i64 0)]), o 3 (.mov (c (.int .i64 0)))])
 (.seq (.ops [o 9 (.load 4 true (t 1)), o 10 (.call false (c (.fn 188 [] [])) [(t 9)]), o 4 (.mov (t 10))])
 (.seq (.seq (.ops [o 11 (.mov (t 4)), o 12 (.bin .neq (t 11) (c (.int .i64 0)))])
 (.cond (t 12) (.seq (.ops [o 13 (.build [(.bool false), (.bool false), (.bool false), (.sl 1 true []), (.int .i64 0), (.int .i64 0)] []), o 14 (.mov (t 4)), w (.store 6 (t 2) (t 13)), o 3 (.mov (t 14))])
 .ret) .skip))
 (.seq (.seq (.ops [o 15 (.fAddr 1 (t 1)), o 16 (.load 1 false (t 15))])
 (.block 0 (.seq (.ops [o 18 (.bin .eql (t 16) (c (.int .i64 1))), o 17 (.mov (t 18))])
 (.cond (t 17) (.seq (.ops [o 19 (.fAddr 2 (t 1)), o 20 (.load 1 false (t 19)), o 21 (.call false (c (.fn 189 [] [])) [(t 20)]), o 22 (.build [(.bool false), (.bool false), (.bool false), (.sl 1 true []), (.int .i64 0), (.int .i64 0)] [(3, 1, (t 21))]), w (.store 6 (t 2) (t 22)), o 3 (.mov (c (.int .i64 0)))])
 .ret) (.seq (.ops [o 24 (.bin .eql (t 16) (c (.int .i64 2))), o 23 (.mov (t 24))])
 (.cond (t 23) (.seq (.ops [o 25 (.fAddr 2 (t 1)), o 26 (.load 1 false (t 25)), o 27 (.call false (c (.fn 189 [] [])) [(t 26)]), o 28 (.build [(.bool false), (.bool false), (.bool false), (.sl 1 true []), (.int .i64 0), (.int .i64 0)] [(0, 1, (c (.bool true))), (1, 1, (c (.bool true))), (3, 1, (t 27))]), w (.store 6 (t 2) (t 28)), o 3 (.mov (c (.int .i64 0)))])
 .ret) (.seq (.ops [o 30 (.bin .eql (t 16) (c (.int .i64 3))), o 29 (.mov (t 30))])
 (.cond (t 29) (.seq (.ops [o 31 (.build [(.bool false), (.bool false), (.bool false), (.sl 1 true []), (.int .i64 0), (.int .i64 0)] [(1, 1, (c (.bool true)))]), w (.store 6 (t 2) (t 31)), o 3 (.mov (c (.int .i64 0)))])
 .ret) (.seq (.ops [o 33 (.bin .eql (t 16) (c (.int .i64 4))), o 32 (.mov (t 33))])
 (.cond (t 32) (.seq (.ops [o 34 (.build [(.bool false), (.bool false), (.bool false), (.sl 1 true []), (.int .i64 0), (.int .i64 0)] [(0, 1, (c (.bool true)))]), w (.store 6 (t 2) (t 34)), o 3 (.mov (c (.int .i64 0)))])
 .ret) (.seq (.ops [o 36 (.bin .eql (t 16) (c (.int .i64 5))), o 35 (.mov (t 36))])
 (.cond (t 35) (.seq (.ops [o 38 (.fAddr 3 (t 1)), o 39 (.load 1 false (t 38)), o 40 (.bin .add (t 39) (c (.int .i64 1))), o 41 (.call false (c (.fn 190 [] [])) [(t 40), (c (.int .i64 2147483648)), (c (.sl 1 true []))]), o 37 (.mov (t 41)), o 42 (.ext 0 (t 37)), o 43 (.ext 1 (t 37)), o 5 (.alloc [(.bool false), (.bool false), (.bool false), (.sl 1 true []), (.int .i64 0), (.int .i64 0)]), w (.store 6 (t 5) (t 42)), o 6 (.mov (t 43))])
 (.seq (.ops [o 44 (.load 6 true (t 5)), w (.store 6 (t 2) (t 44)), o 3 (.mov (c (.int .i64 0)))])
 .ret)) .skip))))))))))))
 (.seq (.ops [o 46 (.fAddr 3 (t 1)), o 47 (.load 1 false (t 46)), o 48 (.bin .sub (t 47) (c (.int .i64 1))), o 49 (.call false (c (.fn 190 [] [])) [(c (.int .i64 (-2147483648))), (t 48), (c (.sl 1 true []))]), o 45 (.mov (t 49)), o 50 (.ext 0 (t 45)), o 51 (.ext 1 (t 45)), o 7 (.alloc [(.bool false), (.bool false), (.bool false), (.sl 1 true []), (.int .i64 0), (.int .i64 0)]), w (.store 6 (t 7) (t 50)), o 8 (.mov (t 51))])
 (.seq (.ops [o 52 (.load 6 true (t 7)), w (.store 6 (t 2) (t 52)), o 3 (.mov (c (.int .i64 0)))])
 .ret))))))⟩
def c191 : Func :=
⟨1, 97, [.tmp 2],
 (.seq (.ops [o 1 (.box (t 0)), o 2 (.mov (c (.int .i64 0)))])
 (.seq (.ops [o 7 (.fAddr 3 (t 1)), o 8 (.load 1 false (t 7)), o 9 (.call false (c (.fn 233 [] [])) [(t 8)]), o 3 (.mov (t 9))])
 (.seq (.seq (.ops [o 10 (.mov (t 3)), o 11 (.un .not (t 10)), o 12 (.mov (t 11)), ⟨some 13, .fAddr 2 (t 1), some (12, false)⟩, ⟨some 14, .load 1 false (t 13), some (12, false)⟩, ⟨some 15, .mov (t 14), some (12, false)⟩, ⟨some 16, .fAddr 1 (t 1), some (15, true)⟩, ⟨some 17, .load 1 false (t 16), some (15, true)⟩, ⟨some 18, .un .not (t 17), some (15, true)⟩, ⟨some 19, .pick (t 15) (t 18) (c (.bool false)), some (12, false)⟩, o 20 (.pick (t 12) (c (.bool true)) (t 19)), o 21 (.mov (t 20)), ⟨some 22, .fAddr 2 (t 1), some (21, false)⟩, ⟨some 23, .load 1 false (t 22), some (21, false)⟩, ⟨some 24, .un .not (t 23), some (21, false)⟩, ⟨some 25, .mov (t 24), some (21, false)⟩, ⟨some 26, .fAddr 4 (t 1), some (25, true)⟩, ⟨some 27, .load 1 false (t 26), some (25, true)⟩, ⟨some 28, .bin .neq (t 27) (c (.int .i64 0)), some (25, true)⟩, ⟨some 29, .mov (t 28), some (25, true)⟩, ⟨some 30, .fAddr 5 (t 1), some (29, false)⟩, ⟨some 31, .load 1 false (t 30), some (29, false)⟩, ⟨some 32, .bin .neq (t 31) (c (.int .i64 0)), some (29, false)⟩, ⟨some 33, .pick (t 29) (c (.bool true)) (t 32), some (25, true)⟩, ⟨some 34, .pick (t 25) (t 33) (c (.bool false)), some (21, false)⟩, o 35 (.pick (t 21) (c (.bool true)) (t 34))])
 (.cond (t 35) (.seq (.ops [o 2 (.mov (c (.int .i64 1)))])
 .ret) .skip))
 (.seq (.seq (.ops [o 36 (.fAddr 2 (t 1)), o 37 (.load 1 false (t 36)), o 38 (.un .not (t 37))])
 (.cond (t 38) (.seq (.ops [o 2 (.mov (c (.int .i64 0)))])
 .ret) .skip))
 (.seq (.seq (.ops [o 39 (.fAddr 4 (t 1)), o 40 (.load 1 false (t 39)), o 41 (.bin .lss (t 40) (c (.int .i64 (-2147483648)))), o 42 (.mov (t 41)), ⟨some 43, .fAddr 5 (t 1), some (42, false)⟩, ⟨some 44, .load 1 false (t 43), some (42, false)⟩, ⟨some 45, .bin .gtr (t 44) (c (.int .i64 2147483648)), some (42, false)⟩, o 46 (.pick (t 42) (c (.bool true)) (t 45)), o 47 (.mov (t 46)), ⟨some 48, .fAddr 4 (t 1), some (47, false)⟩, ⟨some 49, .load 1 false (t 48), some (47, false)⟩, ⟨some 50, .fAddr 5 (t 1), some (47, false)⟩, ⟨some 51, .load 1 false (t 50), some (47, false)⟩, ⟨some 52, .bin .gtr (t 49) (t 51), some (47, false)⟩, o 53 (.pick (t 47) (c (.bool true)) (t 52)), o 54 (.mov (t 53)), ⟨some 55, .fAddr 5 (t 1), some (54, false)⟩, ⟨some 56, .load 1 false (t 55), some (54, false)⟩, ⟨some 57, .fAddr 4 (t 1), some (54, false)⟩, ⟨some 58, .load 1 false (t 57), some (54, false)⟩, ⟨some 59, .bin .sub (t 56) (t 58), some (54, false)⟩, ⟨some 60, .bin .add (t 59) (c (.int .i64 1)), some (54, false)⟩, ⟨some 61, .fAddr 3 (t 1), some (54, false)⟩, ⟨some 62, .load 1 false (t 61), some (54, false)⟩, ⟨some 63, .lenSl (t 62), some (54, false)⟩, ⟨some 64, .bin .sub (t 60) (t 63), some (54, false)⟩, ⟨some 65, .bin .leq (t 64) (c (.int .i64 64)), some (54, false)⟩, o 66 (.pick (t 54) (c (.bool true)) (t 65))])
 (.cond (t 66) (.seq (.ops [o 2 (.mov (c (.int .i64 1)))])
 .ret) .skip))
 (.seq (.seq (.ops [o 4 (.mov (c (.int .i64 0)))])
 (.block 0 (.loop (.seq (.seq (.ops [o 67 (.mov (t 4)), o 68 (.fAddr 3 (t 1)), o 69 (.load 1 false (t 68)), o 70 (.lenSl (t 69)), o 71 (.bin .lss (t 67) (t 70))])
 (.cond (t 71) .skip (.exit 0)))
 (.seq (.block 1 (.seq (.ops [o 75 (.fAddr 3 (t 1)), o 76 (.load 1 false (t 75)), o 77 (.mov (t 4)), o 78 (.iAddrS 1 (t 76) (t 77)), o 79 (.load 1 false (t 78)), o 80 (.call false (c (.fn 232 [] [])) [(t 79)]), o 74 (.mov (t 80)), o 81 (.ext 0 (t 74)), o 82 (.ext 1 (t 74)), o 5 (.mov (t 81)), o 6 (.mov (t 82))])
 (.seq (.ops [o 83 (.mov (t 6)), o 84 (.un .not (t 83)), o 85 (.mov (t 84)), ⟨some 86, .mov (t 5), some (85, false)⟩, ⟨some 87, .fAddr 4 (t 1), some (85, false)⟩, ⟨some 88, .load 1 false (t 87), some (85, false)⟩, ⟨some 89, .bin .leq (t 86) (t 88), some (85, false)⟩, o 90 (.pick (t 85) (c (.bool true)) (t 89)), o 91 (.mov (t 90)), ⟨some 92, .mov (t 5), some (91, false)⟩, ⟨some 93, .fAddr 5 (t 1), some (91, false)⟩, ⟨some 94, .load 1 false (t 93), some (91, false)⟩, ⟨some 95, .bin .geq (t 92) (t 94), some (91, false)⟩, o 96 (.pick (t 91) (c (.bool true)) (t 95))])
 (.cond (t 96) (.seq (.ops [o 2 (.mov (c (.int .i64 1)))])
 .ret) .skip))))
 (.ops [o 72 (.mov (t 4)), o 73 (.bin .add (t 72) (c (.int .i64 1))), o 4 (.mov (t 73))]))))))
 (.seq (.ops [o 2 (.mov (c (.int .i64 0)))])
 .ret)))))))⟩
def c103 : Func :=
⟨1, 125, [.tmp 2],
 (.seq (.ops [o 1 (.box (t 0)), o 2 (.mov (c (.int .i64 0)))])
 (.join (.ops [o 8 (.fAddr 3 (t 1)), o 9 (.load 1 false (t 8)), o 10 (.lenSl (t 9)), o 11 (.bin .gtr (t 10) (c (.int .i64 64))), o 12 (.mov (t 11)), ⟨some 13, .fAddr 2 (t 1), some (12, false)⟩, ⟨some 14, .load 1 false (t 13), some (12, false)⟩, ⟨some 15, .mov (t 14), some (12, false)⟩, ⟨some 16, .fAddr 1 (t 1), some (15, true)⟩, ⟨some 17, .load 1 false (t 16), some (15, true)⟩, ⟨some 18, .un .not (t 17), some (15, true)⟩, ⟨some 19, .pick (t 15) (t 18) (c (.bool false)), some (12, false)⟩, o 20 (.pick (t 12) (c (.bool true)) (t 19)), o 21 (.mov (t 20)), ⟨some 22, .fAddr 2 (t 1), some (21, false)⟩, ⟨some 23, .load 1 false (t 22), some (21, false)⟩, ⟨some 24, .un .not (t 23), some (21, false)⟩, ⟨some 25, .mov (t 24), some (21, false)⟩, ⟨some 26, .fAddr 4 (t 1), some (25, true)⟩, ⟨some 27, .load 1 false (t 26), some (25, true)⟩, ⟨some 28, .bin .neq (t 27) (c (.int .i64 0)), some (25, true)⟩, ⟨some 29, .mov (t 28), some (25, true)⟩, ⟨some 30, .fAddr 5 (t 1), some (29, false)⟩, ⟨some 31, .load 1 false (t 30), some (29, false)⟩, ⟨some 32, .bin .neq (t 31) (c (.int .i64 0)), some (29, false)⟩, ⟨some 33, .pick (t 29) (c (.bool true)) (t 32), some (25, true)⟩, ⟨some 34, .pick (t 25) (t 33) (c (.bool false)), some (21, false)⟩, o 35 (.pick (t 21) (c (.bool true)) (t 34)), o 3 (.mov (t 35))])
 (.seq (.seq (.ops [o 36 (.fAddr 3 (t 1)), o 37 (.load 1 false (t 36)), o 38 (.lenSl (t 37)), o 39 (.mov (c (.int .i64 0)))])
 (.block 0 (.loop (.seq (.ops [o 40 (.bin .lss (t 39) (t 38))])
 (.seq (.cond (t 40) .skip (.exit 0))
 (.seq (.block 1 (.seq (.ops [o 41 (.mov (t 39)), o 42 (.iAddrS 1 (t 37) (t 39)), o 43 (.load 1 false (t 42)), o 4 (.mov (t 41)), o 5 (.mov (t 43))])
 (.join (.ops [o 44 (.mov (t 3)), o 45 (.mov (t 44)), ⟨some 46, .mov (t 5), some (45, false)⟩, ⟨some 47, .call false (c (.fn 90 [] [])) [(t 46)], some (45, false)⟩, ⟨some 48, .un .not (t 47), some (45, false)⟩, o 49 (.pick (t 45) (c (.bool true)) (t 48)), o 50 (.mov (t 49)), ⟨some 51, .mov (t 4), some (50, false)⟩, ⟨some 52, .bin .gtr (t 51) (c (.int .i64 0)), some (50, false)⟩, ⟨some 53, .mov (t 52), some (50, false)⟩, ⟨some 54, .fAddr 3 (t 1), some (53, true)⟩, ⟨some 55, .load 1 false (t 54), some (53, true)⟩, ⟨some 56, .mov (t 4), some (53, true)⟩, ⟨some 57, .bin .sub (t 56) (c (.int .i64 1)), some (53, true)⟩, ⟨some 58, .iAddrS 1 (t 55) (t 57), some (53, true)⟩, ⟨some 59, .load 1 false (t 58), some (53, true)⟩, ⟨some 60, .mov (t 5), some (53, true)⟩, ⟨some 61, .bin .geq (t 59) (t 60), some (53, true)⟩, ⟨some 62, .pick (t 53) (t 61) (c (.bool false)), some (50, false)⟩, o 63 (.pick (t 50) (c (.bool true)) (t 62)), o 3 (.mov (t 63))])
 (.seq (.ops [o 64 (.fAddr 2 (t 1)), o 65 (.load 1 false (t 64)), o 66 (.mov (t 65)), ⟨some 67, .mov (t 3), some (66, true)⟩, ⟨some 68, .un .not (t 67), some (66, true)⟩, o 69 (.pick (t 66) (t 68) (c (.bool false)))])
 (.cond (t 69) (.seq (.ops [o 71 (.mov (t 5)), o 72 (.call false (c (.fn 187 [] [])) [(t 71)]), o 70 (.mov (t 72)), o 73 (.ext 0 (t 70)), o 74 (.ext 1 (t 70)), o 6 (.mov (t 73)), o 7 (.mov (t 74))])
 (.ops [o 75 (.mov (t 7)), o 76 (.un .not (t 75)), o 77 (.mov (t 76)), ⟨some 78, .mov (t 6), some (77, false)⟩, ⟨some 79, .fAddr 4 (t 1), some (77, false)⟩, ⟨some 80, .load 1 false (t 79), some (77, false)⟩, ⟨some 81, .bin .leq (t 78) (t 80), some (77, false)⟩, o 82 (.pick (t 77) (c (.bool true)) (t 81)), o 83 (.mov (t 82)), ⟨some 84, .mov (t 6), some (83, false)⟩, ⟨some 85, .fAddr 5 (t 1), some (83, false)⟩, ⟨some 86, .load 1 false (t 85), some (83, false)⟩, ⟨some 87, .bin .geq (t 84) (t 86), some (83, false)⟩, o 88 (.pick (t 83) (c (.bool true)) (t 87)), o 3 (.mov (t 88))])) .skip)))))
 (.ops [o 89 (.bin .add (t 39) (c (.int .i64 1))), o 39 (.mov (t 89))])))))))
 (.join (.seq (.ops [o 90 (.fAddr 2 (t 1)), o 91 (.load 1 false (t 90)), o 92 (.mov (t 91)), ⟨some 93, .mov (t 3), some (92, true)⟩, ⟨some 94, .un .not (t 93), some (92, true)⟩, o 95 (.pick (t 92) (t 94) (c (.bool false)))])
 (.cond (t 95) (.ops [o 96 (.fAddr 4 (t 1)), o 97 (.load 1 false (t 96)), o 98 (.bin .lss (t 97) (c (.int .i64 (-2147483648)))), o 99 (.mov (t 98)), ⟨some 100, .fAddr 5 (t 1), some (99, false)⟩, ⟨some 101, .load 1 false (t 100), some (99, false)⟩, ⟨some 102, .bin .gtr (t 101) (c (.int .i64 2147483648)), some (99, false)⟩, o 103 (.pick (t 99) (c (.bool true)) (t 102)), o 104 (.mov (t 103)), ⟨some 105, .fAddr 4 (t 1), some (104, false)⟩, ⟨some 106, .load 1 false (t 105), some (104, false)⟩, ⟨some 107, .fAddr 5 (t 1), some (104, false)⟩, ⟨some 108, .load 1 false (t 107), some (104, false)⟩, ⟨some 109, .bin .gtr (t 106) (t 108), some (104, false)⟩, o 110 (.pick (t 104) (c (.bool true)) (t 109)), o 111 (.mov (t 110)), ⟨some 112, .fAddr 5 (t 1), some (111, false)⟩, ⟨some 113, .load 1 false (t 112), some (111, false)⟩, ⟨some 114, .fAddr 4 (t 1), some (111, false)⟩, ⟨some 115, .load 1 false (t 114), some (111, false)⟩, ⟨some 116, .bin .sub (t 113) (t 115), some (111, false)⟩, ⟨some 117, .bin .add (t 116) (c (.int .i64 1)), some (111, false)⟩, ⟨some 118, .fAddr 3 (t 1), some (111, false)⟩, ⟨some 119, .load 1 false (t 118), some (111, false)⟩, ⟨some 120, .lenSl (t 119), some (111, false)⟩, ⟨some 121, .bin .sub (t 117) (t 120), some (111, false)⟩, ⟨some 122, .bin .leq (t 121) (c (.int .i64 64)), some (111, false)⟩, o 123 (.pick (t 111) (c (.bool true)) (t 122)), o 3 (.mov (t 123))]) .skip))
 (.seq (.seq (.ops [o 124 (.mov (t 3))])
 (.cond (t 124) (.seq (.ops [o 2 (.mov (c (.int .i64 1)))])
 .ret) .skip))
 (.seq (.ops [o 2 (.mov (c (.int .i64 0)))])
 .ret))))))⟩
def c85 : Func :=
⟨2, 123, [.cell 4 6 true, .tmp 5],
 (.seq (.ops [o 2 (.box (t 0)), o 3 (.box (t 1)), o 4 (.alloc [(.bool false), (.bool false), (.bool false), (.sl 1 true []), (.int .i64 0), (.int .i64 0)]), o 5 (.mov (c (.int .i64 0)))])
 (.seq (.seq (.ops [o 13 (.load 6 true (t 2)), o 14 (.call false (c (.fn 103 [] [])) [(t 13)]), o 6 (.mov (t 14))])
 (.seq (.ops [o 15 (.mov (t 6)), o 16 (.bin .neq (t 15) (c (.int .i64 0)))])
 (.cond (t 16) (.seq (.ops [o 17 (.build [(.bool false), (.bool false), (.bool false), (.sl 1 true []), (.int .i64 0), (.int .i64 0)] []), o 18 (.mov (t 6)), w (.store 6 (t 4) (t 17)), o 5 (.mov (t 18))])
 .ret) .skip)))
 (.seq (.seq (.ops [o 19 (.load 6 true (t 3)), o 20 (.call false (c (.fn 103 [] [])) [(t 19)]), o 7 (.mov (t 20))])
 (.seq (.ops [o 21 (.mov (t 7)), o 22 (.bin .neq (t 21) (c (.int .i64 0)))])
 (.cond (t 22) (.seq (.ops [o 23 (.build [(.bool false), (.bool false), (.bool false), (.sl 1 true []), (.int .i64 0), (.int .i64 0)] []), o 24 (.mov (t 7)), w (.store 6 (t 4) (t 23)), o 5 (.mov (t 24))])
 .ret) .skip)))
 (.join (.seq (.ops [o 25 (.fAddr 1 (t 2)), o 26 (.load 1 false (t 25)), o 27 (.mov (t 26)), ⟨some 28, .fAddr 1 (t 3), some (27, true)⟩, ⟨some 29, .load 1 false (t 28), some (27, true)⟩, ⟨some 30, .un .not (t 29), some (27, true)⟩, o 31 (.pick (t 27) (t 30) (c (.bool false))), o 32 (.mov (t 31)), ⟨some 33, .fAddr 2 (t 2), some (32, false)⟩, ⟨some 34, .load 1 false (t 33), some (32, false)⟩, ⟨some 35, .mov (t 34), some (32, false)⟩, ⟨some 36, .fAddr 1 (t 3), some (35, true)⟩, ⟨some 37, .load 1 false (t 36), some (35, true)⟩, ⟨some 38, .pick (t 35) (t 37) (c (.bool false)), some (32, false)⟩, ⟨some 39, .mov (t 38), some (32, false)⟩, ⟨some 40, .fAddr 2 (t 3), some (39, true)⟩, ⟨some 41, .load 1 false (t 40), some (39, true)⟩, ⟨some 42, .un .not (t 41), some (39, true)⟩, ⟨some 43, .pick (t 39) (t 42) (c (.bool false)), some (32, false)⟩, o 44 (.pick (t 32) (c (.bool true)) (t 43))])
 (.cond (t 44) (.ops [o 45 (.load 6 true (t 3)), o 46 (.load 6 true (t 2)), w (.store 6 (t 2) (t 45)), w (.store 6 (t 3) (t 46))]) .skip))
 (.seq (.ops [o 8 (.alloc [(.bool false), (.bool false), (.bool false), (.sl 1 true []), (.int .i64 0), (.int .i64 0)])])
 (.seq (.ops [o 9 (.mov (c (.bool true)))])
 (.join (.seq (.ops [o 47 (.fAddr 3 (t 2)), o 48 (.load 1 false (t 47)), o 49 (.fAddr 3 (t 3)), o 50 (.load 1 false (t 49)), o 51 (.mkSl true 1 38 (.sl 1 true []) 2 [(0, (t 48)), (1, (t 50))]), o 52 (.icall (c (.fn 181 [] [])) [(t 51)]), o 10 (.mov (t 52))])
 (.block 0 (.seq (.ops [o 69 (.fAddr 1 (t 2)), o 70 (.load 1 false (t 69)), o 71 (.un .not (t 70)), o 68 (.mov (t 71))])
 (.cond (t 68) (.seq (.ops [o 72 (.fAddr 3 (t 2)), o 73 (.load 1 false (t 72)), o 74 (.lenSl (t 73)), o 75 (.mov (c (.int .i64 0)))])
 (.gh (.cell 8 150 3 1 9) (.block 1 (.loop (.seq (.ops [o 76 (.bin .lss (t 75) (t 74))])
 (.seq (.cond (t 76) .skip (.exit 1))
 (.seq (.block 2 (.seq (.ops [o 77 (.iAddrS 1 (t 73) (t 75)), o 78 (.load 1 false (t 77)), o 12 (.mov (t 78))])
 (.seq (.ops [o 79 (.load 6 true (t 3)), o 80 (.mov (t 12)), o 81 (.call false (c (.fn 104 [] [])) [(t 79), (t 80)])])
 (.cond (t 81) (.ops [o 82 (.fAddr 3 (t 8)), o 83 (.load 1 false (t 82)), o 84 (.mov (t 12)), o 85 (.mkSl false 1 9 (.str ⟨#[]⟩) 1 [(0, (t 84))]), o 86 (.app 1 9 16 (t 83) (t 85)), o 87 (.fAddr 3 (t 8)), w (.store 1 (t 87) (t 86))]) .skip))))
 (.ops [o 88 (.bin .add (t 75) (c (.int .i64 1))), o 75 (.mov (t 88))])))))))) (.seq (.ops [o 90 (.fAddr 2 (t 3)), o 91 (.load 1 false (t 90)), o 92 (.un .not (t 91)), o 89 (.mov (t 92))])
 (.cond (t 89) (.seq (.ops [o 93 (.mov (t 10)), o 94 (.call false (c (.fn 182 [] [])) [(t 93)]), o 95 (.build [(.bool false), (.bool false), (.bool false), (.sl 1 true []), (.int .i64 0), (.int .i64 0)] [(1, 1, (c (.bool true))), (3, 1, (t 94))]), w (.store 6 (t 8) (t 95))])
 (.ops [o 96 (.mov (t 10)), o 97 (.lenMap (t 96)), o 98 (.bin .leq (t 97) (c (.int .i64 64))), o 9 (.mov (t 98))])) (.seq (.ops [o 100 (.fAddr 2 (t 2)), o 101 (.load 1 false (t 100)), o 102 (.un .not (t 101)), o 99 (.mov (t 102))])
 (.cond (t 99) (.ops [o 104 (.fAddr 4 (t 3)), o 105 (.load 1 false (t 104)), o 106 (.fAddr 5 (t 3)), o 107 (.load 1 false (t 106)), o 108 (.mov (t 10)), o 109 (.icall (c (.fn 183 [] [])) [(t 105), (t 107), (t 108)]), o 103 (.mov (t 109)), o 110 (.ext 0 (t 103)), o 111 (.ext 1 (t 103)), w (.store 6 (t 8) (t 110)), o 9 (.mov (t 111))]) (.ops [o 54 (.fAddr 4 (t 2)), o 55 (.load 1 false (t 54)), o 56 (.fAddr 4 (t 3)), o 57 (.load 1 false (t 56)), o 58 (.mm true .i64 (t 55) [(t 57)]), o 59 (.fAddr 5 (t 2)), o 60 (.load 1 false (t 59)), o 61 (.fAddr 5 (t 3)), o 62 (.load 1 false (t 61)), o 63 (.mm false .i64 (t 60) [(t 62)]), o 64 (.mov (t 10)), o 65 (.icall (c (.fn 183 [] [])) [(t 58), (t 63), (t 64)]), o 53 (.mov (t 65)), o 66 (.ext 0 (t 53)), o 67 (.ext 1 (t 53)), w (.store 6 (t 8) (t 66)), o 9 (.mov (t 67))])))))))))
 (.seq (.seq (.ops [o 112 (.mov (t 9)), o 113 (.un .not (t 112))])
 (.cond (t 113) (.seq (.ops [o 114 (.build [(.bool false), (.bool false), (.bool false), (.sl 1 true []), (.int .i64 0), (.int .i64 0)] []), w (.store 6 (t 4) (t 114)), o 5 (.mov (c (.int .i64 3)))])
 .ret) .skip))
 (.seq (.ops [o 115 (.fAddr 0 (t 2)), o 116 (.load 1 false (t 115)), o 117 (.mov (t 116)), ⟨some 118, .fAddr 0 (t 3), some (117, true)⟩, ⟨some 119, .load 1 false (t 118), some (117, true)⟩, o 120 (.pick (t 117) (t 119) (c (.bool false))), o 121 (.fAddr 0 (t 8)), w (.store 1 (t 121) (t 120))])
 (.seq (.ops [o 122 (.load 6 true (t 8)), w (.store 6 (t 4) (t 122)), o 5 (.mov (c (.int .i64 0)))])
 .ret))))))))))⟩
def c95 : Func :=
⟨2, 126, [.cell 4 6 true, .tmp 5],
 (.seq (.ops [o 2 (.box (t 0)), o 3 (.box (t 1)), o 4 (.alloc [(.bool false), (.bool false), (.bool false), (.sl 1 true []), (.int .i64 0), (.int .i64 0)]), o 5 (.mov (c (.int .i64 0)))])
 (.seq (.ops [o 13 (.load 6 true (t 2)), o 14 (.call false (c (.fn 191 [] [])) [(t 13)]), o 6 (.mov (t 14))])
 (.seq (.seq (.ops [o 15 (.mov (t 6)), o 16 (.bin .neq (t 15) (c (.int .i64 0)))])
 (.cond (t 16) (.seq (.ops [o 17 (.build [(.bool false), (.bool false), (.bool false), (.sl 1 true []), (.int .i64 0), (.int .i64 0)] []), o 18 (.mov (t 6)), w (.store 6 (t 4) (t 17)), o 5 (.mov (t 18))])
 .ret) .skip))
 (.seq (.ops [o 19 (.load 6 true (t 3)), o 20 (.call false (c (.fn 191 [] [])) [(t 19)]), o 7 (.mov (t 20))])
 (.seq (.seq (.ops [o 21 (.mov (t 7)), o 22 (.bin .neq (t 21) (c (.int .i64 0)))])
 (.cond (t 22) (.seq (.ops [o 23 (.build [(.bool false), (.bool false), (.bool false), (.sl 1 true []), (.int .i64 0), (.int .i64 0)] []), o 24 (.mov (t 7)), w (.store 6 (t 4) (t 23)), o 5 (.mov (t 24))])
 .ret) .skip))
 (.seq (.ops [o 25 (.build [(.bool false), (.bool false), (.bool false), (.sl 1 true []), (.int .i64 0), (.int .i64 0)] []), o 8 (.alloc [(.bool false), (.bool false), (.bool false), (.sl 1 true []), (.int .i64 0), (.int .i64 0)]), w (.store 6 (t 8) (t 25))])
 (.seq (.ops [o 9 (.mov (c (.bool true)))])
 (.seq (.ops [o 10 (.mov (c (.sl 1 true [])))])
 (.seq (.ops [o 26 (.mov (t 10)), o 27 (.fAddr 3 (t 2)), o 28 (.load 1 false (t 27)), o 29 (.app 1 9 16 (t 26) (t 28)), o 10 (.mov (t 29))])
 (.seq (.ops [o 30 (.mov (t 10)), o 31 (.fAddr 3 (t 3)), o 32 (.load 1 false (t 31)), o 33 (.app 1 9 16 (t 30) (t 32)), o 10 (.mov (t 33))])
 (.seq (.ops [o 34 (.mov (t 10)), o 35 (.call false (c (.fn 189 [] [])) [(t 34)]), o 10 (.mov (t 35))])
 (.join (.block 0 (.seq (.ops [o 60 (.fAddr 1 (t 2)), o 61 (.load 1 false (t 60)), o 62 (.un .not (t 61)), o 59 (.mov (t 62))])
 (.cond (t 59) (.ops [o 63 (.fAddr 3 (t 2)), o 64 (.load 1 false (t 63)), o 65 (.load 6 true (t 3)), o 66 (.call false (c (.fn 192 [] [])) [(t 64), (t 65)]), w (.store 6 (t 8) (t 66))]) (.seq (.ops [o 68 (.fAddr 1 (t 3)), o 69 (.load 1 false (t 68)), o 70 (.un .not (t 69)), o 67 (.mov (t 70))])
 (.cond (t 67) (.ops [o 71 (.fAddr 3 (t 3)), o 72 (.load 1 false (t 71)), o 73 (.load 6 true (t 2)), o 74 (.call false (c (.fn 192 [] [])) [(t 72), (t 73)]), w (.store 6 (t 8) (t 74))]) (.seq (.ops [o 76 (.fAddr 2 (t 2)), o 77 (.load 1 false (t 76)), o 78 (.un .not (t 77)), o 79 (.mov (t 78)), ⟨some 80, .fAddr 2 (t 3), some (79, true)⟩, ⟨some 81, .load 1 false (t 80), some (79, true)⟩, ⟨some 82, .un .not (t 81), some (79, true)⟩, o 83 (.pick (t 79) (t 82) (c (.bool false))), o 75 (.mov (t 83))])
 (.cond (t 75) (.seq (.ops [o 84 (.mov (t 10)), o 85 (.build [(.bool false), (.bool false), (.bool false), (.sl 1 true []), (.int .i64 0), (.int .i64 0)] [(1, 1, (c (.bool true))), (3, 1, (t 84))]), w (.store 6 (t 8) (t 85))])
 (.ops [o 86 (.mov (t 10)), o 87 (.lenSl (t 86)), o 88 (.bin .leq (t 87) (c (.int .i64 64))), o 9 (.mov (t 88))])) (.seq (.ops [o 90 (.fAddr 2 (t 2)), o 91 (.load 1 false (t 90)), o 92 (.un .not (t 91)), o 89 (.mov (t 92))])
 (.cond (t 89) (.ops [o 94 (.fAddr 4 (t 3)), o 95 (.load 1 false (t 94)), o 96 (.fAddr 5 (t 3)), o 97 (.load 1 false (t 96)), o 98 (.mov (t 10)), o 99 (.call false (c (.fn 190 [] [])) [(t 95), (t 97), (t 98)]), o 93 (.mov (t 99)), o 100 (.ext 0 (t 93)), o 101 (.ext 1 (t 93)), w (.store 6 (t 8) (t 100)), o 9 (.mov (t 101))]) (.seq (.ops [o 103 (.fAddr 2 (t 3)), o 104 (.load 1 false (t 103)), o 105 (.un .not (t 104)), o 102 (.mov (t 105))])
 (.cond (t 102) (.ops [o 107 (.fAddr 4 (t 2)), o 108 (.load 1 false (t 107)), o 109 (.fAddr 5 (t 2)), o 110 (.load 1 false (t 109)), o 111 (.mov (t 10)), o 112 (.call false (c (.fn 190 [] [])) [(t 108), (t 110), (t 111)]), o 106 (.mov (t 112)), o 113 (.ext 0 (t 106)), o 114 (.ext 1 (t 106)), w (.store 6 (t 8) (t 113)), o 9 (.mov (t 114))]) (.seq (.ops [o 36 (.fAddr 4 (t 2)), o 37 (.load 1 false (t 36)), o 11 (.mov (t 37))])
 (.seq (.seq (.ops [o 38 (.fAddr 4 (t 3)), o 39 (.load 1 false (t 38)), o 40 (.mov (t 11)), o 41 (.bin .gtr (t 39) (t 40))])
 (.cond (t 41) (.ops [o 42 (.fAddr 4 (t 3)), o 43 (.load 1 false (t 42)), o 11 (.mov (t 43))]) .skip))
 (.seq (.ops [o 44 (.fAddr 5 (t 2)), o 45 (.load 1 false (t 44)), o 12 (.mov (t 45))])
 (.seq (.seq (.ops [o 46 (.fAddr 5 (t 3)), o 47 (.load 1 false (t 46)), o 48 (.mov (t 12)), o 49 (.bin .lss (t 47) (t 48))])
 (.cond (t 49) (.ops [o 50 (.fAddr 5 (t 3)), o 51 (.load 1 false (t 50)), o 12 (.mov (t 51))]) .skip))
 (.ops [o 53 (.mov (t 11)), o 54 (.mov (t 12)), o 55 (.mov (t 10)), o 56 (.call false (c (.fn 190 [] [])) [(t 53), (t 54), (t 55)]), o 52 (.mov (t 56)), o 57 (.ext 0 (t 52)), o 58 (.ext 1 (t 52)), w (.store 6 (t 8) (t 57)), o 9 (.mov (t 58))]))))))))))))))))
 (.seq (.seq (.ops [o 115 (.mov (t 9)), o 116 (.un .not (t 115))])
 (.cond (t 116) (.seq (.ops [o 117 (.build [(.bool false), (.bool false), (.bool false), (.sl 1 true []), (.int .i64 0), (.int .i64 0)] []), w (.store 6 (t 4) (t 117)), o 5 (.mov (c (.int .i64 3)))])
 .ret) .skip))
 (.seq (.ops [o 118 (.fAddr 0 (t 2)), o 119 (.load 1 false (t 118)), o 120 (.mov (t 119)), ⟨some 121, .fAddr 0 (t 3), some (120, true)⟩, ⟨some 122, .load 1 false (t 121), some (120, true)⟩, o 123 (.pick (t 120) (t 122) (c (.bool false))), o 124 (.fAddr 0 (t 8)), w (.store 1 (t 124) (t 123))])
 (.seq (.ops [o 125 (.load 6 true (t 8)), w (.store 6 (t 4) (t 125)), o 5 (.mov (c (.int .i64 0)))])
 .ret)))))))))))))))⟩
def c45 : Func :=
⟨2, 17, [.tmp 4],
 (.seq (.ops [o 2 (.box (t 0)), o 4 (.mov (c (.bool false)))])
 (.seq (.ops [o 5 (.load 6 true (t 2)), o 6 (.call false (c (.fn 103 [] [])) [(t 5)]), o 7 (.bin .eql (t 6) (c (.int .i64 0))), o 8 (.mov (t 7)), ⟨some 9, .mov (t 1), some (8, true)⟩, ⟨some 10, .call false (c (.fn 90 [] [])) [(t 9)], some (8, true)⟩, o 11 (.pick (t 8) (t 10) (c (.bool false))), o 12 (.mov (t 11)), ⟨some 13, .load 6 true (t 2), some (12, true)⟩, ⟨some 14, .mov (t 1), some (12, true)⟩, ⟨some 15, .call false (c (.fn 104 [] [])) [(t 13), (t 14)], some (12, true)⟩, o 16 (.pick (t 12) (t 15) (c (.bool false))), o 4 (.mov (t 16))])
 .ret))⟩
def c100 : Func :=
⟨1, 22, [.tmp 2],
 (.seq (.ops [o 1 (.box (t 0)), o 2 (.mov (c (.bool false)))])
 (.seq (.ops [o 3 (.load 6 true (t 1)), o 4 (.call false (c (.fn 103 [] [])) [(t 3)]), o 5 (.bin .eql (t 4) (c (.int .i64 0))), o 6 (.mov (t 5)), ⟨some 7, .fAddr 1 (t 1), some (6, true)⟩, ⟨some 8, .load 1 false (t 7), some (6, true)⟩, ⟨some 9, .un .not (t 8), some (6, true)⟩, o 10 (.pick (t 6) (t 9) (c (.bool false))), o 11 (.mov (t 10)), ⟨some 12, .fAddr 0 (t 1), some (11, true)⟩, ⟨some 13, .load 1 false (t 12), some (11, true)⟩, ⟨some 14, .un .not (t 13), some (11, true)⟩, o 15 (.pick (t 11) (t 14) (c (.bool false))), o 16 (.mov (t 15)), ⟨some 17, .fAddr 3 (t 1), some (16, true)⟩, ⟨some 18, .load 1 false (t 17), some (16, true)⟩, ⟨some 19, .lenSl (t 18), some (16, true)⟩, ⟨some 20, .bin .eql (t 19) (c (.int .i64 0)), some (16, true)⟩, o 21 (.pick (t 16) (t 20) (c (.bool false))), o 2 (.mov (t 21))])
 .ret))⟩
def c194 : Func :=
⟨2, 55, [.tmp 4],
 (.seq (.ops [o 2 (.box (t 0)), o 4 (.mov (c (.bool false)))])
 (.seq (.ops [o 10 (.load 6 true (t 2)), o 11 (.call false (c (.fn 191 [] [])) [(t 10)]), o 5 (.mov (t 11))])
 (.seq (.ops [o 12 (.mov (t 1)), o 13 (.call false (c (.fn 193 [] [])) [(t 12)]), o 6 (.mov (t 13))])
 (.seq (.seq (.ops [o 14 (.mov (t 5)), o 15 (.bin .neq (t 14) (c (.int .i64 0))), o 16 (.mov (t 15)), ⟨some 17, .mov (t 6), some (16, false)⟩, ⟨some 18, .un .not (t 17), some (16, false)⟩, o 19 (.pick (t 16) (c (.bool true)) (t 18))])
 (.cond (t 19) (.seq (.ops [o 4 (.mov (c (.bool false)))])
 .ret) .skip))
 (.seq (.ops [o 20 (.fAddr 3 (t 2)), o 21 (.load 1 false (t 20)), o 22 (.mov (t 1)), o 23 (.call false (c (.fn 229 [] [])) [(t 21), (t 22)]), o 7 (.mov (t 23))])
 (.seq (.seq (.ops [o 24 (.fAddr 1 (t 2)), o 25 (.load 1 false (t 24)), o 26 (.un .not (t 25))])
 (.cond (t 26) (.seq (.ops [o 27 (.mov (t 7)), o 4 (.mov (t 27))])
 .ret) .skip))
 (.seq (.ops [o 29 (.mov (t 1)), o 30 (.call false (c (.fn 232 [] [])) [(t 29)]), o 28 (.mov (t 30)), o 31 (.ext 0 (t 28)), o 32 (.ext 1 (t 28)), o 8 (.mov (t 31)), o 9 (.mov (t 32))])
 (.seq (.ops [o 33 (.mov (t 7)), o 34 (.un .not (t 33)), o 35 (.mov (t 34)), ⟨some 36, .fAddr 2 (t 2), some (35, true)⟩, ⟨some 37, .load 1 false (t 36), some (35, true)⟩, ⟨some 38, .un .not (t 37), some (35, true)⟩, ⟨some 39, .mov (t 38), some (35, true)⟩, ⟨some 40, .mov (t 9), some (39, false)⟩, ⟨some 41, .mov (t 40), some (39, false)⟩, ⟨some 42, .mov (t 8), some (41, true)⟩, ⟨some 43, .fAddr 4 (t 2), some (41, true)⟩, ⟨some 44, .load 1 false (t 43), some (41, true)⟩, ⟨some 45, .bin .geq (t 42) (t 44), some (41, true)⟩, ⟨some 46, .pick (t 41) (t 45) (c (.bool false)), some (39, false)⟩, ⟨some 47, .mov (t 46), some (39, false)⟩, ⟨some 48, .mov (t 8), some (47, true)⟩, ⟨some 49, .fAddr 5 (t 2), some (47, true)⟩, ⟨some 50, .load 1 false (t 49), some (47, true)⟩, ⟨some 51, .bin .leq (t 48) (t 50), some (47, true)⟩, ⟨some 52, .pick (t 47) (t 51) (c (.bool false)), some (39, false)⟩, ⟨some 53, .pick (t 39) (c (.bool true)) (t 52), some (35, true)⟩, o 54 (.pick (t 35) (t 53) (c (.bool false))), o 4 (.mov (t 54))])
 .ret))))))))⟩
def c101 : Func :=
⟨1, 24, [.tmp 2],
 (.seq (.ops [o 1 (.box (t 0)), o 2 (.mov (c (.bool false)))])
 (.seq (.ops [o 4 (.load 6 true (t 1)), o 5 (.call false (c (.fn 191 [] [])) [(t 4)]), o 3 (.mov (t 5))])
 (.seq (.ops [o 6 (.mov (t 3)), o 7 (.bin .eql (t 6) (c (.int .i64 0))), o 8 (.mov (t 7)), ⟨some 9, .fAddr 1 (t 1), some (8, true)⟩, ⟨some 10, .load 1 false (t 9), some (8, true)⟩, ⟨some 11, .un .not (t 10), some (8, true)⟩, o 12 (.pick (t 8) (t 11) (c (.bool false))), o 13 (.mov (t 12)), ⟨some 14, .fAddr 0 (t 1), some (13, true)⟩, ⟨some 15, .load 1 false (t 14), some (13, true)⟩, ⟨some 16, .un .not (t 15), some (13, true)⟩, o 17 (.pick (t 13) (t 16) (c (.bool false))), o 18 (.mov (t 17)), ⟨some 19, .fAddr 3 (t 1), some (18, true)⟩, ⟨some 20, .load 1 false (t 19), some (18, true)⟩, ⟨some 21, .lenSl (t 20), some (18, true)⟩, ⟨some 22, .bin .eql (t 21) (c (.int .i64 0)), some (18, true)⟩, o 23 (.pick (t 18) (t 22) (c (.bool false))), o 2 (.mov (t 23))])
 .ret)))⟩
def c213 : Func :=
⟨1, 73, [.tmp 2],
 (.seq (.ops [o 1 (.box (t 0)), o 2 (.mov (c (.int .i64 0)))])
 (.join (.ops [o 5 (.fAddr 1 (t 1)), o 6 (.load 1 false (t 5)), o 7 (.bin .eql (t 6) (c (.int .i64 1))), o 8 (.mov (t 7)), ⟨some 9, .fAddr 1 (t 1), some (8, false)⟩, ⟨some 10, .load 1 false (t 9), some (8, false)⟩, ⟨some 11, .bin .eql (t 10) (c (.int .i64 2)), some (8, false)⟩, o 12 (.pick (t 8) (c (.bool true)) (t 11)), o 3 (.mov (t 12))])
 (.join (.ops [o 13 (.fAddr 1 (t 1)), o 14 (.load 1 false (t 13)), o 15 (.bin .eql (t 14) (c (.int .i64 5))), o 16 (.mov (t 15)), ⟨some 17, .fAddr 1 (t 1), some (16, false)⟩, ⟨some 18, .load 1 false (t 17), some (16, false)⟩, ⟨some 19, .bin .eql (t 18) (c (.int .i64 6)), some (16, false)⟩, o 20 (.pick (t 16) (c (.bool true)) (t 19)), o 4 (.mov (t 20))])
 (.seq (.block 0 (.seq (.ops [o 22 (.fAddr 0 (t 1)), o 23 (.load 1 false (t 22)), o 24 (.call false (c (.fn 89 [] [])) [(t 23)]), o 25 (.un .not (t 24)), o 21 (.mov (t 25))])
 (.cond (t 21) (.seq (.ops [o 2 (.mov (c (.int .i64 7)))])
 .ret) (.join (.seq (.ops [o 27 (.fAddr 1 (t 1)), o 28 (.load 1 false (t 27)), o 29 (.bin .lss (t 28) (c (.int .i64 1))), o 30 (.mov (t 29)), ⟨some 31, .fAddr 1 (t 1), some (30, false)⟩, ⟨some 32, .load 1 false (t 31), some (30, false)⟩, ⟨some 33, .bin .gtr (t 32) (c (.int .i64 6)), some (30, false)⟩, o 34 (.pick (t 30) (c (.bool true)) (t 33)), o 26 (.mov (t 34))])
 (.cond (t 26) .skip (.seq (.ops [o 35 (.mov (t 3)), o 36 (.fAddr 2 (t 1)), o 37 (.load 1 false (t 36)), o 38 (.lenSl (t 37)), o 39 (.bin .gtr (t 38) (c (.int .i64 0))), o 40 (.eqb true (t 35) (t 39)), o 26 (.mov (t 40))])
 (.cond (t 26) .skip (.seq (.ops [o 41 (.mov (t 4)), o 42 (.un .not (t 41)), o 43 (.mov (t 42)), ⟨some 44, .fAddr 3 (t 1), some (43, true)⟩, ⟨some 45, .load 1 false (t 44), some (43, true)⟩, ⟨some 46, .bin .neq (t 45) (c (.int .i64 0)), some (43, true)⟩, o 47 (.pick (t 43) (t 46) (c (.bool false))), o 26 (.mov (t 47))])
 (.cond (t 26) .skip (.seq (.ops [o 48 (.fAddr 3 (t 1)), o 49 (.load 1 false (t 48)), o 50 (.bin .lss (t 49) (c (.int .i64 (-2147483648)))), o 26 (.mov (t 50))])
 (.cond (t 26) .skip (.ops [o 51 (.fAddr 3 (t 1)), o 52 (.load 1 false (t 51)), o 53 (.bin .gtr (t 52) (c (.int .i64 2147483648))), o 26 (.mov (t 53))])))))))))
 (.cond (t 26) (.seq (.ops [o 2 (.mov (c (.int .i64 30)))])
 .ret) (.seq (.ops [o 55 (.fAddr 2 (t 1)), o 56 (.load 1 false (t 55)), o 57 (.lenSl (t 56)), o 58 (.bin .gtr (t 57) (c (.int .i64 8))), o 54 (.mov (t 58))])
 (.cond (t 54) (.seq (.ops [o 2 (.mov (c (.int .i64 3)))])
 .ret) (.seq (.ops [o 60 (.fAddr 2 (t 1)), o 61 (.load 1 false (t 60)), o 62 (.call false (c (.fn 121 [] [])) [(t 61), (c (.fn 237 [] []))]), o 59 (.mov (t 62))])
 (.cond (t 59) (.seq (.ops [o 2 (.mov (c (.int .i64 20)))])
 .ret) (.seq (.ops [o 64 (.fAddr 2 (t 1)), o 65 (.load 1 false (t 64)), o 66 (.mkSl true 1 38 (.sl 1 true []) 1 [(0, (t 65))]), o 67 (.call true (c (.fn 181 [] [])) [(t 66)]), o 68 (.lenMap (t 67)), o 69 (.fAddr 2 (t 1)), o 70 (.load 1 false (t 69)), o 71 (.lenSl (t 70)), o 72 (.bin .lss (t 68) (t 71)), o 63 (.mov (t 72))])
 (.cond (t 63) (.seq (.ops [o 2 (.mov (c (.int .i64 6)))])
 .ret) .skip)))))))))))
 (.seq (.ops [o 2 (.mov (c (.int .i64 0)))])
 .ret)))))⟩
def c182 : Func :=
⟨1, 6, [.tmp 2],
 (.seq (.ops [o 2 (.mov (c (.sl 1 true [])))])
 (.seq (.ops [o 3 (.mov (t 0)), o 4 (.call false (c (.fn 215 [] [])) [(t 3)]), o 5 (.call false (c (.fn 214 [] [])) [(t 4)]), o 2 (.mov (t 5))])
 .ret))⟩
def c181 : Func :=
⟨1, 26, [.tmp 2],
 (.seq (.ops [o 2 (.mov (c .nilm))])
 (.seq (.ops [o 8 (.mkMap), o 3 (.mov (t 8))])
 (.seq (.seq (.ops [o 9 (.mov (t 0)), o 10 (.lenSl (t 9)), o 11 (.mov (c (.int .i64 0)))])
 (.block 0 (.loop (.seq (.ops [o 12 (.bin .lss (t 11) (t 10))])
 (.seq (.cond (t 12) .skip (.exit 0))
 (.seq (.block 1 (.seq (.ops [o 13 (.iAddrS 1 (t 9) (t 11)), o 14 (.load 1 false (t 13)), o 5 (.mov (t 14))])
 (.seq (.ops [o 15 (.mov (t 5)), o 16 (.lenSl (t 15)), o 17 (.mov (c (.int .i64 0)))])
 (.block 2 (.loop (.seq (.ops [o 18 (.bin .lss (t 17) (t 16))])
 (.seq (.cond (t 18) .skip (.exit 2))
 (.seq (.block 3 (.seq (.ops [o 19 (.iAddrS 1 (t 15) (t 17)), o 20 (.load 1 false (t 19)), o 7 (.mov (t 20))])
 (.ops [o 21 (.mov (t 3)), o 22 (.mov (t 7)), w (.mput (false, [(0, .str)]) (t 21) (t 22) (c (.bool true)))])))
 (.ops [o 23 (.bin .add (t 17) (c (.int .i64 1))), o 17 (.mov (t 23))])))))))))
 (.ops [o 24 (.bin .add (t 11) (c (.int .i64 1))), o 11 (.mov (t 24))])))))))
 (.seq (.ops [o 25 (.mov (t 3)), o 2 (.mov (t 25))])
 .ret))))⟩
def c183 : Func :=
⟨3, 95, [.cell 6 6 true, .tmp 7],
 (.seq (.ops [o 6 (.alloc [(.bool false), (.bool false), (.bool false), (.sl 1 true []), (.int .i64 0), (.int .i64 0)]), o 7 (.mov (c (.bool false)))])
 (.join (.block 0 (.loop (.seq (.seq (.ops [o 14 (.mov (t 0)), o 15 (.mov (t 1)), o 16 (.bin .leq (t 14) (t 15)), o 17 (.mov (t 16)), ⟨some 18, .mov (t 2), some (17, true)⟩, ⟨some 19, .mov (t 0), some (17, true)⟩, ⟨some 20, .call false (c (.fn 216 [] [])) [(t 19), (c (.int .i64 10))], some (17, true)⟩, ⟨some 21, .look (false, [(0, .str)]) (.bool false) false (t 18) (t 20), some (17, true)⟩, o 22 (.pick (t 17) (t 21) (c (.bool false)))])
 (.cond (t 22) .skip (.exit 0)))
 (.block 1 (.ops [o 23 (.mov (t 0)), o 24 (.bin .add (t 23) (c (.int .i64 1))), o 0 (.mov (t 24))])))))
 (.join (.block 2 (.loop (.seq (.seq (.ops [o 25 (.mov (t 0)), o 26 (.mov (t 1)), o 27 (.bin .leq (t 25) (t 26)), o 28 (.mov (t 27)), ⟨some 29, .mov (t 2), some (28, true)⟩, ⟨some 30, .mov (t 1), some (28, true)⟩, ⟨some 31, .call false (c (.fn 216 [] [])) [(t 30), (c (.int .i64 10))], some (28, true)⟩, ⟨some 32, .look (false, [(0, .str)]) (.bool false) false (t 29) (t 31), some (28, true)⟩, o 33 (.pick (t 28) (t 32) (c (.bool false)))])
 (.cond (t 33) .skip (.exit 2)))
 (.block 3 (.ops [o 34 (.mov (t 1)), o 35 (.bin .sub (t 34) (c (.int .i64 1))), o 1 (.mov (t 35))])))))
 (.join (.seq (.ops [o 36 (.mov (t 2)), o 37 (.mkIter (t 36))])
 (.block 4 (.loop (.seq (.ops [o 38 (.next (t 37)), o 39 (.ext 0 (t 38))])
 (.seq (.cond (t 39) .skip (.exit 4))
 (.block 5 (.seq (.ops [o 40 (.entry (t 37)), o 41 (.ext 0 (t 40)), o 8 (.mov (t 41))])
 (.seq (.ops [o 43 (.mov (t 8)), o 44 (.call false (c (.fn 187 [] [])) [(t 43)]), o 42 (.mov (t 44)), o 45 (.ext 0 (t 42)), o 46 (.ext 1 (t 42)), o 9 (.mov (t 45)), o 10 (.mov (t 46))])
 (.seq (.ops [o 47 (.mov (t 10)), o 48 (.un .not (t 47)), o 49 (.mov (t 48)), ⟨some 50, .mov (t 9), some (49, false)⟩, ⟨some 51, .mov (t 0), some (49, false)⟩, ⟨some 52, .bin .leq (t 50) (t 51), some (49, false)⟩, o 53 (.pick (t 49) (c (.bool true)) (t 52)), o 54 (.mov (t 53)), ⟨some 55, .mov (t 9), some (54, false)⟩, ⟨some 56, .mov (t 1), some (54, false)⟩, ⟨some 57, .bin .geq (t 55) (t 56), some (54, false)⟩, o 58 (.pick (t 54) (c (.bool true)) (t 57))])
 (.cond (t 58) (.ops [o 59 (.mov (t 2)), o 60 (.mov (t 8)), w (.mdel (false, [(0, .str)]) (t 59) (t 60))]) .skip))))))))))
 (.seq (.seq (.ops [o 61 (.mov (t 1)), o 62 (.mov (t 0)), o 63 (.bin .sub (t 61) (t 62)), o 64 (.bin .add (t 63) (c (.int .i64 1))), o 65 (.mov (t 2)), o 66 (.lenMap (t 65)), o 67 (.bin .sub (t 64) (t 66)), o 68 (.bin .gtr (t 67) (c (.int .i64 64)))])
 (.cond (t 68) (.seq (.ops [o 69 (.mov (t 2)), o 70 (.call false (c (.fn 182 [] [])) [(t 69)]), o 71 (.mov (t 0)), o 72 (.mov (t 1)), o 73 (.build [(.bool false), (.bool false), (.bool false), (.sl 1 true []), (.int .i64 0), (.int .i64 0)] [(1, 1, (c (.bool true))), (2, 1, (c (.bool true))), (3, 1, (t 70)), (4, 1, (t 71)), (5, 1, (t 72))]), o 74 (.mov (t 2)), o 75 (.lenMap (t 74)), o 76 (.bin .leq (t 75) (c (.int .i64 64))), w (.store 6 (t 6) (t 73)), o 7 (.mov (t 76))])
 .ret) .skip))
 (.seq (.ops [o 77 (.mkMap), o 11 (.mov (t 77))])
 (.seq (.seq (.ops [o 78 (.mov (t 0)), o 12 (.mov (t 78))])
 (.block 6 (.loop (.seq (.seq (.ops [o 79 (.mov (t 12)), o 80 (.mov (t 1)), o 81 (.bin .leq (t 79) (t 80))])
 (.cond (t 81) .skip (.exit 6)))
 (.seq (.block 7 (.seq (.ops [o 84 (.mov (t 12)), o 85 (.call false (c (.fn 216 [] [])) [(t 84), (c (.int .i64 10))]), o 13 (.mov (t 85))])
 (.seq (.ops [o 86 (.mov (t 2)), o 87 (.mov (t 13)), o 88 (.look (false, [(0, .str)]) (.bool false) false (t 86) (t 87)), o 89 (.un .not (t 88))])
 (.cond (t 89) (.ops [o 90 (.mov (t 11)), o 91 (.mov (t 13)), w (.mput (false, [(0, .str)]) (t 90) (t 91) (c (.bool true)))]) .skip))))
 (.ops [o 82 (.mov (t 12)), o 83 (.bin .add (t 82) (c (.int .i64 1))), o 12 (.mov (t 83))]))))))
 (.seq (.ops [o 92 (.mov (t 11)), o 93 (.call false (c (.fn 182 [] [])) [(t 92)]), o 94 (.build [(.bool false), (.bool false), (.bool false), (.sl 1 true []), (.int .i64 0), (.int .i64 0)] [(3, 1, (t 93))]), w (.store 6 (t 6) (t 94)), o 7 (.mov (c (.bool true)))])
 .ret))))))))⟩
def c231 : Func :=
⟨1, 29, [.tmp 2],
 (.seq (.ops [o 2 (.mov (c (.str ⟨#[]⟩)))])
 (.seq (.ops [o 3 (.mov (c (.str ⟨#[]⟩)))])
 (.seq (.ops [o 6 (.mov (t 0)), o 4 (.mov (t 6))])
 (.seq (.block 0 (.loop (.block 1 (.seq (.ops [o 7 (.mov (t 4)), o 8 (.bin .rem (t 7) (c (.int .i64 10))), o 5 (.mov (t 8))])
 (.seq (.seq (.ops [o 9 (.mov (t 5)), o 10 (.bin .lss (t 9) (c (.int .i64 0)))])
 (.cond (t 10) (.ops [o 11 (.mov (t 5)), o 12 (.un .neg (t 11)), o 5 (.mov (t 12))]) .skip))
 (.seq (.ops [o 13 (.mov (t 5)), o 14 (.bin .add (c (.int .i64 48)) (t 13)), o 15 (.cvInt .u8 (t 14)), o 16 (.mkSl false 1 5 (.int .u8 0) 1 [(0, (t 15))]), o 17 (.cvBS (t 16)), o 18 (.mov (t 3)), o 19 (.bin .add (t 17) (t 18)), o 3 (.mov (t 19))])
 (.seq (.ops [o 20 (.mov (t 4)), o 21 (.bin .quo (t 20) (c (.int .i64 10))), o 4 (.mov (t 21))])
 (.seq (.ops [o 22 (.mov (t 4)), o 23 (.bin .eql (t 22) (c (.int .i64 0)))])
 (.cond (t 23) (.exit 0) .skip)))))))))
 (.seq (.seq (.ops [o 24 (.mov (t 0)), o 25 (.bin .lss (t 24) (c (.int .i64 0)))])
 (.cond (t 25) (.seq (.ops [o 26 (.mov (t 3)), o 27 (.bin .add (c (.str ⟨#[45]⟩)) (t 26)), o 2 (.mov (t 27))])
 .ret) .skip))
 (.seq (.ops [o 28 (.mov (t 3)), o 2 (.mov (t 28))])
 .ret))))))⟩
def c188 : Func :=
⟨1, 103, [.tmp 2],
 (.seq (.ops [o 1 (.box (t 0)), o 2 (.mov (c (.int .i64 0)))])
 (.seq (.ops [o 10 (.fAddr 0 (t 1)), o 11 (.load 1 false (t 10)), o 12 (.call false (c (.fn 110 [] [])) [(t 11)]), o 3 (.mov (t 12))])
 (.seq (.seq (.ops [o 13 (.mov (t 3)), o 14 (.un .not (t 13))])
 (.cond (t 14) (.seq (.ops [o 2 (.mov (c (.int .i64 7)))])
 .ret) .skip))
 (.join (.ops [o 15 (.fAddr 1 (t 1)), o 16 (.load 1 false (t 15)), o 17 (.bin .eql (t 16) (c (.int .i64 1))), o 18 (.mov (t 17)), ⟨some 19, .fAddr 1 (t 1), some (18, false)⟩, ⟨some 20, .load 1 false (t 19), some (18, false)⟩, ⟨some 21, .bin .eql (t 20) (c (.int .i64 2)), some (18, false)⟩, o 22 (.pick (t 18) (c (.bool true)) (t 21)), o 4 (.mov (t 22))])
 (.join (.ops [o 23 (.fAddr 1 (t 1)), o 24 (.load 1 false (t 23)), o 25 (.bin .eql (t 24) (c (.int .i64 5))), o 26 (.mov (t 25)), ⟨some 27, .fAddr 1 (t 1), some (26, false)⟩, ⟨some 28, .load 1 false (t 27), some (26, false)⟩, ⟨some 29, .bin .eql (t 28) (c (.int .i64 6)), some (26, false)⟩, o 30 (.pick (t 26) (c (.bool true)) (t 29)), o 5 (.mov (t 30))])
 (.join (.seq (.ops [o 31 (.fAddr 1 (t 1)), o 32 (.load 1 false (t 31)), o 33 (.bin .lss (t 32) (c (.int .i64 1))), o 34 (.mov (t 33)), ⟨some 35, .fAddr 1 (t 1), some (34, false)⟩, ⟨some 36, .load 1 false (t 35), some (34, false)⟩, ⟨some 37, .bin .gtr (t 36) (c (.int .i64 6)), some (34, false)⟩, o 38 (.pick (t 34) (c (.bool true)) (t 37)), o 39 (.mov (t 38)), ⟨some 40, .mov (t 4), some (39, false)⟩, ⟨some 41, .fAddr 2 (t 1), some (39, false)⟩, ⟨some 42, .load 1 false (t 41), some (39, false)⟩, ⟨some 43, .lenSl (t 42), some (39, false)⟩, ⟨some 44, .bin .gtr (t 43) (c (.int .i64 0)), some (39, false)⟩, ⟨some 45, .eqb true (t 40) (t 44), some (39, false)⟩, o 46 (.pick (t 39) (c (.bool true)) (t 45)), o 47 (.mov (t 46)), ⟨some 48, .mov (t 5), some (47, false)⟩, ⟨some 49, .un .not (t 48), some (47, false)⟩, ⟨some 50, .mov (t 49), some (47, false)⟩, ⟨some 51, .fAddr 3 (t 1), some (50, true)⟩, ⟨some 52, .load 1 false (t 51), some (50, true)⟩, ⟨some 53, .bin .neq (t 52) (c (.int .i64 0)), some (50, true)⟩, ⟨some 54, .pick (t 50) (t 53) (c (.bool false)), some (47, false)⟩, o 55 (.pick (t 47) (c (.bool true)) (t 54)), o 56 (.mov (t 55)), ⟨some 57, .fAddr 3 (t 1), some (56, false)⟩, ⟨some 58, .load 1 false (t 57), some (56, false)⟩, ⟨some 59, .bin .lss (t 58) (c (.int .i64 (-2147483648))), some (56, false)⟩, o 60 (.pick (t 56) (c (.bool true)) (t 59)), o 61 (.mov (t 60)), ⟨some 62, .fAddr 3 (t 1), some (61, false)⟩, ⟨some 63, .load 1 false (t 62), some (61, false)⟩, ⟨some 64, .bin .gtr (t 63) (c (.int .i64 2147483648)), some (61, false)⟩, o 65 (.pick (t 61) (c (.bool true)) (t 64))])
 (.cond (t 65) (.seq (.ops [o 2 (.mov (c (.int .i64 30)))])
 .ret) .skip))
 (.seq (.seq (.ops [o 66 (.fAddr 2 (t 1)), o 67 (.load 1 false (t 66)), o 68 (.lenSl (t 67)), o 69 (.bin .gtr (t 68) (c (.int .i64 8)))])
 (.cond (t 69) (.seq (.ops [o 2 (.mov (c (.int .i64 3)))])
 .ret) .skip))
 (.seq (.seq (.ops [o 6 (.mov (c (.int .i64 0)))])
 (.block 0 (.loop (.seq (.seq (.ops [o 70 (.mov (t 6)), o 71 (.fAddr 2 (t 1)), o 72 (.load 1 false (t 71)), o 73 (.lenSl (t 72)), o 74 (.bin .lss (t 70) (t 73))])
 (.cond (t 74) .skip (.exit 0)))
 (.seq (.block 1 (.seq (.ops [o 77 (.fAddr 2 (t 1)), o 78 (.load 1 false (t 77)), o 79 (.mov (t 6)), o 80 (.iAddrS 1 (t 78) (t 79)), o 81 (.load 1 false (t 80)), o 82 (.call false (c (.fn 193 [] [])) [(t 81)]), o 7 (.mov (t 82))])
 (.seq (.ops [o 83 (.mov (t 7)), o 84 (.un .not (t 83))])
 (.cond (t 84) (.seq (.ops [o 2 (.mov (c (.int .i64 20)))])
 .ret) .skip))))
 (.ops [o 75 (.mov (t 6)), o 76 (.bin .add (t 75) (c (.int .i64 1))), o 6 (.mov (t 76))]))))))
 (.seq (.seq (.ops [o 8 (.mov (c (.int .i64 0)))])
 (.block 2 (.loop (.seq (.seq (.ops [o 85 (.mov (t 8)), o 86 (.fAddr 2 (t 1)), o 87 (.load 1 false (t 86)), o 88 (.lenSl (t 87)), o 89 (.bin .lss (t 85) (t 88))])
 (.cond (t 89) .skip (.exit 2)))
 (.seq (.block 3 (.seq (.ops [o 92 (.fAddr 2 (t 1)), o 93 (.load 1 false (t 92)), o 94 (.mov (t 8)), o 95 (.slc 1 (t 93) none (some (t 94))), o 96 (.fAddr 2 (t 1)), o 97 (.load 1 false (t 96)), o 98 (.mov (t 8)), o 99 (.iAddrS 1 (t 97) (t 98)), o 100 (.load 1 false (t 99)), o 101 (.call true (c (.fn 229 [] [])) [(t 95), (t 100)]), o 9 (.mov (t 101))])
 (.seq (.ops [o 102 (.mov (t 9))])
 (.cond (t 102) (.seq (.ops [o 2 (.mov (c (.int .i64 6)))])
 .ret) .skip))))
 (.ops [o 90 (.mov (t 8)), o 91 (.bin .add (t 90) (c (.int .i64 1))), o 8 (.mov (t 91))]))))))
 (.seq (.ops [o 2 (.mov (c (.int .i64 0)))])
 .ret))))))))))⟩
def c189 : Func :=
⟨1, 18, [.tmp 2],
 (.seq (.ops [o 2 (.mov (c (.sl 1 true [])))])
 (.seq (.ops [o 3 (.mov (c (.sl 1 true [])))])
 (.seq (.seq (.ops [o 4 (.mov (c (.int .i64 0)))])
 (.block 0 (.loop (.seq (.seq (.ops [o 5 (.mov (t 4)), o 6 (.mov (t 0)), o 7 (.lenSl (t 6)), o 8 (.bin .lss (t 5) (t 7))])
 (.cond (t 8) .skip (.exit 0)))
 (.seq (.block 1 (.ops [o 11 (.mov (t 3)), o 12 (.mov (t 0)), o 13 (.mov (t 4)), o 14 (.iAddrS 1 (t 12) (t 13)), o 15 (.load 1 false (t 14)), o 16 (.call false (c (.fn 230 [] [])) [(t 11), (t 15)]), o 3 (.mov (t 16))]))
 (.ops [o 9 (.mov (t 4)), o 10 (.bin .add (t 9) (c (.int .i64 1))), o 4 (.mov (t 10))]))))))
 (.seq (.ops [o 17 (.mov (t 3)), o 2 (.mov (t 17))])
 .ret))))⟩
def c190 : Func :=
⟨3, 109, [.cell 6 6 true, .tmp 7],
 (.seq (.ops [o 6 (.alloc [(.bool false), (.bool false), (.bool false), (.sl 1 true []), (.int .i64 0), (.int .i64 0)]), o 7 (.mov (c (.bool false)))])
 (.join (.block 0 (.loop (.seq (.seq (.ops [o 20 (.mov (t 0)), o 21 (.mov (t 1)), o 22 (.bin .leq (t 20) (t 21))])
 (.cond (t 22) .skip (.exit 0)))
 (.block 1 (.seq (.ops [o 23 (.mov (t 0)), o 24 (.call false (c (.fn 231 [] [])) [(t 23)]), o 8 (.mov (t 24))])
 (.seq (.ops [o 25 (.mov (t 2)), o 26 (.mov (t 8)), o 27 (.call false (c (.fn 229 [] [])) [(t 25), (t 26)]), o 9 (.mov (t 27))])
 (.seq (.seq (.ops [o 28 (.mov (t 9)), o 29 (.un .not (t 28))])
 (.cond (t 29) (.exit 0) .skip))
 (.ops [o 30 (.mov (t 0)), o 31 (.bin .add (t 30) (c (.int .i64 1))), o 0 (.mov (t 31))]))))))))
 (.join (.block 2 (.loop (.seq (.seq (.ops [o 32 (.mov (t 0)), o 33 (.mov (t 1)), o 34 (.bin .leq (t 32) (t 33))])
 (.cond (t 34) .skip (.exit 2)))
 (.block 3 (.seq (.ops [o 35 (.mov (t 1)), o 36 (.call false (c (.fn 231 [] [])) [(t 35)]), o 10 (.mov (t 36))])
 (.seq (.ops [o 37 (.mov (t 2)), o 38 (.mov (t 10)), o 39 (.call false (c (.fn 229 [] [])) [(t 37), (t 38)]), o 11 (.mov (t 39))])
 (.seq (.seq (.ops [o 40 (.mov (t 11)), o 41 (.un .not (t 40))])
 (.cond (t 41) (.exit 2) .skip))
 (.ops [o 42 (.mov (t 1)), o 43 (.bin .sub (t 42) (c (.int .i64 1))), o 1 (.mov (t 43))]))))))))
 (.seq (.ops [o 12 (.mov (c (.sl 1 true [])))])
 (.join (.seq (.ops [o 13 (.mov (c (.int .i64 0)))])
 (.block 4 (.loop (.seq (.seq (.ops [o 44 (.mov (t 13)), o 45 (.mov (t 2)), o 46 (.lenSl (t 45)), o 47 (.bin .lss (t 44) (t 46))])
 (.cond (t 47) .skip (.exit 4)))
 (.seq (.block 5 (.seq (.ops [o 51 (.mov (t 2)), o 52 (.mov (t 13)), o 53 (.iAddrS 1 (t 51) (t 52)), o 54 (.load 1 false (t 53)), o 55 (.call false (c (.fn 232 [] [])) [(t 54)]), o 50 (.mov (t 55)), o 56 (.ext 0 (t 50)), o 57 (.ext 1 (t 50)), o 14 (.mov (t 56)), o 15 (.mov (t 57))])
 (.seq (.ops [o 58 (.mov (t 15)), o 59 (.mov (t 58)), ⟨some 60, .mov (t 14), some (59, true)⟩, ⟨some 61, .mov (t 0), some (59, true)⟩, ⟨some 62, .bin .gtr (t 60) (t 61), some (59, true)⟩, o 63 (.pick (t 59) (t 62) (c (.bool false))), o 64 (.mov (t 63)), ⟨some 65, .mov (t 14), some (64, true)⟩, ⟨some 66, .mov (t 1), some (64, true)⟩, ⟨some 67, .bin .lss (t 65) (t 66), some (64, true)⟩, o 68 (.pick (t 64) (t 67) (c (.bool false)))])
 (.cond (t 68) (.ops [o 69 (.mov (t 12)), o 70 (.mov (t 2)), o 71 (.mov (t 13)), o 72 (.iAddrS 1 (t 70) (t 71)), o 73 (.load 1 false (t 72)), o 74 (.call false (c (.fn 230 [] [])) [(t 69), (t 73)]), o 12 (.mov (t 74))]) .skip))))
 (.ops [o 48 (.mov (t 13)), o 49 (.bin .add (t 48) (c (.int .i64 1))), o 13 (.mov (t 49))]))))))
 (.seq (.seq (.ops [o 75 (.mov (t 1)), o 76 (.mov (t 0)), o 77 (.bin .sub (t 75) (t 76)), o 78 (.bin .add (t 77) (c (.int .i64 1))), o 79 (.mov (t 12)), o 80 (.lenSl (t 79)), o 81 (.bin .sub (t 78) (t 80)), o 82 (.bin .leq (t 81) (c (.int .i64 64)))])
 (.cond (t 82) (.seq (.ops [o 16 (.mov (c (.sl 1 true [])))])
 (.seq (.seq (.ops [o 83 (.mov (t 0)), o 17 (.mov (t 83))])
 (.block 6 (.loop (.seq (.seq (.ops [o 84 (.mov (t 17)), o 85 (.mov (t 1)), o 86 (.bin .leq (t 84) (t 85))])
 (.cond (t 86) .skip (.exit 6)))
 (.seq (.block 7 (.seq (.ops [o 89 (.mov (t 17)), o 90 (.call false (c (.fn 231 [] [])) [(t 89)]), o 18 (.mov (t 90))])
 (.seq (.ops [o 91 (.mov (t 12)), o 92 (.mov (t 18)), o 93 (.call false (c (.fn 229 [] [])) [(t 91), (t 92)]), o 19 (.mov (t 93))])
 (.seq (.ops [o 94 (.mov (t 19)), o 95 (.un .not (t 94))])
 (.cond (t 95) (.ops [o 96 (.mov (t 16)), o 97 (.mov (t 18)), o 98 (.call false (c (.fn 230 [] [])) [(t 96), (t 97)]), o 16 (.mov (t 98))]) .skip)))))
 (.ops [o 87 (.mov (t 17)), o 88 (.bin .add (t 87) (c (.int .i64 1))), o 17 (.mov (t 88))]))))))
 (.seq (.ops [o 99 (.mov (t 16)), o 100 (.build [(.bool false), (.bool false), (.bool false), (.sl 1 true []), (.int .i64 0), (.int .i64 0)] [(3, 1, (t 99))]), w (.store 6 (t 6) (t 100)), o 7 (.mov (c (.bool true)))])
 .ret))) .skip))
 (.seq (.seq (.ops [o 101 (.mov (t 12)), o 102 (.lenSl (t 101)), o 103 (.bin .gtr (t 102) (c (.int .i64 64)))])
 (.cond (t 103) (.seq (.ops [o 104 (.build [(.bool false), (.bool false), (.bool false), (.sl 1 true []), (.int .i64 0), (.int .i64 0)] []), w (.store 6 (t 6) (t 104)), o 7 (.mov (c (.bool false)))])
 .ret) .skip))
 (.seq (.ops [o 105 (.mov (t 12)), o 106 (.mov (t 0)), o 107 (.mov (t 1)), o 108 (.build [(.bool false), (.bool false), (.bool false), (.sl 1 true []), (.int .i64 0), (.int .i64 0)] [(1, 1, (c (.bool true))), (2, 1, (c (.bool true))), (3, 1, (t 105)), (4, 1, (t 106)), (5, 1, (t 107))]), w (.store 6 (t 6) (t 108)), o 7 (.mov (c (.bool true)))])
 .ret))))))))⟩
def c39 : Func :=
⟨2, 66, [.tmp 4],
 (.seq (.ops [o 2 (.box (t 0)), o 3 (.box (t 1)), o 4 (.mov (c (.bool false)))])
 (.seq (.seq (.ops [o 6 (.fAddr 0 (t 2)), o 7 (.load 1 false (t 6)), o 8 (.fAddr 0 (t 3)), o 9 (.load 1 false (t 8)), o 10 (.eqb true (t 7) (t 9)), o 11 (.mov (t 10)), ⟨some 12, .fAddr 1 (t 2), some (11, false)⟩, ⟨some 13, .load 1 false (t 12), some (11, false)⟩, ⟨some 14, .fAddr 1 (t 3), some (11, false)⟩, ⟨some 15, .load 1 false (t 14), some (11, false)⟩, ⟨some 16, .eqb true (t 13) (t 15), some (11, false)⟩, o 17 (.pick (t 11) (c (.bool true)) (t 16)), o 18 (.mov (t 17)), ⟨some 19, .fAddr 2 (t 2), some (18, false)⟩, ⟨some 20, .load 1 false (t 19), some (18, false)⟩, ⟨some 21, .fAddr 2 (t 3), some (18, false)⟩, ⟨some 22, .load 1 false (t 21), some (18, false)⟩, ⟨some 23, .eqb true (t 20) (t 22), some (18, false)⟩, o 24 (.pick (t 18) (c (.bool true)) (t 23)), o 25 (.mov (t 24)), ⟨some 26, .fAddr 4 (t 2), some (25, false)⟩, ⟨some 27, .load 1 false (t 26), some (25, false)⟩, ⟨some 28, .fAddr 4 (t 3), some (25, false)⟩, ⟨some 29, .load 1 false (t 28), some (25, false)⟩, ⟨some 30, .bin .neq (t 27) (t 29), some (25, false)⟩, o 31 (.pick (t 25) (c (.bool true)) (t 30)), o 32 (.mov (t 31)), ⟨some 33, .fAddr 5 (t 2), some (32, false)⟩, ⟨some 34, .load 1 false (t 33), some (32, false)⟩, ⟨some 35, .fAddr 5 (t 3), some (32, false)⟩, ⟨some 36, .load 1 false (t 35), some (32, false)⟩, ⟨some 37, .bin .neq (t 34) (t 36), some (32, false)⟩, o 38 (.pick (t 32) (c (.bool true)) (t 37)), o 39 (.mov (t 38)), ⟨some 40, .fAddr 3 (t 2), some (39, false)⟩, ⟨some 41, .load 1 false (t 40), some (39, false)⟩, ⟨some 42, .lenSl (t 41), some (39, false)⟩, ⟨some 43, .fAddr 3 (t 3), some (39, false)⟩, ⟨some 44, .load 1 false (t 43), some (39, false)⟩, ⟨some 45, .lenSl (t 44), some (39, false)⟩, ⟨some 46, .bin .neq (t 42) (t 45), some (39, false)⟩, o 47 (.pick (t 39) (c (.bool true)) (t 46))])
 (.cond (t 47) (.seq (.ops [o 4 (.mov (c (.bool false)))])
 .ret) .skip))
 (.seq (.seq (.ops [o 5 (.mov (c (.int .i64 0)))])
 (.block 0 (.loop (.seq (.seq (.ops [o 48 (.mov (t 5)), o 49 (.fAddr 3 (t 2)), o 50 (.load 1 false (t 49)), o 51 (.lenSl (t 50)), o 52 (.bin .lss (t 48) (t 51))])
 (.cond (t 52) .skip (.exit 0)))
 (.seq (.block 1 (.seq (.ops [o 55 (.fAddr 3 (t 2)), o 56 (.load 1 false (t 55)), o 57 (.mov (t 5)), o 58 (.iAddrS 1 (t 56) (t 57)), o 59 (.load 1 false (t 58)), o 60 (.fAddr 3 (t 3)), o 61 (.load 1 false (t 60)), o 62 (.mov (t 5)), o 63 (.iAddrS 1 (t 61) (t 62)), o 64 (.load 1 false (t 63)), o 65 (.bin .neq (t 59) (t 64))])
 (.cond (t 65) (.seq (.ops [o 4 (.mov (c (.bool false)))])
 .ret) .skip)))
 (.ops [o 53 (.mov (t 5)), o 54 (.bin .add (t 53) (c (.int .i64 1))), o 5 (.mov (t 54))]))))))
 (.seq (.ops [o 4 (.mov (c (.bool true)))])
 .ret))))⟩
def c233 : Func :=
⟨1, 37, [.tmp 2],
 (.seq (.ops [o 2 (.mov (c (.bool false)))])
 (.seq (.seq (.ops [o 5 (.mov (t 0)), o 6 (.lenSl (t 5)), o 7 (.bin .gtr (t 6) (c (.int .i64 64)))])
 (.cond (t 7) (.seq (.ops [o 2 (.mov (c (.bool false)))])
 .ret) .skip))
 (.seq (.seq (.ops [o 3 (.mov (c (.int .i64 0)))])
 (.block 0 (.loop (.seq (.seq (.ops [o 8 (.mov (t 3)), o 9 (.mov (t 0)), o 10 (.lenSl (t 9)), o 11 (.bin .lss (t 8) (t 10))])
 (.cond (t 11) .skip (.exit 0)))
 (.seq (.block 1 (.seq (.ops [o 14 (.mov (t 0)), o 15 (.mov (t 3)), o 16 (.iAddrS 1 (t 14) (t 15)), o 17 (.load 1 false (t 16)), o 18 (.call false (c (.fn 193 [] [])) [(t 17)]), o 4 (.mov (t 18))])
 (.seq (.ops [o 19 (.mov (t 4)), o 20 (.un .not (t 19)), o 21 (.mov (t 20)), ⟨some 22, .mov (t 3), some (21, false)⟩, ⟨some 23, .bin .gtr (t 22) (c (.int .i64 0)), some (21, false)⟩, ⟨some 24, .mov (t 23), some (21, false)⟩, ⟨some 25, .mov (t 0), some (24, true)⟩, ⟨some 26, .mov (t 3), some (24, true)⟩, ⟨some 27, .bin .sub (t 26) (c (.int .i64 1)), some (24, true)⟩, ⟨some 28, .iAddrS 1 (t 25) (t 27), some (24, true)⟩, ⟨some 29, .load 1 false (t 28), some (24, true)⟩, ⟨some 30, .mov (t 0), some (24, true)⟩, ⟨some 31, .mov (t 3), some (24, true)⟩, ⟨some 32, .iAddrS 1 (t 30) (t 31), some (24, true)⟩, ⟨some 33, .load 1 false (t 32), some (24, true)⟩, ⟨some 34, .bin .geq (t 29) (t 33), some (24, true)⟩, ⟨some 35, .pick (t 24) (t 34) (c (.bool false)), some (21, false)⟩, o 36 (.pick (t 21) (c (.bool true)) (t 35))])
 (.cond (t 36) (.seq (.ops [o 2 (.mov (c (.bool false)))])
 .ret) .skip))))
 (.ops [o 12 (.mov (t 3)), o 13 (.bin .add (t 12) (c (.int .i64 1))), o 3 (.mov (t 13))]))))))
 (.seq (.ops [o 2 (.mov (c (.bool true)))])
 .ret))))⟩
def c104 : Func :=
⟨2, 37, [.tmp 4],
 (.seq (.ops [o 2 (.box (t 0)), o 4 (.mov (c (.bool false)))])
 (.seq (.ops [o 8 (.fAddr 3 (t 2)), o 9 (.load 1 false (t 8)), o 10 (.mov (t 1)), o 11 (.call false (c (.fn 197 [] [])) [(t 9), (t 10)]), o 5 (.mov (t 11))])
 (.seq (.seq (.ops [o 12 (.fAddr 1 (t 2)), o 13 (.load 1 false (t 12)), o 14 (.mov (t 5)), o 15 (.eqb true (t 13) (t 14))])
 (.cond (t 15) (.seq (.seq (.ops [o 16 (.fAddr 2 (t 2)), o 17 (.load 1 false (t 16)), o 18 (.un .not (t 17))])
 (.cond (t 18) (.seq (.ops [o 4 (.mov (c (.bool true)))])
 .ret) .skip))
 (.seq (.ops [o 20 (.mov (t 1)), o 21 (.call false (c (.fn 187 [] [])) [(t 20)]), o 19 (.mov (t 21)), o 22 (.ext 0 (t 19)), o 23 (.ext 1 (t 19)), o 6 (.mov (t 22)), o 7 (.mov (t 23))])
 (.seq (.ops [o 24 (.mov (t 7)), o 25 (.mov (t 24)), ⟨some 26, .mov (t 6), some (25, true)⟩, ⟨some 27, .fAddr 4 (t 2), some (25, true)⟩, ⟨some 28, .load 1 false (t 27), some (25, true)⟩, ⟨some 29, .bin .geq (t 26) (t 28), some (25, true)⟩, o 30 (.pick (t 25) (t 29) (c (.bool false))), o 31 (.mov (t 30)), ⟨some 32, .mov (t 6), some (31, true)⟩, ⟨some 33, .fAddr 5 (t 2), some (31, true)⟩, ⟨some 34, .load 1 false (t 33), some (31, true)⟩, ⟨some 35, .bin .leq (t 32) (t 34), some (31, true)⟩, o 36 (.pick (t 31) (t 35) (c (.bool false))), o 4 (.mov (t 36))])
 .ret))) .skip))
 (.seq (.ops [o 4 (.mov (c (.bool false)))])
 .ret))))⟩
def c192 : Func :=
⟨2, 32, [.cell 4 6 true],
 (.seq (.ops [o 3 (.box (t 1)), o 4 (.alloc [(.bool false), (.bool false), (.bool false), (.sl 1 true []), (.int .i64 0), (.int .i64 0)])])
 (.seq (.ops [o 8 (.build [(.bool false), (.bool false), (.bool false), (.sl 1 true []), (.int .i64 0), (.int .i64 0)] []), o 5 (.alloc [(.bool false), (.bool false), (.bool false), (.sl 1 true []), (.int .i64 0), (.int .i64 0)]), w (.store 6 (t 5) (t 8))])
 (.gh (.cell 5 99 3 1 9) (.seq (.seq (.ops [o 6 (.mov (c (.int .i64 0)))])
 (.block 0 (.loop (.seq (.seq (.ops [o 9 (.mov (t 6)), o 10 (.mov (t 0)), o 11 (.lenSl (t 10)), o 12 (.bin .lss (t 9) (t 11))])
 (.cond (t 12) .skip (.exit 0)))
 (.seq (.block 1 (.seq (.ops [o 15 (.load 6 true (t 3)), o 16 (.mov (t 0)), o 17 (.mov (t 6)), o 18 (.iAddrS 1 (t 16) (t 17)), o 19 (.load 1 false (t 18)), o 20 (.call true (c (.fn 194 [] [])) [(t 15), (t 19)]), o 7 (.mov (t 20))])
 (.seq (.ops [o 21 (.mov (t 7))])
 (.cond (t 21) (.ops [o 22 (.fAddrP 3 (t 5)), o 23 (.loadP 1 false (t 22)), o 24 (.mov (t 0)), o 25 (.mov (t 6)), o 26 (.iAddrS 1 (t 24) (t 25)), o 27 (.loadP 1 false (t 26)), o 28 (.mkSl true 1 9 (.str ⟨#[]⟩) 1 [(0, (t 27))]), o 29 (.appD 1 9 16 (t 23) (t 28)), o 30 (.fAddrP 3 (t 5)), w (.store 1 (t 30) (t 29))]) .skip))))
 (.ops [o 13 (.mov (t 6)), o 14 (.bin .add (t 13) (c (.int .i64 1))), o 6 (.mov (t 14))]))))))
 (.seq (.ops [o 31 (.load 6 true (t 5)), w (.store 6 (t 4) (t 31))])
 .ret)))))⟩
def c229 : Func :=
⟨2, 18, [.tmp 4],
 (.seq (.ops [o 4 (.mov (c (.bool false)))])
 (.seq (.seq (.ops [o 5 (.mov (c (.int .i64 0)))])
 (.block 0 (.loop (.seq (.seq (.ops [o 6 (.mov (t 5)), o 7 (.mov (t 0)), o 8 (.lenSl (t 7)), o 9 (.bin .lss (t 6) (t 8))])
 (.cond (t 9) .skip (.exit 0)))
 (.seq (.block 1 (.seq (.ops [o 12 (.mov (t 0)), o 13 (.mov (t 5)), o 14 (.iAddrS 1 (t 12) (t 13)), o 15 (.load 1 false (t 14)), o 16 (.mov (t 1)), o 17 (.bin .eql (t 15) (t 16))])
 (.cond (t 17) (.seq (.ops [o 4 (.mov (c (.bool true)))])
 .ret) .skip)))
 (.ops [o 10 (.mov (t 5)), o 11 (.bin .add (t 10) (c (.int .i64 1))), o 5 (.mov (t 11))]))))))
 (.seq (.ops [o 4 (.mov (c (.bool false)))])
 .ret)))⟩
def c121 : Func :=
⟨2, 9, [.tmp 4],
 (.seq (.ops [o 4 (.mov (c (.bool false)))])
 (.seq (.ops [o 5 (.mov (t 0)), o 6 (.mov (t 1)), o 7 (.call false (c (.fn 201 [] [])) [(t 5), (t 6)]), o 8 (.bin .geq (t 7) (c (.int .i64 0))), o 4 (.mov (t 8))])
 .ret))⟩
def c237 : Func :=
⟨1, 6, [.tmp 2],
 (.seq (.ops [o 2 (.mov (c (.bool false)))])
 (.seq (.ops [o 3 (.mov (t 0)), o 4 (.call false (c (.fn 90 [] [])) [(t 3)]), o 5 (.un .not (t 4)), o 2 (.mov (t 5))])
 .ret))⟩
def c230 : Func :=
⟨2, 48, [.tmp 4],
 (.seq (.ops [o 4 (.mov (c (.sl 1 true [])))])
 (.seq (.ops [o 5 (.mov (c (.int .i64 0)))])
 (.seq (.block 0 (.loop (.seq (.seq (.ops [o 7 (.mov (t 5)), o 8 (.mov (t 0)), o 9 (.lenSl (t 8)), o 10 (.bin .lss (t 7) (t 9)), o 11 (.mov (t 10)), ⟨some 12, .mov (t 0), some (11, true)⟩, ⟨some 13, .mov (t 5), some (11, true)⟩, ⟨some 14, .iAddrS 1 (t 12) (t 13), some (11, true)⟩, ⟨some 15, .load 1 false (t 14), some (11, true)⟩, ⟨some 16, .mov (t 1), some (11, true)⟩, ⟨some 17, .bin .lss (t 15) (t 16), some (11, true)⟩, o 18 (.pick (t 11) (t 17) (c (.bool false)))])
 (.cond (t 18) .skip (.exit 0)))
 (.block 1 (.ops [o 19 (.mov (t 5)), o 20 (.bin .add (t 19) (c (.int .i64 1))), o 5 (.mov (t 20))])))))
 (.seq (.seq (.ops [o 21 (.mov (t 5)), o 22 (.mov (t 0)), o 23 (.lenSl (t 22)), o 24 (.bin .lss (t 21) (t 23)), o 25 (.mov (t 24)), ⟨some 26, .mov (t 0), some (25, true)⟩, ⟨some 27, .mov (t 5), some (25, true)⟩, ⟨some 28, .iAddrS 1 (t 26) (t 27), some (25, true)⟩, ⟨some 29, .load 1 false (t 28), some (25, true)⟩, ⟨some 30, .mov (t 1), some (25, true)⟩, ⟨some 31, .bin .eql (t 29) (t 30), some (25, true)⟩, o 32 (.pick (t 25) (t 31) (c (.bool false)))])
 (.cond (t 32) (.seq (.ops [o 33 (.mov (t 0)), o 4 (.mov (t 33))])
 .ret) .skip))
 (.seq (.ops [o 6 (.mov (c (.sl 1 true [])))])
 (.seq (.ops [o 34 (.mov (t 6)), o 35 (.mov (t 0)), o 36 (.mov (t 5)), o 37 (.slc 1 (t 35) none (some (t 36))), o 38 (.app 1 9 16 (t 34) (t 37)), o 6 (.mov (t 38))])
 (.seq (.ops [o 39 (.mov (t 6)), o 40 (.mov (t 1)), o 41 (.mkSl false 1 9 (.str ⟨#[]⟩) 1 [(0, (t 40))]), o 42 (.app 1 9 16 (t 39) (t 41)), o 6 (.mov (t 42))])
 (.seq (.ops [o 43 (.mov (t 6)), o 44 (.mov (t 0)), o 45 (.mov (t 5)), o 46 (.slc 1 (t 44) (some (t 45)) none), o 47 (.app 1 9 16 (t 43) (t 46)), o 4 (.mov (t 47))])
 .ret))))))))⟩
def c197 : Func :=
⟨2, 9, [.tmp 4],
 (.seq (.ops [o 4 (.mov (c (.bool false)))])
 (.seq (.ops [o 5 (.mov (t 0)), o 6 (.mov (t 1)), o 7 (.call false (c (.fn 234 [] [])) [(t 5), (t 6)]), o 8 (.bin .geq (t 7) (c (.int .i64 0))), o 4 (.mov (t 8))])
 .ret))⟩
def c201 : Func :=
⟨2, 19, [.tmp 4],
 (.seq (.ops [o 4 (.mov (c (.int .i64 0)))])
 (.seq (.seq (.ops [o 6 (.mov (t 0)), o 7 (.lenSl (t 6)), o 8 (.mov (c (.int .i64 0)))])
 (.block 0 (.loop (.seq (.ops [o 9 (.bin .lss (t 8) (t 7))])
 (.seq (.cond (t 9) .skip (.exit 0))
 (.seq (.block 1 (.seq (.ops [o 10 (.mov (t 8)), o 5 (.mov (t 10))])
 (.seq (.ops [o 11 (.mov (t 1)), o 12 (.mov (t 0)), o 13 (.mov (t 5)), o 14 (.iAddrS 1 (t 12) (t 13)), o 15 (.load 1 false (t 14)), o 16 (.call false (t 11) [(t 15)])])
 (.cond (t 16) (.seq (.ops [o 17 (.mov (t 5)), o 4 (.mov (t 17))])
 .ret) .skip))))
 (.ops [o 18 (.bin .add (t 8) (c (.int .i64 1))), o 8 (.mov (t 18))])))))))
 (.seq (.ops [o 4 (.mov (c (.int .i64 (-1))))])
 .ret)))⟩
def c234 : Func :=
⟨2, 19, [.tmp 4],
 (.seq (.ops [o 4 (.mov (c (.int .i64 0)))])
 (.seq (.seq (.ops [o 6 (.mov (t 0)), o 7 (.lenSl (t 6)), o 8 (.mov (c (.int .i64 0)))])
 (.block 0 (.loop (.seq (.ops [o 9 (.bin .lss (t 8) (t 7))])
 (.seq (.cond (t 9) .skip (.exit 0))
 (.seq (.block 1 (.seq (.ops [o 10 (.mov (t 8)), o 5 (.mov (t 10))])
 (.seq (.ops [o 11 (.mov (t 1)), o 12 (.mov (t 0)), o 13 (.mov (t 5)), o 14 (.iAddrS 1 (t 12) (t 13)), o 15 (.load 1 false (t 14)), o 16 (.bin .eql (t 11) (t 15))])
 (.cond (t 16) (.seq (.ops [o 17 (.mov (t 5)), o 4 (.mov (t 17))])
 .ret) .skip))))
 (.ops [o 18 (.bin .add (t 8) (c (.int .i64 1))), o 8 (.mov (t 18))])))))))
 (.seq (.ops [o 4 (.mov (c (.int .i64 (-1))))])
 .ret)))⟩
end Go.Proofs.AM
namespace Go.Proofs.AM
open Go Go.Lib Cd
theorem dec_len {n : Int} (h : FI n) : (decDigits n.natAbs).length ≤ 19 := by
  have := decDigits_le 18 n.natAbs (by have : (10 : Nat) ^ 19 = 10000000000000000000 := by decide
                                       unfold FI at h
                                       omega)
  omega
theorem tdiv10 (q : Int) : (0 ≤ q → q.tdiv 10 = q / 10) ∧ (q < 0 → q.tdiv 10 = -((-q) / 10)) := by
  refine ⟨fun h => Int.tdiv_eq_ediv_of_nonneg h, fun h => ?_⟩
  have h1 : (-q).tdiv 10 = (-q) / 10 := Int.tdiv_eq_ediv_of_nonneg (by omega)
  rw [Int.neg_tdiv] at h1
  omega
theorem tmod10 (q : Int) : (0 ≤ q → q.tmod 10 = q % 10) ∧ (q < 0 → q.tmod 10 = -((-q) % 10)) := by
  refine ⟨fun h => Int.tmod_eq_emod_of_nonneg h, fun h => ?_⟩
  have h1 : (-q).tmod 10 = (-q) % 10 := Int.tmod_eq_emod_of_nonneg (by omega)
  rw [Int.neg_tmod] at h1
  omega
theorem decimal37_ok (R : Ans) (n0 : Int) (hn0 : FI n0) : AnsF R c231 [.int .i64 n0] (mkS (itoa n0)) := by
  obtain ⟨r, hr⟩ : ∃ r, r = itoa n0 := ⟨_, rfl⟩
  rw [← hr]
  have hd := dec_len hn0
  unfold FI at hn0
  refine wpF_sound ⟨rfl, by decide⟩ fun O hO V hV => ?_
  conv => cbv
  refine loop_of (fun c d => ∃ (q : Int) (acc : Str), d = ⟨[(0, .int .i64 n0), (3, mkS acc), (4, .int .i64 q)], [], false⟩ ∧ (-9223372036854775808 ≤ q ∧ q ≤ 9223372036854775807) ∧ c = q.natAbs + 1 ∧ decDigits n0.natAbs = decDigits q.natAbs ++ acc) ⟨_, _, ⟨_, [], rfl, hn0, rfl, by simp⟩, ⟨⟨rfl, rfl, rfl, trivial⟩, trivial, rfl⟩⟩ ?_
  rintro J up c d ⟨q, acc, rfl, hq, rfl, hacc⟩
  have key : ∀ (e : Int), e = ((q.natAbs % 10 : Nat) : Int) → (∃ l : Str, strOf [.int .u8 (O .wrap .u8 (O .iop .add .i64 48 e))] = some l ∧ l = [UInt8.ofNat (48 + q.natAbs % 10)]) := by
    intro e he
    rw [o_add64 hO (by omega) (by omega), o_wrap hO, wrap_u8 (by omega) (by omega)]
    refine ⟨_, ?_, rfl⟩
    unfold strOf
    rw [if_pos (by omega)]
    simp only [strOf, Option.map_some]
    rw [show (48 + e).toNat = 48 + q.natAbs % 10 by omega]
  have hsl : acc.length ≤ 19 := by have := congrArg List.length hacc; simp at this; omega
  have hcat : O .cat ⟨[UInt8.ofNat (48 + q.natAbs % 10)].toArray⟩ ⟨⟨acc⟩⟩ = ⟨⟨UInt8.ofNat (48 + q.natAbs % 10) :: acc⟩⟩ := o_cat hO [_] acc
  have hlen1 : O .slen ⟨[UInt8.ofNat (48 + q.natAbs % 10)].toArray⟩ = 1 := o_slen hO [_]
  have hlen2 : O .slen ⟨⟨acc⟩⟩ = acc.length := o_slen hO acc
  obtain ⟨td1, td2⟩ := tdiv10 q
  obtain ⟨tm1, tm2⟩ := tmod10 q
  have hrem : O .iop .rem .i64 q 10 = q.tmod 10 := o_rem hO _ _ _ (by decide)
  have hquo : O .iop .quo .i64 q 10 = q.tdiv 10 := by
    rw [o_quo hO _ _ _ (by decide), wrap_i64 (by omega) (by omega)]
  have hneg : O .neg .neg .i64 (q.tmod 10) = - q.tmod 10 := by rw [o_neg hO, wrap_i64 (by omega) (by omega)]; omega
  have fin0 : q.tdiv 10 = 0 → UInt8.ofNat (48 + q.natAbs % 10) :: acc = decDigits n0.natAbs := by
    intro h
    rw [hacc, decDigits_small (by omega)]
    rw [show q.natAbs % 10 = q.natAbs by omega]
    rfl
  have fin1 : q.tdiv 10 ≠ 0 → decDigits n0.natAbs = decDigits (q.tdiv 10).natAbs ++ (UInt8.ofNat (48 + q.natAbs % 10) :: acc) := by
    intro h
    rw [hacc, decDigits_big (u := q.natAbs) (by omega)]
    rw [show (q.tdiv 10).natAbs = q.natAbs / 10 by omega]
    simp
  obtain ⟨ds, hds⟩ : ∃ ds : Str, ds = [UInt8.ofNat (48 + q.natAbs % 10)] := ⟨_, rfl⟩
  obtain ⟨acc', hacc'⟩ : ∃ acc' : Str, acc' = UInt8.ofNat (48 + q.natAbs % 10) :: acc := ⟨_, rfl⟩
  rw [← hacc'] at fin0 fin1 hcat
  have hl' : acc'.length ≤ 20 := by rw [hacc']; simp; omega
  rw [← hds] at hcat hlen1
  conv => cbv
  rw [hrem]
  have rest : ∀ e : Int, e = ((q.natAbs % 10 : Nat) : Int) → ∃ l : Str, strOf [.int .u8 (O .wrap .u8 (O .iop .add .i64 48 e))] = some l ∧ l = ds := by
    intro e he; obtain ⟨l, h1, h2⟩ := key e he; exact ⟨l, h1, by rw [h2, hds]⟩
  obtain ⟨e0, he0⟩ : ∃ e0 : Int, e0 = q.tmod 10 := ⟨_, rfl⟩
  rw [← he0] at hneg ⊢
  conv => cbv
  rintro (_ | _) h1
  · replace h1 := f_lss hO h1
    obtain ⟨l, hl1, rfl⟩ := rest e0 (by omega)
    conv => cbv
    intro g
    conv => cbv
    refine ⟨_, hl1, ?_⟩
    conv => cbv
    refine ⟨⟨by rw [hlen1, hlen2]; omega⟩, ?_⟩
    rw [hcat]
    conv => cbv
    rw [hquo]
    obtain ⟨q', hq'⟩ : ∃ q' : Int, q' = q.tdiv 10 := ⟨_, rfl⟩
    rw [← hq'] at fin0 fin1 ⊢
    conv => cbv
    rintro (_ | _) h2
    · replace h2 := f_eql hO h2
      conv => cbv
      exact ⟨_, _, up _ _ ⟨q', acc', rfl, by omega, rfl, fin1 h2⟩, ⟨⟨rfl, rfl, rfl, trivial⟩, trivial, rfl⟩, by omega⟩
    · replace h2 := t_eql hO h2
      have hf := fin0 h2
      conv => cbv
      rintro (_ | _) h3
      · replace h3 := f_lss hO h3
        conv => cbv
        rw [hr, hf, itoa_pos' h3]
      · replace h3 := t_lss hO h3
        have hc2 : O .cat ⟨#[45]⟩ ⟨⟨acc'⟩⟩ = ⟨⟨45 :: acc'⟩⟩ := o_cat hO [45] acc'
        have hl3 : O .slen ⟨#[45]⟩ = 1 := o_slen hO [45]
        have hl4 : O .slen ⟨⟨acc'⟩⟩ = acc'.length := o_slen hO acc'
        conv => cbv
        refine ⟨⟨by rw [hl3, hl4]; omega⟩, ?_⟩
        rw [hc2]
        conv => cbv
        rw [hr, hf, itoa_neg' h3]
  · replace h1 := t_lss hO h1
    conv => cbv
    rw [hneg]
    obtain ⟨e1, he1⟩ : ∃ e1 : Int, e1 = -e0 := ⟨_, rfl⟩
    rw [← he1]
    obtain ⟨l, hl1, rfl⟩ := rest e1 (by omega)
    conv => cbv
    intro g
    conv => cbv
    refine ⟨_, hl1, ?_⟩
    conv => cbv
    refine ⟨⟨by rw [hlen1, hlen2]; omega⟩, ?_⟩
    rw [hcat]
    conv => cbv
    rw [hquo]
    obtain ⟨q', hq'⟩ : ∃ q' : Int, q' = q.tdiv 10 := ⟨_, rfl⟩
    rw [← hq'] at fin0 fin1 ⊢
    conv => cbv
    rintro (_ | _) h2
    · replace h2 := f_eql hO h2
      conv => cbv
      exact ⟨_, _, up _ _ ⟨q', acc', rfl, by omega, rfl, fin1 h2⟩, ⟨⟨rfl, rfl, rfl, trivial⟩, trivial, rfl⟩, by omega⟩
    · replace h2 := t_eql hO h2
      have hf := fin0 h2
      conv => cbv
      rintro (_ | _) h3
      · replace h3 := f_lss hO h3
        conv => cbv
        rw [hr, hf, itoa_pos' h3]
      · replace h3 := t_lss hO h3
        have hc2 : O .cat ⟨#[45]⟩ ⟨⟨acc'⟩⟩ = ⟨⟨45 :: acc'⟩⟩ := o_cat hO [45] acc'
        have hl3 : O .slen ⟨#[45]⟩ = 1 := o_slen hO [45]
        have hl4 : O .slen ⟨⟨acc'⟩⟩ = acc'.length := o_slen hO acc'
        conv => cbv
        refine ⟨⟨by rw [hl3, hl4]; omega⟩, ?_⟩
        rw [hc2]
        conv => cbv
        rw [hr, hf, itoa_neg' h3]
end Go.Proofs.AM
namespace Go.Proofs.AM
open Go Go.Lib Cd
def NumR (s : Str) (v : Int) (b : Bool) : Prop := (b = true ∧ numS s = some v) ∨ (b = false ∧ v = 0 ∧ numS s = none)
theorem numS_none_len {s : Str} (h : 11 < s.length) : numS s = none := by
  cases hn : numS s with
  | none => rfl
  | some n => have := numS_len hn; omega
theorem NumR.ex (s : Str) : ∃ v b, NumR s v b := by
  cases h : numS s with
  | none => exact ⟨0, false, .inr ⟨rfl, rfl, h⟩⟩
  | some n => exact ⟨n, true, .inl ⟨rfl, h⟩⟩
theorem NumR.fi {s : Str} {v : Int} {b : Bool} (h : NumR s v b) : least ≤ v ∧ v ≤ most := by
  rcases h with ⟨_, h⟩ | ⟨_, h, _⟩
  · exact (numS_iff.1 h).2
  · subst h; decide
theorem NumR.of {s : Str} {v n : Int} {b : Bool} (h : NumR s v b) (hn : numS s = some n) : b = true ∧ v = n := by
  rcases h with ⟨h1, h2⟩ | ⟨_, _, h2⟩
  · rw [h2] at hn; simp only [Option.some.injEq] at hn; exact ⟨h1, hn⟩
  · rw [h2] at hn; simp at hn
theorem NumR.none {s : Str} {v : Int} {b : Bool} (h : NumR s v b) (hn : numS s = none) : b = false ∧ v = 0 := by
  rcases h with ⟨_, h2⟩ | ⟨h1, h2, _⟩
  · rw [h2] at hn; simp at hn
  · exact ⟨h1, h2⟩
theorem dig_lt : ∀ (l : Str), l.foldl digv 0 < 10 ^ l.length := by
  have key : ∀ (l : Str) (a : Nat), l.foldl digv a < (a + 1) * 10 ^ l.length := by
    intro l
    induction l with
    | nil => intro a; simp
    | cons c r ih =>
      intro a
      rw [List.foldl_cons, List.length_cons]
      refine Nat.lt_of_lt_of_le (ih (digv a c)) ?_
      rw [Nat.pow_succ, Nat.mul_comm (10 ^ r.length) 10, ← Nat.mul_assoc]
      refine Nat.mul_le_mul_right _ ?_
      unfold digv
      split <;> omega
  intro l
  have := key l 0
  simpa using this
set_option maxHeartbeats 2000000 in
theorem number15_ok (R : Ans) (h37 : ∀ n, FI n → R.v 231 [.int .i64 n] (mkS (itoa n))) (s : Str) (hs : SL s) (v : Int) (b : Bool) (hvb : NumR s v b) : AnsF R c232 [mkS s] (.tup [.int .i64 v, .bool b]) := by
  unfold SL at hs
  refine wpF_sound ⟨rfl, by decide⟩ fun O hO V hV => ?_
  subst hV
  conv => cbv
  rintro (_ | _) h1
  · replace h1 := f_gtr hO h1
    rw [o_slen hO] at h1
    have h11 : s.length ≤ 11 := by omega
    conv => cbv
    refine loop_of (fun c d => ∃ (i a : Int) (k : Nat), d = ⟨[(0, mkS s), (4, .int .i64 a), (5, .int .i64 i)], [], false⟩ ∧ i = k ∧ k ≤ s.length ∧ c = s.length - k ∧ a = ((s.take k).foldl digv 0 : Nat)) ⟨_, _, ⟨_, _, 0, rfl, rfl, by omega, rfl, by simp⟩, ⟨⟨rfl, rfl, rfl, trivial⟩, trivial, rfl⟩⟩ ?_
    rintro J up c d ⟨i, a, k, rfl, hi, hk, rfl, ha⟩
    have hbound : (s.take k).foldl digv 0 < 100000000000 := by
      have h2 := dig_lt (s.take k)
      have h3 : (10 : Nat) ^ (s.take k).length ≤ 10 ^ 11 := Nat.pow_le_pow_right (by decide) (by simp; omega)
      have : (10 : Nat) ^ 11 = 100000000000 := by decide
      omega
    conv => cbv
    rintro (_ | _) h2
    · replace h2 := f_lss hO h2
      rw [o_slen hO] at h2
      have hk2 : s.take k = s := List.take_of_length_le (by omega)
      rw [hk2] at ha hbound
      have fin : ∀ n : Int, n = valS s → (∀ g : Int, g = n → FI g) ∧ (itoa n ≠ s → NumR s 0 false) ∧ (n < least → NumR s 0 false) ∧ (most < n → NumR s 0 false) ∧ (itoa n = s → least ≤ n → n ≤ most → NumR s n true) := by
        intro n hn
        subst hn
        have hb : -100000000000 < valS s ∧ valS s < 100000000000 := by unfold valS dig; split <;> omega
        refine ⟨fun g hg => by unfold FI; omega, fun h => .inr ⟨rfl, rfl, ?_⟩, fun h => .inr ⟨rfl, rfl, ?_⟩, fun h => .inr ⟨rfl, rfl, ?_⟩, fun h3 h4 h5 => .inl ⟨rfl, ?_⟩⟩
        · unfold numS; rw [if_neg (fun hc => h hc.1)]
        · unfold numS; rw [if_neg (fun hc => by omega)]
        · unfold numS; rw [if_neg (fun hc => by omega)]
        · unfold numS; rw [if_pos ⟨h3, h4, h5⟩]
      have same : ∀ v' b', NumR s v' b' → v = v' ∧ b = b' := by
        intro v' b' h
        rcases h with ⟨h4, h5⟩ | ⟨h4, h5, h6⟩
        · obtain ⟨h7, h8⟩ := hvb.of h5; exact ⟨h8, by rw [h7, h4]⟩
        · obtain ⟨h7, h8⟩ := hvb.none h6; exact ⟨by rw [h8, h5], by rw [h7, h4]⟩
      conv => cbv
      have br : ∀ x : Int, x = valS s → ∃ z : Str, V.v 231 [.int .i64 x] (.str ⟨⟨z⟩⟩) ∧ z = itoa x := fun x hx => ⟨_, h37 x ((fin x hx).1 x rfl), rfl⟩
      rintro (_ | _) h3
      · replace h3 := f_gtr hO h3
        rw [o_slen hO] at h3
        conv => cbv
        have hs0 : s = [] := List.length_eq_zero_iff.1 (by omega)
        obtain ⟨n, hn⟩ : ∃ n : Int, n = a := ⟨_, rfl⟩
        have hnv : n = valS s := by rw [hn, ha, hs0]; rfl
        rw [← hn]
        clear hn
        obtain ⟨z, hz, hzi⟩ := br n hnv
        obtain ⟨_, f1, f2, f3, f4⟩ := fin n hnv
        refine ⟨_, hz, ?_⟩
        conv => cbv
        rintro (_ | _) h5
        · replace h5 : z = s := f_sneq hO h5
          conv => cbv
          rintro (_ | _) h6
          · replace h6 := f_lss hO h6
            conv => cbv
            rintro (_ | _) h7
            · replace h7 := f_gtr hO h7
              conv => cbv
              obtain ⟨e1, e2⟩ := same _ _ (f4 (by rw [← hzi]; exact h5) (by unfold least; omega) (by unfold most; omega))
              rw [e1, e2]
            · replace h7 := t_gtr hO h7
              conv => cbv
              obtain ⟨e1, e2⟩ := same _ _ (f3 (by unfold most; omega))
              rw [e1, e2]
          · replace h6 := t_lss hO h6
            conv => cbv
            obtain ⟨e1, e2⟩ := same _ _ (f2 (by unfold least; omega))
            rw [e1, e2]
        · replace h5 : z ≠ s := t_sneq hO h5
          conv => cbv
          obtain ⟨e1, e2⟩ := same _ _ (f1 (by rw [← hzi]; exact h5))
          rw [e1, e2]
      · replace h3 := t_gtr hO h3
        rw [o_slen hO] at h3
        conv => cbv
        obtain ⟨c0, hc0⟩ : ∃ c, s[0]? = some c := ⟨_, List.getElem?_eq_getElem (by omega)⟩
        obtain ⟨u, hu⟩ : ∃ u : Int, u = O .u8 c0 := ⟨_, rfl⟩
        have hu2 := hu
        rw [o_u8 hO] at hu2
        refine ⟨c0, ⟨by decide⟩, hc0, ?_⟩
        rw [← hu]
        conv => cbv
        rintro (_ | _) h4
        · replace h4 := f_eql hO h4
          conv => cbv
          obtain ⟨n, hn⟩ : ∃ n : Int, n = a := ⟨_, rfl⟩
          have hnv : n = valS s := by
            unfold valS
            rw [hc0, if_neg (fun e => by simp only [Option.some.injEq] at e; subst e; exact h4 hu2), hn, ha]
            rfl
          rw [← hn]
          clear hn
          obtain ⟨z, hz, hzi⟩ := br n hnv
          obtain ⟨_, f1, f2, f3, f4⟩ := fin n hnv
          refine ⟨_, hz, ?_⟩
          conv => cbv
          rintro (_ | _) h5
          · replace h5 : z = s := f_sneq hO h5
            conv => cbv
            rintro (_ | _) h6
            · replace h6 := f_lss hO h6
              conv => cbv
              rintro (_ | _) h7
              · replace h7 := f_gtr hO h7
                conv => cbv
                obtain ⟨e1, e2⟩ := same _ _ (f4 (by rw [← hzi]; exact h5) (by unfold least; omega) (by unfold most; omega))
                rw [e1, e2]
              · replace h7 := t_gtr hO h7
                conv => cbv
                obtain ⟨e1, e2⟩ := same _ _ (f3 (by unfold most; omega))
                rw [e1, e2]
            · replace h6 := t_lss hO h6
              conv => cbv
              obtain ⟨e1, e2⟩ := same _ _ (f2 (by unfold least; omega))
              rw [e1, e2]
          · replace h5 : z ≠ s := t_sneq hO h5
            conv => cbv
            obtain ⟨e1, e2⟩ := same _ _ (f1 (by rw [← hzi]; exact h5))
            rw [e1, e2]
        · replace h4 := t_eql hO h4
          have hneg : O .neg .neg .i64 a = -a := by rw [o_neg hO, wrap_i64 (by omega) (by omega)]; omega
          conv => cbv
          rw [hneg]
          obtain ⟨n, hn⟩ : ∃ n : Int, n = -a := ⟨_, rfl⟩
          have hnv : n = valS s := by
            unfold valS
            have : c0 = 45 := by
              apply UInt8.toNat_inj.1
              have : (45 : UInt8).toNat = 45 := by decide
              omega
            rw [hc0, if_pos (by rw [this]), hn, ha]
            rfl
          rw [← hn]
          clear hn
          obtain ⟨z, hz, hzi⟩ := br n hnv
          obtain ⟨_, f1, f2, f3, f4⟩ := fin n hnv
          refine ⟨_, hz, ?_⟩
          conv => cbv
          rintro (_ | _) h5
          · replace h5 : z = s := f_sneq hO h5
            conv => cbv
            rintro (_ | _) h6
            · replace h6 := f_lss hO h6
              conv => cbv
              rintro (_ | _) h7
              · replace h7 := f_gtr hO h7
                conv => cbv
                obtain ⟨e1, e2⟩ := same _ _ (f4 (by rw [← hzi]; exact h5) (by unfold least; omega) (by unfold most; omega))
                rw [e1, e2]
              · replace h7 := t_gtr hO h7
                conv => cbv
                obtain ⟨e1, e2⟩ := same _ _ (f3 (by unfold most; omega))
                rw [e1, e2]
            · replace h6 := t_lss hO h6
              conv => cbv
              obtain ⟨e1, e2⟩ := same _ _ (f2 (by unfold least; omega))
              rw [e1, e2]
          · replace h5 : z ≠ s := t_sneq hO h5
            conv => cbv
            obtain ⟨e1, e2⟩ := same _ _ (f1 (by rw [← hzi]; exact h5))
            rw [e1, e2]
    · replace h2 := t_lss hO h2
      rw [o_slen hO] at h2
      conv => cbv
      obtain ⟨b', hb'⟩ : ∃ b', s[k]? = some b' := ⟨_, List.getElem?_eq_getElem (by omega)⟩
      obtain ⟨u, hu⟩ : ∃ u : Int, u = O .u8 b' := ⟨_, rfl⟩
      have hu2 := hu
      rw [o_u8 hO] at hu2
      have hstep : (s.take (k + 1)).foldl digv 0 = digv ((s.take k).foldl digv 0) b' := by
        rw [List.take_add_one, hb', List.foldl_append]
        rfl
      refine ⟨b', ⟨by omega⟩, by rw [hi]; exact hb', ?_⟩
      rw [← hu]
      conv => cbv
      rintro (_ | _) h3
      · replace h3 := f_geq hO h3
        conv => cbv
        refine ⟨_, _, up _ _ ⟨_, _, k + 1, rfl, ?_, by omega, rfl, ?_⟩, ⟨⟨rfl, rfl, rfl, trivial⟩, trivial, rfl⟩, by omega⟩
        · rw [o_add64 hO (by omega) (by omega)]; omega
        · rw [ha, hstep]; unfold digv; rw [if_neg (by omega)]
      · replace h3 := t_geq hO h3
        conv => cbv
        refine ⟨b', ⟨by omega⟩, by rw [hi]; exact hb', ?_⟩
        rw [← hu]
        conv => cbv
        rintro (_ | _) h4
        · replace h4 := f_leq hO h4
          conv => cbv
          refine ⟨_, _, up _ _ ⟨_, _, k + 1, rfl, ?_, by omega, rfl, ?_⟩, ⟨⟨rfl, rfl, rfl, trivial⟩, trivial, rfl⟩, by omega⟩
          · rw [o_add64 hO (by omega) (by omega)]; omega
          · rw [ha, hstep]; unfold digv; rw [if_neg (by omega)]
        · replace h4 := t_leq hO h4
          conv => cbv
          refine ⟨b', ⟨by omega⟩, by rw [hi]; exact hb', ?_⟩
          rw [← hu]
          conv => cbv
          refine ⟨_, _, up _ _ ⟨_, _, k + 1, rfl, ?_, by omega, rfl, ?_⟩, ⟨⟨rfl, rfl, rfl, trivial⟩, trivial, rfl⟩, by omega⟩
          · rw [o_add64 hO (by omega) (by omega)]; omega
          · rw [o_mul64 hO (by omega) (by omega), o_sub hO, wrap_u8 (by omega) (by omega), o_wrap hO, wrap_i64 (by omega) (by omega), o_add64 hO (by omega) (by omega), ha, hstep]
            unfold digv
            rw [if_pos (by omega)]
            omega
  · replace h1 := t_gtr hO h1
    rw [o_slen hO] at h1
    conv => cbv
    obtain ⟨h2, h3⟩ := hvb.none (numS_none_len (by omega))
    rw [h2, h3]
def ParseC (V : Ans) (f : Nat) : Prop := ∀ s : Str, SL s → ∃ (v : Int) (e : D), V.v f [mkS s, .int .i64 10, .int .i64 64] (.tup [.int .i64 v, e]) ∧ FI v ∧ ((e = .nili ∧ Lib.parseIntB 64 s = .ok v) ∨ (e = .opq ∧ ∀ n, Lib.parseIntB 64 s ≠ .ok n))
set_option maxHeartbeats 2000000 in
theorem number13_ok (R : Ans) (h35 : ParseC R 228) (h36 : ∀ n, FI n → R.v 216 [.int .i64 n, .int .i64 10] (mkS (itoa n))) (s : Str) (hs : SL s) (v : Int) (b : Bool) (hvb : NumR s v b) : AnsF R c187 [mkS s] (.tup [.int .i64 v, .bool b]) := by
  obtain ⟨x, e, hx, hfi, hcase⟩ := h35 s hs
  have same : ∀ v' b', NumR s v' b' → v = v' ∧ b = b' := by
    intro v' b' h
    rcases h with ⟨h4, h5⟩ | ⟨h4, h5, h6⟩
    · obtain ⟨h7, h8⟩ := hvb.of h5; exact ⟨h8, by rw [h7, h4]⟩
    · obtain ⟨h7, h8⟩ := hvb.none h6; exact ⟨by rw [h8, h5], by rw [h7, h4]⟩
  have none : (∀ n, NumP s n → False) → NumR s 0 false := fun h => .inr ⟨rfl, rfl, by
    cases hn : numS s with
    | none => rfl
    | some n => exact (h n (numS_iff.1 hn)).elim⟩
  refine wpF_sound ⟨rfl, by decide⟩ fun O hO V hV => ?_
  subst hV
  rcases hcase with ⟨rfl, hp⟩ | ⟨rfl, hp⟩
  · have only : ∀ n, NumP s n → n = x := by
      rintro n ⟨rfl, h1, h2⟩
      rw [parse_itoa h1 h2] at hp
      simpa using hp
    obtain ⟨z, hz, hzi⟩ : ∃ z : Str, V.v 216 [.int .i64 x, .int .i64 10] (.str ⟨⟨z⟩⟩) ∧ z = itoa x := ⟨_, h36 x hfi, rfl⟩
    conv => cbv
    refine ⟨_, hx, ?_⟩
    conv => cbv
    rintro (_ | _) h1
    · replace h1 := f_lss hO h1
      conv => cbv
      rintro (_ | _) h2
      · replace h2 := f_gtr hO h2
        conv => cbv
        refine ⟨_, hz, ?_⟩
        conv => cbv
        rintro (_ | _) h3
        · replace h3 : z = s := f_sneq hO h3
          conv => cbv
          obtain ⟨e1, e2⟩ := same x true (.inl ⟨rfl, numS_iff.2 ⟨by rw [← h3, hzi], by unfold least; omega, by unfold most; omega⟩⟩)
          rw [e1, e2]
        · replace h3 : z ≠ s := t_sneq hO h3
          conv => cbv
          obtain ⟨e1, e2⟩ := same _ _ (none fun n hn => h3 (by rw [hzi, ← only n hn]; exact hn.1.symm))
          rw [e1, e2]
      · replace h2 := t_gtr hO h2
        conv => cbv
        obtain ⟨e1, e2⟩ := same _ _ (none fun n hn => by have := only n hn; have := hn.2.2; unfold most at this; omega)
        rw [e1, e2]
    · replace h1 := t_lss hO h1
      conv => cbv
      obtain ⟨e1, e2⟩ := same _ _ (none fun n hn => by have := only n hn; have := hn.2.1; unfold least at this; omega)
      rw [e1, e2]
  · obtain ⟨e1, e2⟩ := same _ _ (none fun n hn => hp n (by obtain ⟨rfl, h1, h2⟩ := hn; exact parse_itoa h1 h2))
    conv => cbv
    refine ⟨_, hx, ?_⟩
    conv => cbv
    rw [e1, e2]
theorem value_split (s : Str) {v : Int} {b : Bool} (h : NumR s v b) : valueB s = (b || nameB s) := by
  rw [valueB_or]
  rcases h with ⟨h1, h2⟩ | ⟨h1, _, h2⟩ <;> rw [h1, h2] <;> simp
theorem value17_ok (R : Ans) (h16 : ∀ s, SL s → R.v 110 [mkS s] (.bool (nameB s))) (h15 : ∀ s, SL s → ∀ v b, NumR s v b → R.v 232 [mkS s] (.tup [.int .i64 v, .bool b])) (s : Str) (hs : SL s) : AnsF R c193 [mkS s] (.bool (valueB s)) := by
  obtain ⟨v, b, hvb⟩ := NumR.ex s
  have hv := value_split s hvb
  have k1 := h16 s hs
  have k2 := h15 s hs v b hvb
  obtain ⟨r, hr⟩ : ∃ r, r = valueB s := ⟨_, rfl⟩
  obtain ⟨q, hq⟩ : ∃ q, q = nameB s := ⟨_, rfl⟩
  rw [← hr, ← hq] at hv
  rw [← hq] at k1
  rw [← hr]
  clear hr hq hvb
  refine wpF_sound ⟨rfl, by decide⟩ fun O hO V hV => ?_
  subst hV
  conv => cbv
  refine ⟨_, k1, ?_⟩
  conv => cbv
  refine ⟨_, k2, ?_⟩
  subst hv
  cases q <;> cases b <;> (conv => cbv) <;> trivial
theorem value19_ok (R : Ans) (h18 : ∀ s, SL s → R.v 89 [mkS s] (.bool (nameB s))) (h13 : ∀ s, SL s → ∀ v b, NumR s v b → R.v 187 [mkS s] (.tup [.int .i64 v, .bool b])) (s : Str) (hs : SL s) : AnsF R c90 [mkS s] (.bool (valueB s)) := by
  obtain ⟨v, b, hvb⟩ := NumR.ex s
  have hv := value_split s hvb
  have k1 := h18 s hs
  have k2 := h13 s hs v b hvb
  obtain ⟨r, hr⟩ : ∃ r, r = valueB s := ⟨_, rfl⟩
  obtain ⟨q, hq⟩ : ∃ q, q = nameB s := ⟨_, rfl⟩
  rw [← hr, ← hq] at hv
  rw [← hq] at k1
  rw [← hr]
  clear hr hq hvb
  refine wpF_sound ⟨rfl, by decide⟩ fun O hO V hV => ?_
  subst hV
  conv => cbv
  refine ⟨_, k2, ?_⟩
  subst hv
  cases b
  · conv => cbv
    refine ⟨_, k1, ?_⟩
    conv => cbv
    trivial
  · conv => cbv
    trivial
end Go.Proofs.AM
namespace Go.Proofs.AM
open Go Go.Lib Go.RowKit Go.Maps Go.Sort Go.Shelf
structure Gd (P : Program) (w : World) : Prop where
  syn : ∃ tp p, w.var? P "strconv.ErrSyntax" = some #[.iface tp p]
  rng : ∃ tp p, w.var? P "strconv.ErrRange" = some #[.iface tp p]
  tab : Lib.TabIs P w "internal/strconv.uint64pow10" .u64 Lib.pow10Tab
theorem var_below {P : Program} {w w' : World} {n : String} {cs : Array Value} (h : w.var? P n = some cs) (hb : Below w.heap.size w w') : w'.var? P n = some cs := by
  unfold World.var? at h ⊢
  rw [Option.bind_eq_some_iff] at h ⊢
  obtain ⟨g, h1, h2⟩ := h
  refine ⟨g, h1, ?_⟩
  cases hg : w.heap[g]? with
  | none => rw [hg] at h2; simp at h2
  | some o =>
    have hlt : g < w.heap.size := (Array.getElem?_eq_some_iff.mp hg).1
    rw [hb.block g hlt]
    exact h2
theorem Gd.grows (P : Program) : Grows (Gd P) := by
  intro w w' h hb
  obtain ⟨⟨t1, p1, h1⟩, ⟨t2, p2, h2⟩, h3⟩ := h
  exact ⟨⟨t1, p1, var_below h1 hb⟩, ⟨t2, p2, var_below h2 hb⟩, var_below h3 hb⟩
theorem below_grow (w : World) (k : Nat) (os : Array Obj) : RowKit.Below w.heap.size w (Go.Sort.grow (w.drewN k) os) where
  os := rfl
  tape := rfl
  output := rfl
  size := by simp [Go.Sort.grow, World.drewN]
  block := fun j hj => by
    show (w.heap ++ os)[j]? = w.heap[j]?
    rw [Array.getElem?_append_left hj]
theorem fmt36 (n : Int) (hn : FI n) : (PR Tryz.prog (Gd Tryz.prog)).v 216 [.int .i64 n, .int .i64 10] (mkS (itoa n)) := by
  refine ⟨enters_of Tryz.func216 (by kernel_rfl) rfl, rfl, fun w S vs hG hv => ?_⟩
  simp only [RVs, RV] at hv
  obtain ⟨_, _, e1, rfl, _, _, rfl, rfl, rfl⟩ := hv
  obtain rfl : vs = #[.int .i64 n, .int .i64 10] := by apply Array.toList_inj.1; rw [e1]
  refine (Any.strconv_FormatInt_10 Tryz.laysM173 n hn.1 hn.2 w hG.tab).mono ?_
  rintro e w' ⟨rfl, k, os, rfl⟩
  exact ⟨_, rfl, below_grow w k os, rfl⟩
theorem parse35 : ParseC (PR Tryz.prog (Gd Tryz.prog)) 228 := by
  intro s hs
  unfold SL at hs
  have hen : Enters Tryz.prog 228 := enters_of Tryz.func228 (by kernel_rfl) rfl
  have hsz : (⟨⟨s⟩⟩ : ByteArray).size = s.length := rfl
  have args : ∀ {c : Cx} {vs : Array Value}, RVs c [mkS s, .int .i64 10, .int .i64 64] vs.toList → vs = #[.string ⟨⟨s⟩⟩, .int .i64 10, .int .i64 64] := by
    intro c vs hv
    simp only [RVs, RV, mkS] at hv
    obtain ⟨_, _, e1, rfl, _, _, rfl, rfl, _, _, rfl, rfl, rfl⟩ := hv
    apply Array.toList_inj.1
    rw [e1]
  rcases hp : parseIntB 64 s with v | _ | _
  · have hb := parseIntB_bounds hp
    have e63 : ((2 ^ (64 - 1) : Nat) : Int) = 9223372036854775808 := by decide
    rw [e63] at hb
    refine ⟨v, .nili, ⟨hen, rfl, fun w S vs hG hv => ?_⟩, ⟨by omega, by omega⟩, .inl ⟨rfl, rfl⟩⟩
    obtain rfl := args hv
    refine (Any.strconv_ParseInt_10_at64_ok Tryz.laysC174 ⟨⟨s⟩⟩ (by rw [hsz]; omega) v hp w).mono ?_
    rintro e w' ⟨rfl, hw⟩
    refine ⟨_, rfl, ?_, by simp [RV, RVs]⟩
    rcases hw with rfl | ⟨t, rfl⟩
    · exact Below.refl _ _
    · exact bytesWorld_below w _ t
  · refine ⟨0, .opq, ⟨hen, rfl, fun w S vs hG hv => ?_⟩, ⟨by omega, by omega⟩, .inr ⟨rfl, fun n hn => by simp at hn⟩⟩
    obtain rfl := args hv
    obtain ⟨tp, p, hvar⟩ := hG.syn
    refine (Any.strconv_ParseInt_10_at64_syntax_var Tryz.laysC174 ⟨⟨s⟩⟩ (by rw [hsz]; omega) hp tp p w hvar).mono ?_
    rintro e w' ⟨N, rfl, _, _, hb⟩
    exact ⟨_, rfl, hb, by simp only [RV, RVs]; exact ⟨_, rfl, _, _, rfl, rfl, _, _, rfl, ⟨_, _, rfl⟩, rfl⟩⟩
  · have hsat : FI (intSat 64 s) := by
      have e63 : ((2 ^ (64 - 1) : Nat) : Int) = 9223372036854775808 := by decide
      cases s with
      | nil => simp [parseIntB] at hp
      | cons c r =>
        by_cases h45 : c = 45
        · subst h45; rw [intSat_minus, e63]; exact ⟨by omega, by omega⟩
        · rw [intSat_other _ _ _ (fun e => h45 (by apply UInt8.toNat_inj.1; rw [e]; rfl))]
          have : ((2 ^ (64 - 1) - 1 : Nat) : Int) = 9223372036854775807 := by decide
          rw [this]
          exact ⟨by omega, by omega⟩
    refine ⟨intSat 64 s, .opq, ⟨hen, rfl, fun w S vs hG hv => ?_⟩, hsat, .inr ⟨rfl, fun n hn => by simp at hn⟩⟩
    obtain rfl := args hv
    obtain ⟨tp, p, hvar⟩ := hG.rng
    refine (Any.strconv_ParseInt_10_at64_range_var Tryz.laysC174 ⟨⟨s⟩⟩ (by rw [hsz]; omega) hp tp p w hvar).mono ?_
    rintro e w' ⟨N, rfl, _, _, hb⟩
    exact ⟨_, rfl, hb, by simp only [RV, RVs]; exact ⟨_, rfl, _, _, rfl, rfl, _, _, rfl, ⟨_, _, rfl⟩, rfl⟩⟩
theorem insert_perm {H : Type} (x : Lit × DataW H) : ∀ l : List (Lit × DataW H), (DataW.insert x l).Perm (x :: l)
  | [] => List.Perm.refl _
  | y :: r => by
    unfold DataW.insert
    split
    · exact List.Perm.refl _
    · exact ((insert_perm x r).cons y).trans (List.Perm.swap x y r)
theorem sorted_perm {H : Type} : ∀ l : List (Lit × DataW H), (l.foldr DataW.insert []).Perm l
  | [] => List.Perm.refl _
  | x :: r => (insert_perm x _).trans ((sorted_perm r).cons x)
theorem sort_rising {ss K : List Str} (h : ss.Perm K) (hK : K.Nodup) : ss.mergeSort (fun x y => decide (x ≤ y)) = risingS K := by
  have hp := List.mergeSort_perm ss fun x y => decide (x ≤ y)
  have hs := List.pairwise_mergeSort (le := fun x y : Str => decide (x ≤ y)) (fun a b c h1 h2 => by
      simp only [decide_eq_true_eq] at h1 h2 ⊢
      exact List.le_trans h1 h2) (fun a b => by
      simp only [Bool.or_eq_true, decide_eq_true_eq]
      exact List.le_total a b) ss
  have hn : (ss.mergeSort fun x y => decide (x ≤ y)).Nodup := (hp.trans h).nodup_iff.2 hK
  refine rises_ext ?_ (risingS_rises K) fun z => by rw [(hp.trans h).mem_iff, risingS_mem]
  unfold Rises
  refine (hs.and hn).imp fun {a b} hab => ?_
  obtain ⟨h1, h2⟩ := hab
  simp only [decide_eq_true_eq] at h1
  rcases lt_total a b with k | k | k
  · exact k
  · exact absurd k h2
  · exact absurd h1 (List.not_le.2 k)
def keyOnly : Value → Option (DataW Unit × List MemPlace) := fun _ => some (.nil, [])
theorem ents_own {b : Nat} {K : List Str} (hKs : ∀ s ∈ K, SL s) (hKl : K.length ≤ 8796093022208) {w : World} {mes : Array MapEntry} {clk : Nat} (hb : w.heap[b]? = some (.map mes clk)) (hst : Stp mes clk)
    (hes : mes.toList.map (·.key) = K.map fun s => .string ⟨⟨s⟩⟩) : ∃ D0 : DataW Unit, w.ownsMap Tryz.prog 9 keyOnly b mes.size D0 ∧ Maps.size D0 = K.length ∧ (strKeys D0).Perm K := by
  have hlen : mes.size = K.length := by have := congrArg List.length hes; simpa using this
  have hrd : ∀ x ∈ mes.toList, ∃ s ∈ K, x.key = .string ⟨⟨s⟩⟩ := fun x hx => by
    have : x.key ∈ mes.toList.map (·.key) := List.mem_map.2 ⟨x, hx, rfl⟩
    rw [hes] at this
    obtain ⟨s, h1, h2⟩ := List.mem_map.1 this
    exact ⟨s, h1, h2.symm⟩
  have hko : ∀ s, SL s → keyOf Tryz.prog 9 (.string ⟨⟨s⟩⟩) = some (.string s) := fun s hs => Go.WideMaps.keyOf_string_mk (s := ⟨⟨s⟩⟩) Tryz.underlying9 (by
    have hsz : (⟨⟨s⟩⟩ : ByteArray).size = s.length := rfl
    unfold SL at hs
    have : maxLen = 9223372036854775807 := by decide
    omega)
  have hrg : mes.toList.map (fun x => Go.strOf (Go.WideElems.rg Tryz.prog 9 keyOnly x).1) = K := by
    have : ∀ (l : List MapEntry) (K : List Str), (∀ s ∈ K, SL s) → l.map (·.key) = K.map (fun s => Value.string ⟨⟨s⟩⟩) → l.map (fun x => Go.strOf (Go.WideElems.rg Tryz.prog 9 keyOnly x).1) = K := by
      intro l
      induction l with
      | nil => intro K _ h; cases K with
        | nil => rfl
        | cons _ _ => simp at h
      | cons x l ih =>
        intro K hK h
        cases K with
        | nil => simp at h
        | cons s K =>
          simp only [List.map_cons, List.cons.injEq] at h ⊢
          refine ⟨?_, ih K (fun s hs => hK s (by simp [hs])) h.2⟩
          unfold Go.WideElems.rg Go.WideElems.rd keyOnly
          rw [h.1, hko s (hK s (by simp))]
          rfl
    exact this _ _ hKs hes
  refine ⟨_, ⟨mes, clk, hb, ⟨by
    have : maxLen = 9223372036854775807 := by decide
    omega, hst, fun x hx => ?_⟩, Nat.le_refl _, rfl⟩, ?_, ?_⟩
  · obtain ⟨s, hs, hk⟩ := hrd x hx
    exact ⟨(.string s, .nil), by unfold Go.WideElems.rd keyOnly; rw [hk, hko s (hKs s hs)]; rfl⟩
  · rw [Maps.size_eq, (sorted_perm _).length_eq]
    simpa using hlen
  · show (List.map _ _).Perm K
    refine ((sorted_perm _).map _).trans ?_
    rw [List.map_map]
    generalize Go.WideElems.rg Tryz.prog 9 (keyOnly) = F at hrg ⊢
    exact List.Perm.of_eq hrg
theorem sortsL (m : Nat) : AnyZ.SortsIn Tryz.prog Tryz.sortedL_ren Fence.wide m :=
  ⟨fun blk off cap ss W hH hblk hsz => callsIn_wide.2 (AnyM.slices_Sort_string Tryz.sortL blk off cap ss W hH hblk hsz), fun p cap W => callsIn_wide.2 (AnyM.slices_Sort_string_none Tryz.sortL p cap W)⟩
theorem keys_call (mb : Option Nat) (W : World) : CallsIn Fence.wide 5 Tryz.prog 215 #[.map mb] W fun e w' => e = .returned (.func (.func 240) #[] #[.pointer (some ⟨W.heap.size, 0, none⟩)]) ∧ w' = W.alloc (.cells #[.map mb] 233) :=
  AnyZ.keys_in Tryz.keysL Fence.wide 5 trivial rfl mb W
set_option maxHeartbeats 1000000 in
theorem sorted_call {H : Type} (b nn : Nat) (D0 : DataW H) (R : Value → Option (DataW H × List MemPlace)) (w : World) (hown : w.ownsMap Tryz.prog 9 R b nn D0) (hmax : Maps.size D0 ≤ maxLen) (hbytes : Maps.size D0 * 16 ≤ 140737488355328) :
    CallsIn Fence.wide 5 Tryz.prog 214 #[.func (.func 240) #[] #[.pointer (some ⟨w.heap.size, 0, none⟩)]] (w.alloc (.cells #[.map (some b)] 233)) fun e w' => ∃ (v : Value) (ss : List (List UInt8)), e = .returned v ∧ ss.Perm (strKeys D0) ∧
      w'.ownsRow (w.alloc (.cells #[.map (some b)] 233)).heap.size 9 1 v ss.length ((ss.mergeSort (fun x y => decide (x ≤ y))).map encStr) ∧ (v = .slice none 0 0 ↔ ss = []) ∧ RowKit.Below (w.alloc (.cells #[.map (some b)] 233)).heap.size (w.alloc (.cells #[.map (some b)] 233)) w' := by
  have hbl := hown.lt
  have hseq : SeqGives Fence.wide 2 Tryz.prog 240 #[.pointer (some ⟨w.heap.size, 0, none⟩)] encStr (fun ss => ss.Perm (strKeys D0)) (Maps.size D0) (w.alloc (.cells #[.map (some b)] 233)) :=
    AnyZ.keys_gives (ρ := Tryz.keysL_ren) { Tryz.keysL with } Fence.wide _ trivial rfl (by omega) w.heap.size b nn D0 _ (by simp) (by simp) (by
      obtain ⟨es, clock, hb, Ft, hs, hD⟩ := hown
      exact ⟨es, clock, (Below.heap_alloc _ _ b hbl).trans hb, Ft, hs, hD⟩)
  exact AnyZ.sorted_in Tryz.sortedL Fence.wide 5 trivial trivial trivial trivial rfl (by omega) (sortsL _) (enters_of Tryz.func239 (by kernel_rfl) rfl) 240 #[.pointer (some ⟨w.heap.size, 0, none⟩)] trivial (enters_of Tryz.func240 (by kernel_rfl) rfl) _ _ hmax hbytes _ hseq
set_option maxHeartbeats 1000000 in
theorem rising_calls (b : Nat) (K : List Str) (hK : K.Nodup) (hKs : ∀ s ∈ K, SL s) (hKl : K.length ≤ 8796093022208) (w : World) (mes : Array MapEntry) (clk : Nat) (hb : w.heap[b]? = some (.map mes clk)) (hst : Stp mes clk)
    (hes : mes.toList.map (·.key) = K.map fun s => .string ⟨⟨s⟩⟩) :
    Calls Tryz.prog 182 #[.map (some b)] w fun e w' => ∃ v : Value, e = .returned v ∧ w'.ownsRow w.heap.size 9 1 v K.length ((risingS K).map encStr) ∧ Below w.heap.size w w' := by
  obtain ⟨D0, hown, hsz, hperm⟩ := ents_own hKs hKl hb hst hes
  have hmax : Maps.size D0 ≤ maxLen := by
    have : maxLen = 9223372036854775807 := by decide
    omega
  have hbytes : Maps.size D0 * 16 ≤ 140737488355328 := by omega
  refine (callsIn_wide (n := 6)).1 ?_
  have hfK : Fence.wide.fn 215 := trivial
  have hfS : Fence.wide.fn 214 := trivial
  refine callsIn_of_wp Tryz.func182 rfl trivial ?_ rfl
  simp only [Tryz.ntmps182, List.size_toArray, List.length_cons, List.length_nil, Nat.reduceAdd, Nat.reduceSub, Array.replicate_succ, Array.replicate_zero, List.push_toArray, List.append_toArray, List.nil_append, List.cons_append]
  gi_wp2_with (first
    | (gi_at_call 215; refine (keys_call _ _).mono ?_; rintro e w' ⟨rfl, rfl⟩)
    | (gi_at_call 214; refine (sorted_call b _ D0 _ w hown hmax hbytes).mono ?_; rintro e w' ⟨v, ss, rfl, hS, hrow, hnil, hb⟩))
  go_ret
  have hp := hS.trans hperm
  have e1 := sort_rising hp hK
  have hrow' := ownsRow_base_a (base' := w.heap.size) hrow (by simp)
  rw [e1, hp.length_eq] at hrow'
  exact ⟨v, rfl, hrow', ((Below.refl _ w).alloc (Nat.le_refl _) _).trans (hb.mono (by simp))⟩
theorem row_told {w : World} {S : Nat → Prop} {base : Nat} {v : Value} {l : List Str} {n : Nat} (h : w.ownsRow base 9 1 v n (l.map encStr)) (hS : ∀ b, base ≤ b → S b) : RV ⟨w, S, bx0, noLoc⟩ (.sl 1 false (l.map mkS)) v := by
  obtain ⟨hlen, h⟩ := h
  have hn : n = l.length := by simpa using hlen.symm
  subst hn
  simp only [RV, List.length_map]
  rcases h with ⟨rfl, h0⟩ | ⟨g, cap, cur, rfl, hg, hgb, h1, h2, h3, h4⟩
  · have : l = [] := List.eq_nil_of_length_eq_zero h0
    subst this
    exact ⟨none, 0, rfl, Nat.le_refl _, by simp, by simp, trivial⟩
  · refine ⟨some ⟨g, 0, none⟩, cap, rfl, h1, by simp, by simp, ?_⟩
    have hlt : g < w.heap.size := (Array.getElem?_eq_some_iff.mp hgb).1
    have key : ∀ (r : List Str) (i : Nat), (∀ (j : Nat) s, r[j]? = some s → l[i + j]? = some s) → RSl ⟨w, S, bx0, noLoc⟩ 1 (some ⟨g, 0, none⟩) i (r.map mkS) := by
      intro r
      induction r with
      | nil => intro i _; trivial
      | cons s r ih =>
        intro i hr
        simp only [List.map_cons, RSl]
        refine ⟨⟨⟨g, 0, none⟩, .string ⟨⟨s⟩⟩, rfl, hS g hg, hlt, rfl, rfl, by simp [Value.cells, Value.oneCell'], fun j hj => ?_⟩, ih (i + 1) fun j s hj => by have := hr (j + 1) s (by simpa using hj); rw [← this]; congr 1; omega⟩
        have hj0 : j = 0 := by omega
        subst hj0
        have hs := hr 0 s rfl
        rw [Nat.add_zero] at hs
        have hi : i < l.length := (List.getElem?_eq_some_iff.1 hs).1
        have hc : cur[i]? = some (encStr s) := by
          have e1 : (cur.toList.take (l.length * 1))[i]? = some (encStr s) := by rw [h4, List.getElem?_map, hs]; rfl
          rw [List.getElem?_take_of_lt (by omega)] at e1
          simpa using e1
        show w.cell? (Addr.add ⟨g, 0, none⟩ (i * 1 + 0)) = _
        rw [add_lit]
        unfold World.cell?
        simp only [Nat.zero_add, Nat.mul_one, Nat.add_zero]
        rw [hgb]
        simpa [encStr, Value.cells] using hc
    exact key l 0 fun j s hj => by simpa using hj
theorem keys_of_REs {c : Cx} : ∀ {K : List Str} {l : List MapEntry}, REs c (K.map ent) l → l.map (·.key) = K.map fun s => .string ⟨⟨s⟩⟩
  | [], l, h => by simp only [List.map_nil, REs] at h; subst h; rfl
  | s :: K, l, h => by
    simp only [List.map_cons, REs, ent, RV, RVs, mkS] at h
    obtain ⟨e, r, rfl, ⟨vs, h1, _, _, h2, rfl, _, _, rfl, rfl, rfl⟩, h3⟩ := h
    simp only [Value.tuple.injEq] at h1
    subst h1
    simp only [List.cons.injEq] at h2
    simp only [List.map_cons, List.cons.injEq]
    exact ⟨h2.1, keys_of_REs h3⟩
theorem rising32 (K : List Str) (hK : K.Nodup) (hKs : ∀ s ∈ K, SL s) (hKl : K.length ≤ 8796093022208) : (PR Tryz.prog (Gd Tryz.prog)).v 182 [.mapv (K.map ent)] (.sl 1 false ((risingS K).map mkS)) := by
  have hc : CleanL ((risingS K).map mkS) := cleanL_map clean_S rfl
  refine ⟨enters_of Tryz.func182 (by kernel_rfl) rfl, by simp [closed, hc.c], fun w S vs hG hv => ?_⟩
  simp only [RVs, RV] at hv
  obtain ⟨_, _, e1, ⟨b, mes, clk, rfl, hA, ⟨hb, hst⟩, hes⟩, rfl⟩ := hv
  obtain rfl : vs = #[.map (some b)] := by apply Array.toList_inj.1; rw [e1]
  refine (rising_calls b K hK hKs hKl w mes clk hb hst (keys_of_REs hes)).mono ?_
  rintro e w' ⟨v, rfl, hrow, hbl⟩
  exact ⟨_, rfl, hbl, row_told hrow fun b hb => .inr hb⟩
end Go.Proofs.AM
namespace Go.Proofs.AM
open Go Go.RowKit Go.Shelf Cd
set_option maxRecDepth 100000
theorem follows_mixed : Tryz.prog.follows .mixedOrders = true := by kernel_rfl
theorem E180 : Enters Tryz.prog 180 := enters_of Tryz.func180 (by kernel_rfl) rfl
theorem T180 : funcT Tryz.prog [] Tryz.f180 = some c180.erase := by kernel_rfl
theorem E187 : Enters Tryz.prog 187 := enters_of Tryz.func187 (by kernel_rfl) rfl
theorem T187 : funcT Tryz.prog [] Tryz.f187 = some c187.erase := by kernel_rfl
theorem E232 : Enters Tryz.prog 232 := enters_of Tryz.func232 (by kernel_rfl) rfl
theorem T232 : funcT Tryz.prog [] Tryz.f232 = some c232.erase := by kernel_rfl
theorem E110 : Enters Tryz.prog 110 := enters_of Tryz.func110 (by kernel_rfl) rfl
theorem T110 : funcT Tryz.prog [] Tryz.f110 = some c110.erase := by kernel_rfl
theorem E193 : Enters Tryz.prog 193 := enters_of Tryz.func193 (by kernel_rfl) rfl
theorem T193 : funcT Tryz.prog [] Tryz.f193 = some c193.erase := by kernel_rfl
theorem E89 : Enters Tryz.prog 89 := enters_of Tryz.func89 (by kernel_rfl) rfl
theorem T89 : funcT Tryz.prog [] Tryz.f89 = some c89.erase := by kernel_rfl
theorem E90 : Enters Tryz.prog 90 := enters_of Tryz.func90 (by kernel_rfl) rfl
theorem T90 : funcT Tryz.prog [] Tryz.f90 = some c90.erase := by kernel_rfl
theorem E93 : Enters Tryz.prog 93 := enters_of Tryz.func93 (by kernel_rfl) rfl
theorem T93 : funcT Tryz.prog [] Tryz.f93 = some c93.erase := by kernel_rfl
theorem E191 : Enters Tryz.prog 191 := enters_of Tryz.func191 (by kernel_rfl) rfl
theorem T191 : funcT Tryz.prog [] Tryz.f191 = some c191.erase := by kernel_rfl
theorem E103 : Enters Tryz.prog 103 := enters_of Tryz.func103 (by kernel_rfl) rfl
theorem T103 : funcT Tryz.prog [] Tryz.f103 = some c103.erase := by kernel_rfl
theorem E85 : Enters Tryz.prog 85 := enters_of Tryz.func85 (by kernel_rfl) rfl
theorem T85 : funcT Tryz.prog [52, 109, 65, 51] Tryz.f85 = some c85.erase := by kernel_rfl
theorem E95 : Enters Tryz.prog 95 := enters_of Tryz.func95 (by kernel_rfl) rfl
theorem T95 : funcT Tryz.prog [] Tryz.f95 = some c95.erase := by kernel_rfl
theorem E45 : Enters Tryz.prog 45 := enters_of Tryz.func45 (by kernel_rfl) rfl
theorem T45 : funcT Tryz.prog [] Tryz.f45 = some c45.erase := by kernel_rfl
theorem E100 : Enters Tryz.prog 100 := enters_of Tryz.func100 (by kernel_rfl) rfl
theorem T100 : funcT Tryz.prog [] Tryz.f100 = some c100.erase := by kernel_rfl
theorem E194 : Enters Tryz.prog 194 := enters_of Tryz.func194 (by kernel_rfl) rfl
theorem T194 : funcT Tryz.prog [] Tryz.f194 = some c194.erase := by kernel_rfl
theorem E101 : Enters Tryz.prog 101 := enters_of Tryz.func101 (by kernel_rfl) rfl
theorem T101 : funcT Tryz.prog [] Tryz.f101 = some c101.erase := by kernel_rfl
theorem E213 : Enters Tryz.prog 213 := enters_of Tryz.func213 (by kernel_rfl) rfl
theorem T213 : funcT Tryz.prog [] Tryz.f213 = some c213.erase := by kernel_rfl
theorem E181 : Enters Tryz.prog 181 := enters_of Tryz.func181 (by kernel_rfl) rfl
theorem T181 : funcT Tryz.prog [] Tryz.f181 = some c181.erase := by kernel_rfl
theorem E183 : Enters Tryz.prog 183 := enters_of Tryz.func183 (by kernel_rfl) rfl
theorem T183 : funcT Tryz.prog [] Tryz.f183 = some c183.erase := by kernel_rfl
theorem E231 : Enters Tryz.prog 231 := enters_of Tryz.func231 (by kernel_rfl) rfl
theorem T231 : funcT Tryz.prog [] Tryz.f231 = some c231.erase := by kernel_rfl
theorem E188 : Enters Tryz.prog 188 := enters_of Tryz.func188 (by kernel_rfl) rfl
theorem T188 : funcT Tryz.prog [] Tryz.f188 = some c188.erase := by kernel_rfl
theorem E189 : Enters Tryz.prog 189 := enters_of Tryz.func189 (by kernel_rfl) rfl
theorem T189 : funcT Tryz.prog [] Tryz.f189 = some c189.erase := by kernel_rfl
theorem E190 : Enters Tryz.prog 190 := enters_of Tryz.func190 (by kernel_rfl) rfl
theorem T190 : funcT Tryz.prog [] Tryz.f190 = some c190.erase := by kernel_rfl
theorem E39 : Enters Tryz.prog 39 := enters_of Tryz.func39 (by kernel_rfl) rfl
theorem T39 : funcT Tryz.prog [] Tryz.f39 = some c39.erase := by kernel_rfl
theorem E233 : Enters Tryz.prog 233 := enters_of Tryz.func233 (by kernel_rfl) rfl
theorem T233 : funcT Tryz.prog [] Tryz.f233 = some c233.erase := by kernel_rfl
theorem E104 : Enters Tryz.prog 104 := enters_of Tryz.func104 (by kernel_rfl) rfl
theorem T104 : funcT Tryz.prog [] Tryz.f104 = some c104.erase := by kernel_rfl
theorem E192 : Enters Tryz.prog 192 := enters_of Tryz.func192 (by kernel_rfl) rfl
theorem T192 : funcT Tryz.prog [22, 23, 27, 29, 30] Tryz.f192 = some c192.erase := by kernel_rfl
theorem E229 : Enters Tryz.prog 229 := enters_of Tryz.func229 (by kernel_rfl) rfl
theorem T229 : funcT Tryz.prog [] Tryz.f229 = some c229.erase := by kernel_rfl
theorem E121 : Enters Tryz.prog 121 := enters_of Tryz.func121 (by kernel_rfl) rfl
theorem T121 : funcT Tryz.prog [] Tryz.f121 = some c121.erase := by kernel_rfl
theorem E237 : Enters Tryz.prog 237 := enters_of Tryz.func237 (by kernel_rfl) rfl
theorem T237 : funcT Tryz.prog [] Tryz.f237 = some c237.erase := by kernel_rfl
theorem E230 : Enters Tryz.prog 230 := enters_of Tryz.func230 (by kernel_rfl) rfl
theorem T230 : funcT Tryz.prog [] Tryz.f230 = some c230.erase := by kernel_rfl
theorem E197 : Enters Tryz.prog 197 := enters_of Tryz.func197 (by kernel_rfl) rfl
theorem T197 : funcT Tryz.prog [] Tryz.f197 = some c197.erase := by kernel_rfl
theorem E201 : Enters Tryz.prog 201 := enters_of Tryz.func201 (by kernel_rfl) rfl
theorem T201 : funcT Tryz.prog [] Tryz.f201 = some c201.erase := by kernel_rfl
theorem E234 : Enters Tryz.prog 234 := enters_of Tryz.func234 (by kernel_rfl) rfl
theorem T234 : funcT Tryz.prog [] Tryz.f234 = some c234.erase := by kernel_rfl
end Go.Proofs.AM
namespace Go.Proofs.AM
open Go Go.Lib Cd
theorem name18_ok (R : Ans) (s : Str) (hs : SL s) : AnsF R c89 [mkS s] (.bool (nameB s)) := by
  obtain ⟨r, hr⟩ : ∃ r, r = nameB s := ⟨_, rfl⟩
  rw [← hr]
  unfold SL at hs
  refine wpF_sound ⟨rfl, by decide⟩ fun O hO V hV => ?_
  have hlen : O .len (O .bytes ⟨⟨s⟩⟩) = s.length := by rw [o_len hO, o_bytes hO]; simp
  conv => cbv
  refine loop_of (fun n d => ∃ (i : Int) (k : Nat), d = ⟨[(0, mkS s), (7, .sl 1 false (O .bytes ⟨⟨s⟩⟩)), (8, .int .i64 (O .len (O .bytes ⟨⟨s⟩⟩))), (9, .int .i64 i)], [], false⟩ ∧ i = k ∧ k ≤ s.length ∧ n = s.length - k ∧ ∀ j c, j < k → s[j]? = some c → okc c ∧ (j = 0 → small c)) ⟨_, _, ⟨_, 0, rfl, rfl, by omega, rfl, by simp⟩, ⟨⟨rfl, rfl, rfl, rfl, trivial⟩, trivial, rfl⟩⟩ ?_
  rintro J up n d ⟨i, k, rfl, hi, hk, rfl, hno⟩
  conv => cbv
  rintro (_ | _) h1
  · replace h1 := f_lss hO h1
    rw [hlen] at h1
    have hall : ∀ j c, s[j]? = some c → okc c ∧ (j = 0 → small c) := fun j c hc => hno j c (by have := (List.getElem?_eq_some_iff.1 hc).1; omega) hc
    conv => cbv
    rintro (_ | _) h2
    · replace h2 : s = [] := f_sneq hO h2
      conv => cbv
      rw [hr, nameB_len (by rw [h2]; simp)]
    · replace h2 : s ≠ [] := t_sneq hO h2
      have h3 : 1 ≤ s.length := List.length_pos_iff.2 h2
      conv => cbv
      rintro (_ | _) h4
      · replace h4 := f_leq hO h4
        rw [o_slen hO] at h4
        conv => cbv
        rw [hr, nameB_len (by omega)]
      · replace h4 := t_leq hO h4
        rw [o_slen hO] at h4
        conv => cbv
        rw [hr, nameB_true h3 (by omega) hall]
  · replace h1 := t_lss hO h1
    rw [hlen] at h1
    obtain ⟨c, hc⟩ : ∃ c, s[k]? = some c := ⟨_, List.getElem?_eq_getElem (by omega)⟩
    obtain ⟨v, hv⟩ : ∃ v : Int, v = c.toNat := ⟨_, rfl⟩
    have hat : atX (O .bytes ⟨⟨s⟩⟩) i (.int .u8 v) := by rw [hv]; exact atX_map hc (o_bytes hO s) hi
    conv => cbv
    refine ⟨_, hat, ?_⟩
    repeat' ((conv => cbv); rintro (_ | _) _)
    all_goals (conv => cbv)
    all_goals simp only [o_geq hO, o_leq hO, o_lss hO, o_gtr hO, o_eql hO, o_neq hO, true_eq_decide_iff, false_eq_decide_iff] at *
    all_goals first
      | (rw [hr, nameB_false hc (by unfold okc small; omega)]; done)
      | (refine ⟨_, _, up _ _ ⟨_, k + 1, rfl, ?_, by omega, rfl, ?_⟩, ⟨⟨rfl, rfl, rfl, rfl, trivial⟩, trivial, rfl⟩, by omega⟩
         · rw [o_add64 hO (by omega) (by omega)]; omega
         · intro j c' hj hc'
           by_cases e : j = k
           · subst e
             rw [hc] at hc'
             simp only [Option.some.injEq] at hc'
             subst hc'
             unfold okc small
             omega
           · exact hno j c' (by omega) hc')
end Go.Proofs.AM
namespace Go.Proofs.AM
open Go Go.Lib Cd
theorem name16_ok (R : Ans) (s : Str) (hs : SL s) : AnsF R c110 [mkS s] (.bool (nameB s)) := by
  obtain ⟨r, hr⟩ : ∃ r, r = nameB s := ⟨_, rfl⟩
  rw [← hr]
  unfold SL at hs
  refine wpF_sound ⟨rfl, by decide⟩ fun O hO V hV => ?_
  conv => cbv
  rintro (_ | _) h1
  · replace h1 := f_lss hO h1
    rw [o_slen hO] at h1
    conv => cbv
    rintro (_ | _) h2
    · replace h2 := f_gtr hO h2
      rw [o_slen hO] at h2
      obtain ⟨c, hc⟩ : ∃ c, s[0]? = some c := ⟨_, List.getElem?_eq_getElem (by omega)⟩
      conv => cbv
      refine ⟨c, ⟨by decide⟩, hc, ?_⟩
      obtain ⟨v, hv⟩ : ∃ v : Int, v = O .u8 c := ⟨_, rfl⟩
      rw [← hv]
      rw [o_u8 hO] at hv
      conv => cbv
      rintro (_ | _) h3
      · replace h3 := f_lss hO h3
        conv => cbv
        refine ⟨c, ⟨by decide⟩, hc, ?_⟩
        have hv2 : O .u8 c = v := by rw [o_u8 hO, hv]
        rw [hv2]
        conv => cbv
        rintro (_ | _) h4
        · replace h4 := f_gtr hO h4
          conv => cbv
          refine loop_of (fun n d => ∃ (i : Int) (k : Nat), d = ⟨[(0, mkS s), (3, .int .i64 i)], [], false⟩ ∧ i = k ∧ k ≤ s.length ∧ n = s.length - k ∧ ∀ j c, j < k → s[j]? = some c → okc c ∧ (j = 0 → small c)) ⟨_, _, ⟨_, 0, rfl, rfl, by omega, rfl, by simp⟩, ⟨⟨rfl, rfl, trivial⟩, trivial, rfl⟩⟩ ?_
          rintro J up n d ⟨i, k, rfl, hi, hk, rfl, hno⟩
          conv => cbv
          rintro (_ | _) h5
          · replace h5 := f_lss hO h5
            rw [o_slen hO] at h5
            conv => cbv
            rw [hr, nameB_true (by omega) (by omega) fun j c hc => hno j c (by have := (List.getElem?_eq_some_iff.1 hc).1; omega) hc]
          · replace h5 := t_lss hO h5
            rw [o_slen hO] at h5
            obtain ⟨b, hb⟩ : ∃ b, s[k]? = some b := ⟨_, List.getElem?_eq_getElem (by omega)⟩
            obtain ⟨u, hu⟩ : ∃ u : Int, u = O .u8 b := ⟨_, rfl⟩
            have hu2 := hu
            rw [o_u8 hO] at hu2
            conv => cbv
            refine ⟨b, ⟨by omega⟩, by rw [hi]; exact hb, ?_⟩
            rw [← hu]
            have h0 : k = 0 → c = b := fun e => by subst e; rw [hc] at hb; simpa using hb
            have h00 : k = 0 → v = u := fun e => by rw [hv, hu2, h0 e]
            repeat' ((conv => cbv); rintro (_ | _) _)
            all_goals (conv => cbv)
            all_goals simp only [o_lss hO, o_gtr hO, o_neq hO, true_eq_decide_iff, false_eq_decide_iff] at *
            all_goals first
              | (rw [hr, nameB_false hb (by unfold okc small; omega)]; done)
              | (refine ⟨_, _, up _ _ ⟨_, k + 1, rfl, ?_, by omega, rfl, ?_⟩, ⟨⟨rfl, rfl, trivial⟩, trivial, rfl⟩, by omega⟩
                 · rw [o_add64 hO (by omega) (by omega)]; omega
                 · intro j c' hj hc'
                   by_cases e : j = k
                   · subst e
                     rw [hb] at hc'
                     simp only [Option.some.injEq] at hc'
                     subst hc'
                     unfold okc small
                     omega
                   · exact hno j c' (by omega) hc')
        · replace h4 := t_gtr hO h4
          conv => cbv
          rw [hr, nameB_false hc (by unfold okc small; omega)]
      · replace h3 := t_lss hO h3
        conv => cbv
        rw [hr, nameB_false hc (by unfold okc small; omega)]
    · replace h2 := t_gtr hO h2
      rw [o_slen hO] at h2
      conv => cbv
      rw [hr, nameB_len (by omega)]
  · replace h1 := t_lss hO h1
    rw [o_slen hO] at h1
    conv => cbv
    rw [hr, nameB_len (by omega)]
end Go.Proofs.AM
