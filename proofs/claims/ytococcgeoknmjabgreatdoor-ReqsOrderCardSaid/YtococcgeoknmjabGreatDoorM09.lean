/- Part 9 of the lemmas: BPVc, BVVf, BVVg, BGLa, BGLb, BVVa, BVVb, BVVd, BVVe, BVVh, BVVi, BVVj, BVVk, BVVl, BVVm. -/
import Derived.Test.YtococcgeoknmjabGreatDoorM07
import Derived.Test.YtococcgeoknmjabGreatDoorM08
import Derived.Lib.LaidTab
import Derived.Lib.ParseIntBTie
import Derived.WalkKit
import Derived.Test.YtococcgeoknmjabGreatDoorProg
import Derived.Shelf.Abstract
namespace Go.Proofs.AM
open Go Cd
def c22 : Func :=
⟨1, 51, [.cell 2 6 true, .tmp 3],
 (.seq (.ops [o 1 (.box (t 0)), o 2 (.alloc [(.bool false), (.bool false), (.bool false), (.sl 1 true []), (.int .i64 0), (.int .i64 0)]), o 3 (.mov (c (.int .i64 0)))])
 (.seq (.seq (.ops [o 6 (.load 4 true (t 1)), o 7 (.call false (c (.fn 36 [] [])) [(t 6)]), o 4 (.mov (t 7))])
 (.seq (.ops [o 8 (.mov (t 4)), o 9 (.bin .neq (t 8) (c (.int .i64 0)))])
 (.cond (t 9) (.seq (.ops [o 10 (.build [(.bool false), (.bool false), (.bool false), (.sl 1 true []), (.int .i64 0), (.int .i64 0)] []), o 11 (.mov (t 4)), w (.store 6 (t 2) (t 10)), o 3 (.mov (t 11))])
 .ret) .skip)))
 (.seq (.ops [o 12 (.fAddr 2 (t 1)), o 13 (.load 1 false (t 12)), o 14 (.mkSl false 1 33 (.sl 1 true []) 1 [(0, (t 13))]), o 15 (.call false (c (.fn 30 [] [])) [(t 14)]), o 16 (.call false (c (.fn 31 [] [])) [(t 15)]), o 17 (.build [(.bool false), (.bool false), (.bool false), (.sl 1 true []), (.int .i64 0), (.int .i64 0)] [(3, 1, (t 16))]), o 5 (.alloc [(.bool false), (.bool false), (.bool false), (.sl 1 true []), (.int .i64 0), (.int .i64 0)]), w (.store 6 (t 5) (t 17))])
 (.join (.seq (.ops [o 18 (.fAddr 1 (t 1)), o 19 (.load 1 false (t 18))])
 (.block 0 (.seq (.ops [o 21 (.bin .eql (t 19) (c (.int .i64 2))), o 20 (.mov (t 21))])
 (.cond (t 20) (.ops [o 22 (.fAddr 0 (t 5)), w (.store 1 (t 22) (c (.bool true))), o 23 (.fAddr 1 (t 5)), w (.store 1 (t 23) (c (.bool true)))]) (.seq (.ops [o 25 (.bin .eql (t 19) (c (.int .i64 3))), o 24 (.mov (t 25))])
 (.cond (t 24) (.ops [o 26 (.fAddr 1 (t 5)), w (.store 1 (t 26) (c (.bool true)))]) (.seq (.ops [o 28 (.bin .eql (t 19) (c (.int .i64 4))), o 27 (.mov (t 28))])
 (.cond (t 27) (.ops [o 29 (.fAddr 0 (t 5)), w (.store 1 (t 29) (c (.bool true)))]) (.seq (.ops [o 31 (.bin .eql (t 19) (c (.int .i64 5))), o 30 (.mov (t 31))])
 (.cond (t 30) (.ops [o 33 (.fAddr 3 (t 1)), o 34 (.load 1 false (t 33)), o 35 (.bin .add (t 34) (c (.int .i64 1))), o 36 (.call true (c (.fn 30 [] [])) [(c (.sl 1 true []))]), o 37 (.call true (c (.fn 32 [] [])) [(t 35), (c (.int .i64 2147483648)), (t 36)]), o 32 (.mov (t 37)), o 38 (.ext 0 (t 32)), o 39 (.ext 1 (t 32)), w (.store 6 (t 5) (t 38))]) (.seq (.ops [o 41 (.bin .eql (t 19) (c (.int .i64 6))), o 40 (.mov (t 41))])
 (.cond (t 40) (.ops [o 43 (.fAddr 3 (t 1)), o 44 (.load 1 false (t 43)), o 45 (.bin .sub (t 44) (c (.int .i64 1))), o 46 (.call true (c (.fn 30 [] [])) [(c (.sl 1 true []))]), o 47 (.call true (c (.fn 32 [] [])) [(c (.int .i64 (-2147483648))), (t 45), (t 46)]), o 42 (.mov (t 47)), o 48 (.ext 0 (t 42)), o 49 (.ext 1 (t 42)), w (.store 6 (t 5) (t 48))]) .skip))))))))))))
 (.seq (.ops [o 50 (.load 6 true (t 5)), w (.store 6 (t 2) (t 50)), o 3 (.mov (c (.int .i64 0)))])
 .ret)))))⟩
def c27 : Func :=
⟨1, 28, [.tmp 2, .tmp 3],
 (.seq (.ops [o 2 (.mov (c (.int .i64 0))), o 3 (.mov (c (.bool false)))])
 (.seq (.ops [o 7 (.mov (t 0)), o 8 (.call false (c (.fn 39 [] [])) [(t 7), (c (.int .i64 10)), (c (.int .i64 64))]), o 6 (.mov (t 8)), o 9 (.ext 0 (t 6)), o 10 (.ext 1 (t 6)), o 4 (.mov (t 9)), o 5 (.mov (t 10))])
 (.seq (.seq (.ops [o 11 (.mov (t 5)), o 12 (.eqn true (t 11) (c .nili)), o 13 (.mov (t 12)), ⟨some 14, .mov (t 4), some (13, false)⟩, ⟨some 15, .bin .lss (t 14) (c (.int .i64 (-2147483648))), some (13, false)⟩, o 16 (.pick (t 13) (c (.bool true)) (t 15)), o 17 (.mov (t 16)), ⟨some 18, .mov (t 4), some (17, false)⟩, ⟨some 19, .bin .gtr (t 18) (c (.int .i64 2147483648)), some (17, false)⟩, o 20 (.pick (t 17) (c (.bool true)) (t 19)), o 21 (.mov (t 20)), ⟨some 22, .mov (t 4), some (21, false)⟩, ⟨some 23, .call false (c (.fn 40 [] [])) [(t 22), (c (.int .i64 10))], some (21, false)⟩, ⟨some 24, .mov (t 0), some (21, false)⟩, ⟨some 25, .bin .neq (t 23) (t 24), some (21, false)⟩, o 26 (.pick (t 21) (c (.bool true)) (t 25))])
 (.cond (t 26) (.seq (.ops [o 2 (.mov (c (.int .i64 0))), o 3 (.mov (c (.bool false)))])
 .ret) .skip))
 (.seq (.ops [o 27 (.mov (t 4)), o 2 (.mov (t 27)), o 3 (.mov (c (.bool true)))])
 .ret))))⟩
def c14 : Func :=
⟨1, 50, [.tmp 2],
 (.seq (.ops [o 2 (.mov (c (.bool false)))])
 (.seq (.seq (.ops [o 6 (.mov (t 0)), o 7 (.cvSB (t 6)), o 8 (.lenSl (t 7)), o 9 (.mov (c (.int .i64 0)))])
 (.block 0 (.loop (.seq (.ops [o 10 (.bin .lss (t 9) (t 8))])
 (.seq (.cond (t 10) .skip (.exit 0))
 (.seq (.block 1 (.seq (.ops [o 11 (.mov (t 9)), o 12 (.iAddrS 1 (t 7) (t 9)), o 13 (.load 1 false (t 12)), o 3 (.mov (t 11)), o 4 (.mov (t 13))])
 (.seq (.ops [o 14 (.mov (t 4)), o 15 (.bin .geq (t 14) (c (.int .u8 97))), o 16 (.mov (t 15)), ⟨some 17, .mov (t 4), some (16, true)⟩, ⟨some 18, .bin .leq (t 17) (c (.int .u8 122)), some (16, true)⟩, o 19 (.pick (t 16) (t 18) (c (.bool false))), o 5 (.mov (t 19))])
 (.seq (.ops [o 20 (.mov (t 5)), o 21 (.un .not (t 20)), o 22 (.mov (t 21)), ⟨some 23, .mov (t 3), some (22, true)⟩, ⟨some 24, .bin .eql (t 23) (c (.int .i64 0)), some (22, true)⟩, ⟨some 25, .mov (t 24), some (22, true)⟩, ⟨some 26, .mov (t 4), some (25, false)⟩, ⟨some 27, .bin .neq (t 26) (c (.int .u8 46)), some (25, false)⟩, ⟨some 28, .mov (t 27), some (25, false)⟩, ⟨some 29, .mov (t 4), some (28, true)⟩, ⟨some 30, .bin .neq (t 29) (c (.int .u8 45)), some (28, true)⟩, ⟨some 31, .pick (t 28) (t 30) (c (.bool false)), some (25, false)⟩, ⟨some 32, .mov (t 31), some (25, false)⟩, ⟨some 33, .mov (t 4), some (32, true)⟩, ⟨some 34, .bin .lss (t 33) (c (.int .u8 48)), some (32, true)⟩, ⟨some 35, .mov (t 34), some (32, true)⟩, ⟨some 36, .mov (t 4), some (35, false)⟩, ⟨some 37, .bin .gtr (t 36) (c (.int .u8 57)), some (35, false)⟩, ⟨some 38, .pick (t 35) (c (.bool true)) (t 37), some (32, true)⟩, ⟨some 39, .pick (t 32) (t 38) (c (.bool false)), some (25, false)⟩, ⟨some 40, .pick (t 25) (c (.bool true)) (t 39), some (22, true)⟩, o 41 (.pick (t 22) (t 40) (c (.bool false)))])
 (.cond (t 41) (.seq (.ops [o 2 (.mov (c (.bool false)))])
 .ret) .skip)))))
 (.ops [o 42 (.bin .add (t 9) (c (.int .i64 1))), o 9 (.mov (t 42))])))))))
 (.seq (.ops [o 43 (.mov (t 0)), o 44 (.bin .neq (t 43) (c (.str ⟨#[]⟩))), o 45 (.mov (t 44)), ⟨some 46, .mov (t 0), some (45, true)⟩, ⟨some 47, .lenStr (t 46), some (45, true)⟩, ⟨some 48, .bin .leq (t 47) (c (.int .i64 16)), some (45, true)⟩, o 49 (.pick (t 45) (t 48) (c (.bool false))), o 2 (.mov (t 49))])
 .ret)))⟩
def c15 : Func :=
⟨1, 15, [.tmp 2],
 (.seq (.ops [o 2 (.mov (c (.bool false)))])
 (.seq (.ops [o 6 (.mov (t 0)), o 7 (.call false (c (.fn 27 [] [])) [(t 6)]), o 5 (.mov (t 7)), o 8 (.ext 0 (t 5)), o 9 (.ext 1 (t 5)), o 3 (.mov (t 8)), o 4 (.mov (t 9))])
 (.seq (.ops [o 10 (.mov (t 4)), o 11 (.mov (t 10)), ⟨some 12, .mov (t 0), some (11, false)⟩, ⟨some 13, .call false (c (.fn 14 [] [])) [(t 12)], some (11, false)⟩, o 14 (.pick (t 11) (c (.bool true)) (t 13)), o 2 (.mov (t 14))])
 .ret)))⟩
def c28 : Func :=
⟨1, 125, [.tmp 2],
 (.seq (.ops [o 1 (.box (t 0)), o 2 (.mov (c (.int .i64 0)))])
 (.join (.ops [o 8 (.fAddr 3 (t 1)), o 9 (.load 1 false (t 8)), o 10 (.lenSl (t 9)), o 11 (.bin .gtr (t 10) (c (.int .i64 64))), o 12 (.mov (t 11)), ⟨some 13, .fAddr 2 (t 1), some (12, false)⟩, ⟨some 14, .load 1 false (t 13), some (12, false)⟩, ⟨some 15, .mov (t 14), some (12, false)⟩, ⟨some 16, .fAddr 1 (t 1), some (15, true)⟩, ⟨some 17, .load 1 false (t 16), some (15, true)⟩, ⟨some 18, .un .not (t 17), some (15, true)⟩, ⟨some 19, .pick (t 15) (t 18) (c (.bool false)), some (12, false)⟩, o 20 (.pick (t 12) (c (.bool true)) (t 19)), o 21 (.mov (t 20)), ⟨some 22, .fAddr 2 (t 1), some (21, false)⟩, ⟨some 23, .load 1 false (t 22), some (21, false)⟩, ⟨some 24, .un .not (t 23), some (21, false)⟩, ⟨some 25, .mov (t 24), some (21, false)⟩, ⟨some 26, .fAddr 4 (t 1), some (25, true)⟩, ⟨some 27, .load 1 false (t 26), some (25, true)⟩, ⟨some 28, .bin .neq (t 27) (c (.int .i64 0)), some (25, true)⟩, ⟨some 29, .mov (t 28), some (25, true)⟩, ⟨some 30, .fAddr 5 (t 1), some (29, false)⟩, ⟨some 31, .load 1 false (t 30), some (29, false)⟩, ⟨some 32, .bin .neq (t 31) (c (.int .i64 0)), some (29, false)⟩, ⟨some 33, .pick (t 29) (c (.bool true)) (t 32), some (25, true)⟩, ⟨some 34, .pick (t 25) (t 33) (c (.bool false)), some (21, false)⟩, o 35 (.pick (t 21) (c (.bool true)) (t 34)), o 3 (.mov (t 35))])
 (.seq (.seq (.ops [o 36 (.fAddr 3 (t 1)), o 37 (.load 1 false (t 36)), o 38 (.lenSl (t 37)), o 39 (.mov (c (.int .i64 0)))])
 (.block 0 (.loop (.seq (.ops [o 40 (.bin .lss (t 39) (t 38))])
 (.seq (.cond (t 40) .skip (.exit 0))
 (.seq (.block 1 (.seq (.ops [o 41 (.mov (t 39)), o 42 (.iAddrS 1 (t 37) (t 39)), o 43 (.load 1 false (t 42)), o 4 (.mov (t 41)), o 5 (.mov (t 43))])
 (.join (.ops [o 44 (.mov (t 3)), o 45 (.mov (t 44)), ⟨some 46, .mov (t 5), some (45, false)⟩, ⟨some 47, .call false (c (.fn 15 [] [])) [(t 46)], some (45, false)⟩, ⟨some 48, .un .not (t 47), some (45, false)⟩, o 49 (.pick (t 45) (c (.bool true)) (t 48)), o 50 (.mov (t 49)), ⟨some 51, .mov (t 4), some (50, false)⟩, ⟨some 52, .bin .gtr (t 51) (c (.int .i64 0)), some (50, false)⟩, ⟨some 53, .mov (t 52), some (50, false)⟩, ⟨some 54, .fAddr 3 (t 1), some (53, true)⟩, ⟨some 55, .load 1 false (t 54), some (53, true)⟩, ⟨some 56, .mov (t 4), some (53, true)⟩, ⟨some 57, .bin .sub (t 56) (c (.int .i64 1)), some (53, true)⟩, ⟨some 58, .iAddrS 1 (t 55) (t 57), some (53, true)⟩, ⟨some 59, .load 1 false (t 58), some (53, true)⟩, ⟨some 60, .mov (t 5), some (53, true)⟩, ⟨some 61, .bin .geq (t 59) (t 60), some (53, true)⟩, ⟨some 62, .pick (t 53) (t 61) (c (.bool false)), some (50, false)⟩, o 63 (.pick (t 50) (c (.bool true)) (t 62)), o 3 (.mov (t 63))])
 (.seq (.ops [o 64 (.fAddr 2 (t 1)), o 65 (.load 1 false (t 64)), o 66 (.mov (t 65)), ⟨some 67, .mov (t 3), some (66, true)⟩, ⟨some 68, .un .not (t 67), some (66, true)⟩, o 69 (.pick (t 66) (t 68) (c (.bool false)))])
 (.cond (t 69) (.seq (.ops [o 71 (.mov (t 5)), o 72 (.call false (c (.fn 27 [] [])) [(t 71)]), o 70 (.mov (t 72)), o 73 (.ext 0 (t 70)), o 74 (.ext 1 (t 70)), o 6 (.mov (t 73)), o 7 (.mov (t 74))])
 (.ops [o 75 (.mov (t 7)), o 76 (.un .not (t 75)), o 77 (.mov (t 76)), ⟨some 78, .mov (t 6), some (77, false)⟩, ⟨some 79, .fAddr 4 (t 1), some (77, false)⟩, ⟨some 80, .load 1 false (t 79), some (77, false)⟩, ⟨some 81, .bin .leq (t 78) (t 80), some (77, false)⟩, o 82 (.pick (t 77) (c (.bool true)) (t 81)), o 83 (.mov (t 82)), ⟨some 84, .mov (t 6), some (83, false)⟩, ⟨some 85, .fAddr 5 (t 1), some (83, false)⟩, ⟨some 86, .load 1 false (t 85), some (83, false)⟩, ⟨some 87, .bin .geq (t 84) (t 86), some (83, false)⟩, o 88 (.pick (t 83) (c (.bool true)) (t 87)), o 3 (.mov (t 88))])) .skip)))))
 (.ops [o 89 (.bin .add (t 39) (c (.int .i64 1))), o 39 (.mov (t 89))])))))))
 (.join (.seq (.ops [o 90 (.fAddr 2 (t 1)), o 91 (.load 1 false (t 90)), o 92 (.mov (t 91)), ⟨some 93, .mov (t 3), some (92, true)⟩, ⟨some 94, .un .not (t 93), some (92, true)⟩, o 95 (.pick (t 92) (t 94) (c (.bool false)))])
 (.cond (t 95) (.ops [o 96 (.fAddr 4 (t 1)), o 97 (.load 1 false (t 96)), o 98 (.bin .lss (t 97) (c (.int .i64 (-2147483648)))), o 99 (.mov (t 98)), ⟨some 100, .fAddr 5 (t 1), some (99, false)⟩, ⟨some 101, .load 1 false (t 100), some (99, false)⟩, ⟨some 102, .bin .gtr (t 101) (c (.int .i64 2147483648)), some (99, false)⟩, o 103 (.pick (t 99) (c (.bool true)) (t 102)), o 104 (.mov (t 103)), ⟨some 105, .fAddr 4 (t 1), some (104, false)⟩, ⟨some 106, .load 1 false (t 105), some (104, false)⟩, ⟨some 107, .fAddr 5 (t 1), some (104, false)⟩, ⟨some 108, .load 1 false (t 107), some (104, false)⟩, ⟨some 109, .bin .gtr (t 106) (t 108), some (104, false)⟩, o 110 (.pick (t 104) (c (.bool true)) (t 109)), o 111 (.mov (t 110)), ⟨some 112, .fAddr 5 (t 1), some (111, false)⟩, ⟨some 113, .load 1 false (t 112), some (111, false)⟩, ⟨some 114, .fAddr 4 (t 1), some (111, false)⟩, ⟨some 115, .load 1 false (t 114), some (111, false)⟩, ⟨some 116, .bin .sub (t 113) (t 115), some (111, false)⟩, ⟨some 117, .bin .add (t 116) (c (.int .i64 1)), some (111, false)⟩, ⟨some 118, .fAddr 3 (t 1), some (111, false)⟩, ⟨some 119, .load 1 false (t 118), some (111, false)⟩, ⟨some 120, .lenSl (t 119), some (111, false)⟩, ⟨some 121, .bin .sub (t 117) (t 120), some (111, false)⟩, ⟨some 122, .bin .leq (t 121) (c (.int .i64 64)), some (111, false)⟩, o 123 (.pick (t 111) (c (.bool true)) (t 122)), o 3 (.mov (t 123))]) .skip))
 (.seq (.seq (.ops [o 124 (.mov (t 3))])
 (.cond (t 124) (.seq (.ops [o 2 (.mov (c (.int .i64 1)))])
 .ret) .skip))
 (.seq (.ops [o 2 (.mov (c (.int .i64 0)))])
 .ret))))))⟩
def c17 : Func :=
⟨2, 123, [.cell 4 6 true, .tmp 5],
 (.seq (.ops [o 2 (.box (t 0)), o 3 (.box (t 1)), o 4 (.alloc [(.bool false), (.bool false), (.bool false), (.sl 1 true []), (.int .i64 0), (.int .i64 0)]), o 5 (.mov (c (.int .i64 0)))])
 (.seq (.seq (.ops [o 13 (.load 6 true (t 2)), o 14 (.call false (c (.fn 28 [] [])) [(t 13)]), o 6 (.mov (t 14))])
 (.seq (.ops [o 15 (.mov (t 6)), o 16 (.bin .neq (t 15) (c (.int .i64 0)))])
 (.cond (t 16) (.seq (.ops [o 17 (.build [(.bool false), (.bool false), (.bool false), (.sl 1 true []), (.int .i64 0), (.int .i64 0)] []), o 18 (.mov (t 6)), w (.store 6 (t 4) (t 17)), o 5 (.mov (t 18))])
 .ret) .skip)))
 (.seq (.seq (.ops [o 19 (.load 6 true (t 3)), o 20 (.call false (c (.fn 28 [] [])) [(t 19)]), o 7 (.mov (t 20))])
 (.seq (.ops [o 21 (.mov (t 7)), o 22 (.bin .neq (t 21) (c (.int .i64 0)))])
 (.cond (t 22) (.seq (.ops [o 23 (.build [(.bool false), (.bool false), (.bool false), (.sl 1 true []), (.int .i64 0), (.int .i64 0)] []), o 24 (.mov (t 7)), w (.store 6 (t 4) (t 23)), o 5 (.mov (t 24))])
 .ret) .skip)))
 (.join (.seq (.ops [o 25 (.fAddr 1 (t 2)), o 26 (.load 1 false (t 25)), o 27 (.mov (t 26)), ⟨some 28, .fAddr 1 (t 3), some (27, true)⟩, ⟨some 29, .load 1 false (t 28), some (27, true)⟩, ⟨some 30, .un .not (t 29), some (27, true)⟩, o 31 (.pick (t 27) (t 30) (c (.bool false))), o 32 (.mov (t 31)), ⟨some 33, .fAddr 2 (t 2), some (32, false)⟩, ⟨some 34, .load 1 false (t 33), some (32, false)⟩, ⟨some 35, .mov (t 34), some (32, false)⟩, ⟨some 36, .fAddr 1 (t 3), some (35, true)⟩, ⟨some 37, .load 1 false (t 36), some (35, true)⟩, ⟨some 38, .pick (t 35) (t 37) (c (.bool false)), some (32, false)⟩, ⟨some 39, .mov (t 38), some (32, false)⟩, ⟨some 40, .fAddr 2 (t 3), some (39, true)⟩, ⟨some 41, .load 1 false (t 40), some (39, true)⟩, ⟨some 42, .un .not (t 41), some (39, true)⟩, ⟨some 43, .pick (t 39) (t 42) (c (.bool false)), some (32, false)⟩, o 44 (.pick (t 32) (c (.bool true)) (t 43))])
 (.cond (t 44) (.ops [o 45 (.load 6 true (t 3)), o 46 (.load 6 true (t 2)), w (.store 6 (t 2) (t 45)), w (.store 6 (t 3) (t 46))]) .skip))
 (.seq (.ops [o 8 (.alloc [(.bool false), (.bool false), (.bool false), (.sl 1 true []), (.int .i64 0), (.int .i64 0)])])
 (.seq (.ops [o 9 (.mov (c (.bool true)))])
 (.join (.seq (.ops [o 47 (.fAddr 3 (t 2)), o 48 (.load 1 false (t 47)), o 49 (.fAddr 3 (t 3)), o 50 (.load 1 false (t 49)), o 51 (.mkSl true 1 33 (.sl 1 true []) 2 [(0, (t 48)), (1, (t 50))]), o 52 (.icall (c (.fn 30 [] [])) [(t 51)]), o 10 (.mov (t 52))])
 (.block 0 (.seq (.ops [o 69 (.fAddr 1 (t 2)), o 70 (.load 1 false (t 69)), o 71 (.un .not (t 70)), o 68 (.mov (t 71))])
 (.cond (t 68) (.seq (.ops [o 72 (.fAddr 3 (t 2)), o 73 (.load 1 false (t 72)), o 74 (.lenSl (t 73)), o 75 (.mov (c (.int .i64 0)))])
 (.gh (.cell 8 150 3 1 9) (.block 1 (.loop (.seq (.ops [o 76 (.bin .lss (t 75) (t 74))])
 (.seq (.cond (t 76) .skip (.exit 1))
 (.seq (.block 2 (.seq (.ops [o 77 (.iAddrS 1 (t 73) (t 75)), o 78 (.load 1 false (t 77)), o 12 (.mov (t 78))])
 (.seq (.ops [o 79 (.load 6 true (t 3)), o 80 (.mov (t 12)), o 81 (.call false (c (.fn 29 [] [])) [(t 79), (t 80)])])
 (.cond (t 81) (.ops [o 82 (.fAddr 3 (t 8)), o 83 (.load 1 false (t 82)), o 84 (.mov (t 12)), o 85 (.mkSl false 1 9 (.str ⟨#[]⟩) 1 [(0, (t 84))]), o 86 (.app 1 9 16 (t 83) (t 85)), o 87 (.fAddr 3 (t 8)), w (.store 1 (t 87) (t 86))]) .skip))))
 (.ops [o 88 (.bin .add (t 75) (c (.int .i64 1))), o 75 (.mov (t 88))])))))))) (.seq (.ops [o 90 (.fAddr 2 (t 3)), o 91 (.load 1 false (t 90)), o 92 (.un .not (t 91)), o 89 (.mov (t 92))])
 (.cond (t 89) (.seq (.ops [o 93 (.mov (t 10)), o 94 (.call false (c (.fn 31 [] [])) [(t 93)]), o 95 (.build [(.bool false), (.bool false), (.bool false), (.sl 1 true []), (.int .i64 0), (.int .i64 0)] [(1, 1, (c (.bool true))), (3, 1, (t 94))]), w (.store 6 (t 8) (t 95))])
 (.ops [o 96 (.mov (t 10)), o 97 (.lenMap (t 96)), o 98 (.bin .leq (t 97) (c (.int .i64 64))), o 9 (.mov (t 98))])) (.seq (.ops [o 100 (.fAddr 2 (t 2)), o 101 (.load 1 false (t 100)), o 102 (.un .not (t 101)), o 99 (.mov (t 102))])
 (.cond (t 99) (.ops [o 104 (.fAddr 4 (t 3)), o 105 (.load 1 false (t 104)), o 106 (.fAddr 5 (t 3)), o 107 (.load 1 false (t 106)), o 108 (.mov (t 10)), o 109 (.icall (c (.fn 32 [] [])) [(t 105), (t 107), (t 108)]), o 103 (.mov (t 109)), o 110 (.ext 0 (t 103)), o 111 (.ext 1 (t 103)), w (.store 6 (t 8) (t 110)), o 9 (.mov (t 111))]) (.ops [o 54 (.fAddr 4 (t 2)), o 55 (.load 1 false (t 54)), o 56 (.fAddr 4 (t 3)), o 57 (.load 1 false (t 56)), o 58 (.mm true .i64 (t 55) [(t 57)]), o 59 (.fAddr 5 (t 2)), o 60 (.load 1 false (t 59)), o 61 (.fAddr 5 (t 3)), o 62 (.load 1 false (t 61)), o 63 (.mm false .i64 (t 60) [(t 62)]), o 64 (.mov (t 10)), o 65 (.icall (c (.fn 32 [] [])) [(t 58), (t 63), (t 64)]), o 53 (.mov (t 65)), o 66 (.ext 0 (t 53)), o 67 (.ext 1 (t 53)), w (.store 6 (t 8) (t 66)), o 9 (.mov (t 67))])))))))))
 (.seq (.seq (.ops [o 112 (.mov (t 9)), o 113 (.un .not (t 112))])
 (.cond (t 113) (.seq (.ops [o 114 (.build [(.bool false), (.bool false), (.bool false), (.sl 1 true []), (.int .i64 0), (.int .i64 0)] []), w (.store 6 (t 4) (t 114)), o 5 (.mov (c (.int .i64 3)))])
 .ret) .skip))
 (.seq (.ops [o 115 (.fAddr 0 (t 2)), o 116 (.load 1 false (t 115)), o 117 (.mov (t 116)), ⟨some 118, .fAddr 0 (t 3), some (117, true)⟩, ⟨some 119, .load 1 false (t 118), some (117, true)⟩, o 120 (.pick (t 117) (t 119) (c (.bool false))), o 121 (.fAddr 0 (t 8)), w (.store 1 (t 121) (t 120))])
 (.seq (.ops [o 122 (.load 6 true (t 8)), w (.store 6 (t 4) (t 122)), o 5 (.mov (c (.int .i64 0)))])
 .ret))))))))))⟩
def c16 : Func :=
⟨2, 17, [.tmp 4],
 (.seq (.ops [o 2 (.box (t 0)), o 4 (.mov (c (.bool false)))])
 (.seq (.ops [o 5 (.load 6 true (t 2)), o 6 (.call false (c (.fn 28 [] [])) [(t 5)]), o 7 (.bin .eql (t 6) (c (.int .i64 0))), o 8 (.mov (t 7)), ⟨some 9, .mov (t 1), some (8, true)⟩, ⟨some 10, .call false (c (.fn 15 [] [])) [(t 9)], some (8, true)⟩, o 11 (.pick (t 8) (t 10) (c (.bool false))), o 12 (.mov (t 11)), ⟨some 13, .load 6 true (t 2), some (12, true)⟩, ⟨some 14, .mov (t 1), some (12, true)⟩, ⟨some 15, .call false (c (.fn 29 [] [])) [(t 13), (t 14)], some (12, true)⟩, o 16 (.pick (t 12) (t 15) (c (.bool false))), o 4 (.mov (t 16))])
 .ret))⟩
def c25 : Func :=
⟨1, 22, [.tmp 2],
 (.seq (.ops [o 1 (.box (t 0)), o 2 (.mov (c (.bool false)))])
 (.seq (.ops [o 3 (.load 6 true (t 1)), o 4 (.call false (c (.fn 28 [] [])) [(t 3)]), o 5 (.bin .eql (t 4) (c (.int .i64 0))), o 6 (.mov (t 5)), ⟨some 7, .fAddr 1 (t 1), some (6, true)⟩, ⟨some 8, .load 1 false (t 7), some (6, true)⟩, ⟨some 9, .un .not (t 8), some (6, true)⟩, o 10 (.pick (t 6) (t 9) (c (.bool false))), o 11 (.mov (t 10)), ⟨some 12, .fAddr 0 (t 1), some (11, true)⟩, ⟨some 13, .load 1 false (t 12), some (11, true)⟩, ⟨some 14, .un .not (t 13), some (11, true)⟩, o 15 (.pick (t 11) (t 14) (c (.bool false))), o 16 (.mov (t 15)), ⟨some 17, .fAddr 3 (t 1), some (16, true)⟩, ⟨some 18, .load 1 false (t 17), some (16, true)⟩, ⟨some 19, .lenSl (t 18), some (16, true)⟩, ⟨some 20, .bin .eql (t 19) (c (.int .i64 0)), some (16, true)⟩, o 21 (.pick (t 16) (t 20) (c (.bool false))), o 2 (.mov (t 21))])
 .ret))⟩
def c36 : Func :=
⟨1, 73, [.tmp 2],
 (.seq (.ops [o 1 (.box (t 0)), o 2 (.mov (c (.int .i64 0)))])
 (.join (.ops [o 5 (.fAddr 1 (t 1)), o 6 (.load 1 false (t 5)), o 7 (.bin .eql (t 6) (c (.int .i64 1))), o 8 (.mov (t 7)), ⟨some 9, .fAddr 1 (t 1), some (8, false)⟩, ⟨some 10, .load 1 false (t 9), some (8, false)⟩, ⟨some 11, .bin .eql (t 10) (c (.int .i64 2)), some (8, false)⟩, o 12 (.pick (t 8) (c (.bool true)) (t 11)), o 3 (.mov (t 12))])
 (.join (.ops [o 13 (.fAddr 1 (t 1)), o 14 (.load 1 false (t 13)), o 15 (.bin .eql (t 14) (c (.int .i64 5))), o 16 (.mov (t 15)), ⟨some 17, .fAddr 1 (t 1), some (16, false)⟩, ⟨some 18, .load 1 false (t 17), some (16, false)⟩, ⟨some 19, .bin .eql (t 18) (c (.int .i64 6)), some (16, false)⟩, o 20 (.pick (t 16) (c (.bool true)) (t 19)), o 4 (.mov (t 20))])
 (.seq (.block 0 (.seq (.ops [o 22 (.fAddr 0 (t 1)), o 23 (.load 1 false (t 22)), o 24 (.call false (c (.fn 14 [] [])) [(t 23)]), o 25 (.un .not (t 24)), o 21 (.mov (t 25))])
 (.cond (t 21) (.seq (.ops [o 2 (.mov (c (.int .i64 7)))])
 .ret) (.join (.seq (.ops [o 27 (.fAddr 1 (t 1)), o 28 (.load 1 false (t 27)), o 29 (.bin .lss (t 28) (c (.int .i64 1))), o 30 (.mov (t 29)), ⟨some 31, .fAddr 1 (t 1), some (30, false)⟩, ⟨some 32, .load 1 false (t 31), some (30, false)⟩, ⟨some 33, .bin .gtr (t 32) (c (.int .i64 6)), some (30, false)⟩, o 34 (.pick (t 30) (c (.bool true)) (t 33)), o 26 (.mov (t 34))])
 (.cond (t 26) .skip (.seq (.ops [o 35 (.mov (t 3)), o 36 (.fAddr 2 (t 1)), o 37 (.load 1 false (t 36)), o 38 (.lenSl (t 37)), o 39 (.bin .gtr (t 38) (c (.int .i64 0))), o 40 (.eqb true (t 35) (t 39)), o 26 (.mov (t 40))])
 (.cond (t 26) .skip (.seq (.ops [o 41 (.mov (t 4)), o 42 (.un .not (t 41)), o 43 (.mov (t 42)), ⟨some 44, .fAddr 3 (t 1), some (43, true)⟩, ⟨some 45, .load 1 false (t 44), some (43, true)⟩, ⟨some 46, .bin .neq (t 45) (c (.int .i64 0)), some (43, true)⟩, o 47 (.pick (t 43) (t 46) (c (.bool false))), o 26 (.mov (t 47))])
 (.cond (t 26) .skip (.seq (.ops [o 48 (.fAddr 3 (t 1)), o 49 (.load 1 false (t 48)), o 50 (.bin .lss (t 49) (c (.int .i64 (-2147483648)))), o 26 (.mov (t 50))])
 (.cond (t 26) .skip (.ops [o 51 (.fAddr 3 (t 1)), o 52 (.load 1 false (t 51)), o 53 (.bin .gtr (t 52) (c (.int .i64 2147483648))), o 26 (.mov (t 53))])))))))))
 (.cond (t 26) (.seq (.ops [o 2 (.mov (c (.int .i64 30)))])
 .ret) (.seq (.ops [o 55 (.fAddr 2 (t 1)), o 56 (.load 1 false (t 55)), o 57 (.lenSl (t 56)), o 58 (.bin .gtr (t 57) (c (.int .i64 8))), o 54 (.mov (t 58))])
 (.cond (t 54) (.seq (.ops [o 2 (.mov (c (.int .i64 3)))])
 .ret) (.seq (.ops [o 60 (.fAddr 2 (t 1)), o 61 (.load 1 false (t 60)), o 62 (.call false (c (.fn 55 [] [])) [(t 61), (c (.fn 56 [] []))]), o 59 (.mov (t 62))])
 (.cond (t 59) (.seq (.ops [o 2 (.mov (c (.int .i64 20)))])
 .ret) (.seq (.ops [o 64 (.fAddr 2 (t 1)), o 65 (.load 1 false (t 64)), o 66 (.mkSl true 1 33 (.sl 1 true []) 1 [(0, (t 65))]), o 67 (.call true (c (.fn 30 [] [])) [(t 66)]), o 68 (.lenMap (t 67)), o 69 (.fAddr 2 (t 1)), o 70 (.load 1 false (t 69)), o 71 (.lenSl (t 70)), o 72 (.bin .lss (t 68) (t 71)), o 63 (.mov (t 72))])
 (.cond (t 63) (.seq (.ops [o 2 (.mov (c (.int .i64 6)))])
 .ret) .skip)))))))))))
 (.seq (.ops [o 2 (.mov (c (.int .i64 0)))])
 .ret)))))⟩
def c31 : Func :=
⟨1, 6, [.tmp 2],
 (.seq (.ops [o 2 (.mov (c (.sl 1 true [])))])
 (.seq (.ops [o 3 (.mov (t 0)), o 4 (.call false (c (.fn 43 [] [])) [(t 3)]), o 5 (.call false (c (.fn 42 [] [])) [(t 4)]), o 2 (.mov (t 5))])
 .ret))⟩
def c30 : Func :=
⟨1, 26, [.tmp 2],
 (.seq (.ops [o 2 (.mov (c .nilm))])
 (.seq (.ops [o 8 (.mkMap), o 3 (.mov (t 8))])
 (.seq (.seq (.ops [o 9 (.mov (t 0)), o 10 (.lenSl (t 9)), o 11 (.mov (c (.int .i64 0)))])
 (.block 0 (.loop (.seq (.ops [o 12 (.bin .lss (t 11) (t 10))])
 (.seq (.cond (t 12) .skip (.exit 0))
 (.seq (.block 1 (.seq (.ops [o 13 (.iAddrS 1 (t 9) (t 11)), o 14 (.load 1 false (t 13)), o 5 (.mov (t 14))])
 (.seq (.ops [o 15 (.mov (t 5)), o 16 (.lenSl (t 15)), o 17 (.mov (c (.int .i64 0)))])
 (.block 2 (.loop (.seq (.ops [o 18 (.bin .lss (t 17) (t 16))])
 (.seq (.cond (t 18) .skip (.exit 2))
 (.seq (.block 3 (.seq (.ops [o 19 (.iAddrS 1 (t 15) (t 17)), o 20 (.load 1 false (t 19)), o 7 (.mov (t 20))])
 (.ops [o 21 (.mov (t 3)), o 22 (.mov (t 7)), w (.mput (false, [(0, .str)]) (t 21) (t 22) (c (.bool true)))])))
 (.ops [o 23 (.bin .add (t 17) (c (.int .i64 1))), o 17 (.mov (t 23))])))))))))
 (.ops [o 24 (.bin .add (t 11) (c (.int .i64 1))), o 11 (.mov (t 24))])))))))
 (.seq (.ops [o 25 (.mov (t 3)), o 2 (.mov (t 25))])
 .ret))))⟩
def c32 : Func :=
⟨3, 95, [.cell 6 6 true, .tmp 7],
 (.seq (.ops [o 6 (.alloc [(.bool false), (.bool false), (.bool false), (.sl 1 true []), (.int .i64 0), (.int .i64 0)]), o 7 (.mov (c (.bool false)))])
 (.join (.block 0 (.loop (.seq (.seq (.ops [o 14 (.mov (t 0)), o 15 (.mov (t 1)), o 16 (.bin .leq (t 14) (t 15)), o 17 (.mov (t 16)), ⟨some 18, .mov (t 2), some (17, true)⟩, ⟨some 19, .mov (t 0), some (17, true)⟩, ⟨some 20, .call false (c (.fn 40 [] [])) [(t 19), (c (.int .i64 10))], some (17, true)⟩, ⟨some 21, .look (false, [(0, .str)]) (.bool false) false (t 18) (t 20), some (17, true)⟩, o 22 (.pick (t 17) (t 21) (c (.bool false)))])
 (.cond (t 22) .skip (.exit 0)))
 (.block 1 (.ops [o 23 (.mov (t 0)), o 24 (.bin .add (t 23) (c (.int .i64 1))), o 0 (.mov (t 24))])))))
 (.join (.block 2 (.loop (.seq (.seq (.ops [o 25 (.mov (t 0)), o 26 (.mov (t 1)), o 27 (.bin .leq (t 25) (t 26)), o 28 (.mov (t 27)), ⟨some 29, .mov (t 2), some (28, true)⟩, ⟨some 30, .mov (t 1), some (28, true)⟩, ⟨some 31, .call false (c (.fn 40 [] [])) [(t 30), (c (.int .i64 10))], some (28, true)⟩, ⟨some 32, .look (false, [(0, .str)]) (.bool false) false (t 29) (t 31), some (28, true)⟩, o 33 (.pick (t 28) (t 32) (c (.bool false)))])
 (.cond (t 33) .skip (.exit 2)))
 (.block 3 (.ops [o 34 (.mov (t 1)), o 35 (.bin .sub (t 34) (c (.int .i64 1))), o 1 (.mov (t 35))])))))
 (.join (.seq (.ops [o 36 (.mov (t 2)), o 37 (.mkIter (t 36))])
 (.block 4 (.loop (.seq (.ops [o 38 (.next (t 37)), o 39 (.ext 0 (t 38))])
 (.seq (.cond (t 39) .skip (.exit 4))
 (.block 5 (.seq (.ops [o 40 (.entry (t 37)), o 41 (.ext 0 (t 40)), o 8 (.mov (t 41))])
 (.seq (.ops [o 43 (.mov (t 8)), o 44 (.call false (c (.fn 27 [] [])) [(t 43)]), o 42 (.mov (t 44)), o 45 (.ext 0 (t 42)), o 46 (.ext 1 (t 42)), o 9 (.mov (t 45)), o 10 (.mov (t 46))])
 (.seq (.ops [o 47 (.mov (t 10)), o 48 (.un .not (t 47)), o 49 (.mov (t 48)), ⟨some 50, .mov (t 9), some (49, false)⟩, ⟨some 51, .mov (t 0), some (49, false)⟩, ⟨some 52, .bin .leq (t 50) (t 51), some (49, false)⟩, o 53 (.pick (t 49) (c (.bool true)) (t 52)), o 54 (.mov (t 53)), ⟨some 55, .mov (t 9), some (54, false)⟩, ⟨some 56, .mov (t 1), some (54, false)⟩, ⟨some 57, .bin .geq (t 55) (t 56), some (54, false)⟩, o 58 (.pick (t 54) (c (.bool true)) (t 57))])
 (.cond (t 58) (.ops [o 59 (.mov (t 2)), o 60 (.mov (t 8)), w (.mdel (false, [(0, .str)]) (t 59) (t 60))]) .skip))))))))))
 (.seq (.seq (.ops [o 61 (.mov (t 1)), o 62 (.mov (t 0)), o 63 (.bin .sub (t 61) (t 62)), o 64 (.bin .add (t 63) (c (.int .i64 1))), o 65 (.mov (t 2)), o 66 (.lenMap (t 65)), o 67 (.bin .sub (t 64) (t 66)), o 68 (.bin .gtr (t 67) (c (.int .i64 64)))])
 (.cond (t 68) (.seq (.ops [o 69 (.mov (t 2)), o 70 (.call false (c (.fn 31 [] [])) [(t 69)]), o 71 (.mov (t 0)), o 72 (.mov (t 1)), o 73 (.build [(.bool false), (.bool false), (.bool false), (.sl 1 true []), (.int .i64 0), (.int .i64 0)] [(1, 1, (c (.bool true))), (2, 1, (c (.bool true))), (3, 1, (t 70)), (4, 1, (t 71)), (5, 1, (t 72))]), o 74 (.mov (t 2)), o 75 (.lenMap (t 74)), o 76 (.bin .leq (t 75) (c (.int .i64 64))), w (.store 6 (t 6) (t 73)), o 7 (.mov (t 76))])
 .ret) .skip))
 (.seq (.ops [o 77 (.mkMap), o 11 (.mov (t 77))])
 (.seq (.seq (.ops [o 78 (.mov (t 0)), o 12 (.mov (t 78))])
 (.block 6 (.loop (.seq (.seq (.ops [o 79 (.mov (t 12)), o 80 (.mov (t 1)), o 81 (.bin .leq (t 79) (t 80))])
 (.cond (t 81) .skip (.exit 6)))
 (.seq (.block 7 (.seq (.ops [o 84 (.mov (t 12)), o 85 (.call false (c (.fn 40 [] [])) [(t 84), (c (.int .i64 10))]), o 13 (.mov (t 85))])
 (.seq (.ops [o 86 (.mov (t 2)), o 87 (.mov (t 13)), o 88 (.look (false, [(0, .str)]) (.bool false) false (t 86) (t 87)), o 89 (.un .not (t 88))])
 (.cond (t 89) (.ops [o 90 (.mov (t 11)), o 91 (.mov (t 13)), w (.mput (false, [(0, .str)]) (t 90) (t 91) (c (.bool true)))]) .skip))))
 (.ops [o 82 (.mov (t 12)), o 83 (.bin .add (t 82) (c (.int .i64 1))), o 12 (.mov (t 83))]))))))
 (.seq (.ops [o 92 (.mov (t 11)), o 93 (.call false (c (.fn 31 [] [])) [(t 92)]), o 94 (.build [(.bool false), (.bool false), (.bool false), (.sl 1 true []), (.int .i64 0), (.int .i64 0)] [(3, 1, (t 93))]), w (.store 6 (t 6) (t 94)), o 7 (.mov (c (.bool true)))])
 .ret))))))))⟩
def c29 : Func :=
⟨2, 37, [.tmp 4],
 (.seq (.ops [o 2 (.box (t 0)), o 4 (.mov (c (.bool false)))])
 (.seq (.ops [o 8 (.fAddr 3 (t 2)), o 9 (.load 1 false (t 8)), o 10 (.mov (t 1)), o 11 (.call false (c (.fn 41 [] [])) [(t 9), (t 10)]), o 5 (.mov (t 11))])
 (.seq (.seq (.ops [o 12 (.fAddr 1 (t 2)), o 13 (.load 1 false (t 12)), o 14 (.mov (t 5)), o 15 (.eqb true (t 13) (t 14))])
 (.cond (t 15) (.seq (.seq (.ops [o 16 (.fAddr 2 (t 2)), o 17 (.load 1 false (t 16)), o 18 (.un .not (t 17))])
 (.cond (t 18) (.seq (.ops [o 4 (.mov (c (.bool true)))])
 .ret) .skip))
 (.seq (.ops [o 20 (.mov (t 1)), o 21 (.call false (c (.fn 27 [] [])) [(t 20)]), o 19 (.mov (t 21)), o 22 (.ext 0 (t 19)), o 23 (.ext 1 (t 19)), o 6 (.mov (t 22)), o 7 (.mov (t 23))])
 (.seq (.ops [o 24 (.mov (t 7)), o 25 (.mov (t 24)), ⟨some 26, .mov (t 6), some (25, true)⟩, ⟨some 27, .fAddr 4 (t 2), some (25, true)⟩, ⟨some 28, .load 1 false (t 27), some (25, true)⟩, ⟨some 29, .bin .geq (t 26) (t 28), some (25, true)⟩, o 30 (.pick (t 25) (t 29) (c (.bool false))), o 31 (.mov (t 30)), ⟨some 32, .mov (t 6), some (31, true)⟩, ⟨some 33, .fAddr 5 (t 2), some (31, true)⟩, ⟨some 34, .load 1 false (t 33), some (31, true)⟩, ⟨some 35, .bin .leq (t 32) (t 34), some (31, true)⟩, o 36 (.pick (t 31) (t 35) (c (.bool false))), o 4 (.mov (t 36))])
 .ret))) .skip))
 (.seq (.ops [o 4 (.mov (c (.bool false)))])
 .ret))))⟩
def c55 : Func :=
⟨2, 9, [.tmp 4],
 (.seq (.ops [o 4 (.mov (c (.bool false)))])
 (.seq (.ops [o 5 (.mov (t 0)), o 6 (.mov (t 1)), o 7 (.call false (c (.fn 69 [] [])) [(t 5), (t 6)]), o 8 (.bin .geq (t 7) (c (.int .i64 0))), o 4 (.mov (t 8))])
 .ret))⟩
def c56 : Func :=
⟨1, 6, [.tmp 2],
 (.seq (.ops [o 2 (.mov (c (.bool false)))])
 (.seq (.ops [o 3 (.mov (t 0)), o 4 (.call false (c (.fn 15 [] [])) [(t 3)]), o 5 (.un .not (t 4)), o 2 (.mov (t 5))])
 .ret))⟩
def c41 : Func :=
⟨2, 9, [.tmp 4],
 (.seq (.ops [o 4 (.mov (c (.bool false)))])
 (.seq (.ops [o 5 (.mov (t 0)), o 6 (.mov (t 1)), o 7 (.call false (c (.fn 60 [] [])) [(t 5), (t 6)]), o 8 (.bin .geq (t 7) (c (.int .i64 0))), o 4 (.mov (t 8))])
 .ret))⟩
def c69 : Func :=
⟨2, 19, [.tmp 4],
 (.seq (.ops [o 4 (.mov (c (.int .i64 0)))])
 (.seq (.seq (.ops [o 6 (.mov (t 0)), o 7 (.lenSl (t 6)), o 8 (.mov (c (.int .i64 0)))])
 (.block 0 (.loop (.seq (.ops [o 9 (.bin .lss (t 8) (t 7))])
 (.seq (.cond (t 9) .skip (.exit 0))
 (.seq (.block 1 (.seq (.ops [o 10 (.mov (t 8)), o 5 (.mov (t 10))])
 (.seq (.ops [o 11 (.mov (t 1)), o 12 (.mov (t 0)), o 13 (.mov (t 5)), o 14 (.iAddrS 1 (t 12) (t 13)), o 15 (.load 1 false (t 14)), o 16 (.call false (t 11) [(t 15)])])
 (.cond (t 16) (.seq (.ops [o 17 (.mov (t 5)), o 4 (.mov (t 17))])
 .ret) .skip))))
 (.ops [o 18 (.bin .add (t 8) (c (.int .i64 1))), o 8 (.mov (t 18))])))))))
 (.seq (.ops [o 4 (.mov (c (.int .i64 (-1))))])
 .ret)))⟩
def c60 : Func :=
⟨2, 19, [.tmp 4],
 (.seq (.ops [o 4 (.mov (c (.int .i64 0)))])
 (.seq (.seq (.ops [o 6 (.mov (t 0)), o 7 (.lenSl (t 6)), o 8 (.mov (c (.int .i64 0)))])
 (.block 0 (.loop (.seq (.ops [o 9 (.bin .lss (t 8) (t 7))])
 (.seq (.cond (t 9) .skip (.exit 0))
 (.seq (.block 1 (.seq (.ops [o 10 (.mov (t 8)), o 5 (.mov (t 10))])
 (.seq (.ops [o 11 (.mov (t 1)), o 12 (.mov (t 0)), o 13 (.mov (t 5)), o 14 (.iAddrS 1 (t 12) (t 13)), o 15 (.load 1 false (t 14)), o 16 (.bin .eql (t 11) (t 15))])
 (.cond (t 16) (.seq (.ops [o 17 (.mov (t 5)), o 4 (.mov (t 17))])
 .ret) .skip))))
 (.ops [o 18 (.bin .add (t 8) (c (.int .i64 1))), o 8 (.mov (t 18))])))))))
 (.seq (.ops [o 4 (.mov (c (.int .i64 (-1))))])
 .ret)))⟩
end Go.Proofs.AM
namespace Go.Proofs.AM
open Go Go.Lib Cd
theorem dec_len {n : Int} (h : FI n) : (decDigits n.natAbs).length ≤ 19 := by
  have := decDigits_le 18 n.natAbs (by have : (10 : Nat) ^ 19 = 10000000000000000000 := by decide
                                       unfold FI at h
                                       omega)
  omega
theorem tdiv10 (q : Int) : (0 ≤ q → q.tdiv 10 = q / 10) ∧ (q < 0 → q.tdiv 10 = -((-q) / 10)) := by
  refine ⟨fun h => Int.tdiv_eq_ediv_of_nonneg h, fun h => ?_⟩
  have h1 : (-q).tdiv 10 = (-q) / 10 := Int.tdiv_eq_ediv_of_nonneg (by omega)
  rw [Int.neg_tdiv] at h1
  omega
theorem tmod10 (q : Int) : (0 ≤ q → q.tmod 10 = q % 10) ∧ (q < 0 → q.tmod 10 = -((-q) % 10)) := by
  refine ⟨fun h => Int.tmod_eq_emod_of_nonneg h, fun h => ?_⟩
  have h1 : (-q).tmod 10 = (-q) % 10 := Int.tmod_eq_emod_of_nonneg (by omega)
  rw [Int.neg_tmod] at h1
  omega
end Go.Proofs.AM
namespace Go.Proofs.AM
open Go Go.Lib Cd
def NumR (s : Str) (v : Int) (b : Bool) : Prop := (b = true ∧ numS s = some v) ∨ (b = false ∧ v = 0 ∧ numS s = none)
theorem numS_none_len {s : Str} (h : 11 < s.length) : numS s = none := by
  cases hn : numS s with
  | none => rfl
  | some n => have := numS_len hn; omega
theorem NumR.ex (s : Str) : ∃ v b, NumR s v b := by
  cases h : numS s with
  | none => exact ⟨0, false, .inr ⟨rfl, rfl, h⟩⟩
  | some n => exact ⟨n, true, .inl ⟨rfl, h⟩⟩
theorem NumR.fi {s : Str} {v : Int} {b : Bool} (h : NumR s v b) : least ≤ v ∧ v ≤ most := by
  rcases h with ⟨_, h⟩ | ⟨_, h, _⟩
  · exact (numS_iff.1 h).2
  · subst h; decide
theorem NumR.of {s : Str} {v n : Int} {b : Bool} (h : NumR s v b) (hn : numS s = some n) : b = true ∧ v = n := by
  rcases h with ⟨h1, h2⟩ | ⟨_, _, h2⟩
  · rw [h2] at hn; simp only [Option.some.injEq] at hn; exact ⟨h1, hn⟩
  · rw [h2] at hn; simp at hn
theorem NumR.none {s : Str} {v : Int} {b : Bool} (h : NumR s v b) (hn : numS s = none) : b = false ∧ v = 0 := by
  rcases h with ⟨_, h2⟩ | ⟨h1, h2, _⟩
  · rw [h2] at hn; simp at hn
  · exact ⟨h1, h2⟩
theorem dig_lt : ∀ (l : Str), l.foldl digv 0 < 10 ^ l.length := by
  have key : ∀ (l : Str) (a : Nat), l.foldl digv a < (a + 1) * 10 ^ l.length := by
    intro l
    induction l with
    | nil => intro a; simp
    | cons c r ih =>
      intro a
      rw [List.foldl_cons, List.length_cons]
      refine Nat.lt_of_lt_of_le (ih (digv a c)) ?_
      rw [Nat.pow_succ, Nat.mul_comm (10 ^ r.length) 10, ← Nat.mul_assoc]
      refine Nat.mul_le_mul_right _ ?_
      unfold digv
      split <;> omega
  intro l
  have := key l 0
  simpa using this
def ParseC (V : Ans) (f : Nat) : Prop := ∀ s : Str, SL s → ∃ (v : Int) (e : D), V.v f [mkS s, .int .i64 10, .int .i64 64] (.tup [.int .i64 v, e]) ∧ FI v ∧ ((e = .nili ∧ Lib.parseIntB 64 s = .ok v) ∨ (e = .opq ∧ ∀ n, Lib.parseIntB 64 s ≠ .ok n))
set_option maxHeartbeats 2000000 in
theorem number13_ok (R : Ans) (h35 : ParseC R 39) (h36 : ∀ n, FI n → R.v 40 [.int .i64 n, .int .i64 10] (mkS (itoa n))) (s : Str) (hs : SL s) (v : Int) (b : Bool) (hvb : NumR s v b) : AnsF R c27 [mkS s] (.tup [.int .i64 v, .bool b]) := by
  obtain ⟨x, e, hx, hfi, hcase⟩ := h35 s hs
  have same : ∀ v' b', NumR s v' b' → v = v' ∧ b = b' := by
    intro v' b' h
    rcases h with ⟨h4, h5⟩ | ⟨h4, h5, h6⟩
    · obtain ⟨h7, h8⟩ := hvb.of h5; exact ⟨h8, by rw [h7, h4]⟩
    · obtain ⟨h7, h8⟩ := hvb.none h6; exact ⟨by rw [h8, h5], by rw [h7, h4]⟩
  have none : (∀ n, NumP s n → False) → NumR s 0 false := fun h => .inr ⟨rfl, rfl, by
    cases hn : numS s with
    | none => rfl
    | some n => exact (h n (numS_iff.1 hn)).elim⟩
  refine wpF_sound ⟨rfl, by decide⟩ fun O hO V hV => ?_
  subst hV
  rcases hcase with ⟨rfl, hp⟩ | ⟨rfl, hp⟩
  · have only : ∀ n, NumP s n → n = x := by
      rintro n ⟨rfl, h1, h2⟩
      rw [parse_itoa h1 h2] at hp
      simpa using hp
    obtain ⟨z, hz, hzi⟩ : ∃ z : Str, V.v 40 [.int .i64 x, .int .i64 10] (.str ⟨⟨z⟩⟩) ∧ z = itoa x := ⟨_, h36 x hfi, rfl⟩
    conv => cbv
    refine ⟨_, hx, ?_⟩
    conv => cbv
    rintro (_ | _) h1
    · replace h1 := f_lss hO h1
      conv => cbv
      rintro (_ | _) h2
      · replace h2 := f_gtr hO h2
        conv => cbv
        refine ⟨_, hz, ?_⟩
        conv => cbv
        rintro (_ | _) h3
        · replace h3 : z = s := f_sneq hO h3
          conv => cbv
          obtain ⟨e1, e2⟩ := same x true (.inl ⟨rfl, numS_iff.2 ⟨by rw [← h3, hzi], by unfold least; omega, by unfold most; omega⟩⟩)
          rw [e1, e2]
        · replace h3 : z ≠ s := t_sneq hO h3
          conv => cbv
          obtain ⟨e1, e2⟩ := same _ _ (none fun n hn => h3 (by rw [hzi, ← only n hn]; exact hn.1.symm))
          rw [e1, e2]
      · replace h2 := t_gtr hO h2
        conv => cbv
        obtain ⟨e1, e2⟩ := same _ _ (none fun n hn => by have := only n hn; have := hn.2.2; unfold most at this; omega)
        rw [e1, e2]
    · replace h1 := t_lss hO h1
      conv => cbv
      obtain ⟨e1, e2⟩ := same _ _ (none fun n hn => by have := only n hn; have := hn.2.1; unfold least at this; omega)
      rw [e1, e2]
  · obtain ⟨e1, e2⟩ := same _ _ (none fun n hn => hp n (by obtain ⟨rfl, h1, h2⟩ := hn; exact parse_itoa h1 h2))
    conv => cbv
    refine ⟨_, hx, ?_⟩
    conv => cbv
    rw [e1, e2]
theorem value_split (s : Str) {v : Int} {b : Bool} (h : NumR s v b) : valueB s = (b || nameB s) := by
  rw [valueB_or]
  rcases h with ⟨h1, h2⟩ | ⟨h1, _, h2⟩ <;> rw [h1, h2] <;> simp
theorem value19_ok (R : Ans) (h18 : ∀ s, SL s → R.v 14 [mkS s] (.bool (nameB s))) (h13 : ∀ s, SL s → ∀ v b, NumR s v b → R.v 27 [mkS s] (.tup [.int .i64 v, .bool b])) (s : Str) (hs : SL s) : AnsF R c15 [mkS s] (.bool (valueB s)) := by
  obtain ⟨v, b, hvb⟩ := NumR.ex s
  have hv := value_split s hvb
  have k1 := h18 s hs
  have k2 := h13 s hs v b hvb
  obtain ⟨r, hr⟩ : ∃ r, r = valueB s := ⟨_, rfl⟩
  obtain ⟨q, hq⟩ : ∃ q, q = nameB s := ⟨_, rfl⟩
  rw [← hr, ← hq] at hv
  rw [← hq] at k1
  rw [← hr]
  clear hr hq hvb
  refine wpF_sound ⟨rfl, by decide⟩ fun O hO V hV => ?_
  subst hV
  conv => cbv
  refine ⟨_, k2, ?_⟩
  subst hv
  cases b
  · conv => cbv
    refine ⟨_, k1, ?_⟩
    conv => cbv
    trivial
  · conv => cbv
    trivial
end Go.Proofs.AM
namespace Go.Proofs.AM
open Go Go.Lib Go.RowKit Go.Maps Go.Sort Go.Shelf
structure Gd (P : Program) (w : World) : Prop where
  syn : ∃ tp p, w.var? P "strconv.ErrSyntax" = some #[.iface tp p]
  rng : ∃ tp p, w.var? P "strconv.ErrRange" = some #[.iface tp p]
  tab : Lib.TabIs P w "internal/strconv.uint64pow10" .u64 Lib.pow10Tab
theorem var_below {P : Program} {w w' : World} {n : String} {cs : Array Value} (h : w.var? P n = some cs) (hb : Below w.heap.size w w') : w'.var? P n = some cs := by
  unfold World.var? at h ⊢
  rw [Option.bind_eq_some_iff] at h ⊢
  obtain ⟨g, h1, h2⟩ := h
  refine ⟨g, h1, ?_⟩
  cases hg : w.heap[g]? with
  | none => rw [hg] at h2; simp at h2
  | some o =>
    have hlt : g < w.heap.size := (Array.getElem?_eq_some_iff.mp hg).1
    rw [hb.block g hlt]
    exact h2
theorem Gd.grows (P : Program) : Grows (Gd P) := by
  intro w w' h hb
  obtain ⟨⟨t1, p1, h1⟩, ⟨t2, p2, h2⟩, h3⟩ := h
  exact ⟨⟨t1, p1, var_below h1 hb⟩, ⟨t2, p2, var_below h2 hb⟩, var_below h3 hb⟩
theorem below_grow (w : World) (k : Nat) (os : Array Obj) : RowKit.Below w.heap.size w (Go.Sort.grow (w.drewN k) os) where
  os := rfl
  tape := rfl
  output := rfl
  size := by simp [Go.Sort.grow, World.drewN]
  block := fun j hj => by
    show (w.heap ++ os)[j]? = w.heap[j]?
    rw [Array.getElem?_append_left hj]
theorem fmt36 (n : Int) (hn : FI n) : (PR Tryz.prog (Gd Tryz.prog)).v 40 [.int .i64 n, .int .i64 10] (mkS (itoa n)) := by
  refine ⟨enters_of Tryz.func40 (by kernel_rfl) rfl, rfl, fun w S vs hG hv => ?_⟩
  simp only [RVs, RV] at hv
  obtain ⟨_, _, e1, rfl, _, _, rfl, rfl, rfl⟩ := hv
  obtain rfl : vs = #[.int .i64 n, .int .i64 10] := by apply Array.toList_inj.1; rw [e1]
  refine (Any.strconv_FormatInt_10 Tryz.laysM173 n hn.1 hn.2 w hG.tab).mono ?_
  rintro e w' ⟨rfl, k, os, rfl⟩
  exact ⟨_, rfl, below_grow w k os, rfl⟩
theorem parse35 : ParseC (PR Tryz.prog (Gd Tryz.prog)) 39 := by
  intro s hs
  unfold SL at hs
  have hen : Enters Tryz.prog 39 := enters_of Tryz.func39 (by kernel_rfl) rfl
  have hsz : (⟨⟨s⟩⟩ : ByteArray).size = s.length := rfl
  have args : ∀ {c : Cx} {vs : Array Value}, RVs c [mkS s, .int .i64 10, .int .i64 64] vs.toList → vs = #[.string ⟨⟨s⟩⟩, .int .i64 10, .int .i64 64] := by
    intro c vs hv
    simp only [RVs, RV, mkS] at hv
    obtain ⟨_, _, e1, rfl, _, _, rfl, rfl, _, _, rfl, rfl, rfl⟩ := hv
    apply Array.toList_inj.1
    rw [e1]
  rcases hp : parseIntB 64 s with v | _ | _
  · have hb := parseIntB_bounds hp
    have e63 : ((2 ^ (64 - 1) : Nat) : Int) = 9223372036854775808 := by decide
    rw [e63] at hb
    refine ⟨v, .nili, ⟨hen, rfl, fun w S vs hG hv => ?_⟩, ⟨by omega, by omega⟩, .inl ⟨rfl, rfl⟩⟩
    obtain rfl := args hv
    refine (Any.strconv_ParseInt_10_at64_ok Tryz.laysC174 ⟨⟨s⟩⟩ (by rw [hsz]; omega) v hp w).mono ?_
    rintro e w' ⟨rfl, hw⟩
    refine ⟨_, rfl, ?_, by simp [RV, RVs]⟩
    rcases hw with rfl | ⟨t, rfl⟩
    · exact Below.refl _ _
    · exact bytesWorld_below w _ t
  · refine ⟨0, .opq, ⟨hen, rfl, fun w S vs hG hv => ?_⟩, ⟨by omega, by omega⟩, .inr ⟨rfl, fun n hn => by simp at hn⟩⟩
    obtain rfl := args hv
    obtain ⟨tp, p, hvar⟩ := hG.syn
    refine (Any.strconv_ParseInt_10_at64_syntax_var Tryz.laysC174 ⟨⟨s⟩⟩ (by rw [hsz]; omega) hp tp p w hvar).mono ?_
    rintro e w' ⟨N, rfl, _, _, hb⟩
    exact ⟨_, rfl, hb, by simp only [RV, RVs]; exact ⟨_, rfl, _, _, rfl, rfl, _, _, rfl, ⟨_, _, rfl⟩, rfl⟩⟩
  · have hsat : FI (intSat 64 s) := by
      have e63 : ((2 ^ (64 - 1) : Nat) : Int) = 9223372036854775808 := by decide
      cases s with
      | nil => simp [parseIntB] at hp
      | cons c r =>
        by_cases h45 : c = 45
        · subst h45; rw [intSat_minus, e63]; exact ⟨by omega, by omega⟩
        · rw [intSat_other _ _ _ (fun e => h45 (by apply UInt8.toNat_inj.1; rw [e]; rfl))]
          have : ((2 ^ (64 - 1) - 1 : Nat) : Int) = 9223372036854775807 := by decide
          rw [this]
          exact ⟨by omega, by omega⟩
    refine ⟨intSat 64 s, .opq, ⟨hen, rfl, fun w S vs hG hv => ?_⟩, hsat, .inr ⟨rfl, fun n hn => by simp at hn⟩⟩
    obtain rfl := args hv
    obtain ⟨tp, p, hvar⟩ := hG.rng
    refine (Any.strconv_ParseInt_10_at64_range_var Tryz.laysC174 ⟨⟨s⟩⟩ (by rw [hsz]; omega) hp tp p w hvar).mono ?_
    rintro e w' ⟨N, rfl, _, _, hb⟩
    exact ⟨_, rfl, hb, by simp only [RV, RVs]; exact ⟨_, rfl, _, _, rfl, rfl, _, _, rfl, ⟨_, _, rfl⟩, rfl⟩⟩
theorem insert_perm {H : Type} (x : Lit × DataW H) : ∀ l : List (Lit × DataW H), (DataW.insert x l).Perm (x :: l)
  | [] => List.Perm.refl _
  | y :: r => by
    unfold DataW.insert
    split
    · exact List.Perm.refl _
    · exact ((insert_perm x r).cons y).trans (List.Perm.swap x y r)
theorem sorted_perm {H : Type} : ∀ l : List (Lit × DataW H), (l.foldr DataW.insert []).Perm l
  | [] => List.Perm.refl _
  | x :: r => (insert_perm x _).trans ((sorted_perm r).cons x)
theorem sort_rising {ss K : List Str} (h : ss.Perm K) (hK : K.Nodup) : ss.mergeSort (fun x y => decide (x ≤ y)) = risingS K := by
  have hp := List.mergeSort_perm ss fun x y => decide (x ≤ y)
  have hs := List.pairwise_mergeSort (le := fun x y : Str => decide (x ≤ y)) (fun a b c h1 h2 => by
      simp only [decide_eq_true_eq] at h1 h2 ⊢
      exact List.le_trans h1 h2) (fun a b => by
      simp only [Bool.or_eq_true, decide_eq_true_eq]
      exact List.le_total a b) ss
  have hn : (ss.mergeSort fun x y => decide (x ≤ y)).Nodup := (hp.trans h).nodup_iff.2 hK
  refine rises_ext ?_ (risingS_rises K) fun z => by rw [(hp.trans h).mem_iff, risingS_mem]
  unfold Rises
  refine (hs.and hn).imp fun {a b} hab => ?_
  obtain ⟨h1, h2⟩ := hab
  simp only [decide_eq_true_eq] at h1
  rcases lt_total a b with k | k | k
  · exact k
  · exact absurd k h2
  · exact absurd h1 (List.not_le.2 k)
def keyOnly : Value → Option (DataW Unit × List MemPlace) := fun _ => some (.nil, [])
theorem ents_own {b : Nat} {K : List Str} (hKs : ∀ s ∈ K, SL s) (hKl : K.length ≤ 8796093022208) {w : World} {mes : Array MapEntry} {clk : Nat} (hb : w.heap[b]? = some (.map mes clk)) (hst : Stp mes clk)
    (hes : mes.toList.map (·.key) = K.map fun s => .string ⟨⟨s⟩⟩) : ∃ D0 : DataW Unit, w.ownsMap Tryz.prog 9 keyOnly b mes.size D0 ∧ Maps.size D0 = K.length ∧ (strKeys D0).Perm K := by
  have hlen : mes.size = K.length := by have := congrArg List.length hes; simpa using this
  have hrd : ∀ x ∈ mes.toList, ∃ s ∈ K, x.key = .string ⟨⟨s⟩⟩ := fun x hx => by
    have : x.key ∈ mes.toList.map (·.key) := List.mem_map.2 ⟨x, hx, rfl⟩
    rw [hes] at this
    obtain ⟨s, h1, h2⟩ := List.mem_map.1 this
    exact ⟨s, h1, h2.symm⟩
  have hko : ∀ s, SL s → keyOf Tryz.prog 9 (.string ⟨⟨s⟩⟩) = some (.string s) := fun s hs => Go.WideMaps.keyOf_string_mk (s := ⟨⟨s⟩⟩) Tryz.underlying9 (by
    have hsz : (⟨⟨s⟩⟩ : ByteArray).size = s.length := rfl
    unfold SL at hs
    have : maxLen = 9223372036854775807 := by decide
    omega)
  have hrg : mes.toList.map (fun x => Go.strOf (Go.WideElems.rg Tryz.prog 9 keyOnly x).1) = K := by
    have : ∀ (l : List MapEntry) (K : List Str), (∀ s ∈ K, SL s) → l.map (·.key) = K.map (fun s => Value.string ⟨⟨s⟩⟩) → l.map (fun x => Go.strOf (Go.WideElems.rg Tryz.prog 9 keyOnly x).1) = K := by
      intro l
      induction l with
      | nil => intro K _ h; cases K with
        | nil => rfl
        | cons _ _ => simp at h
      | cons x l ih =>
        intro K hK h
        cases K with
        | nil => simp at h
        | cons s K =>
          simp only [List.map_cons, List.cons.injEq] at h ⊢
          refine ⟨?_, ih K (fun s hs => hK s (by simp [hs])) h.2⟩
          unfold Go.WideElems.rg Go.WideElems.rd keyOnly
          rw [h.1, hko s (hK s (by simp))]
          rfl
    exact this _ _ hKs hes
  refine ⟨_, ⟨mes, clk, hb, ⟨by
    have : maxLen = 9223372036854775807 := by decide
    omega, hst, fun x hx => ?_⟩, Nat.le_refl _, rfl⟩, ?_, ?_⟩
  · obtain ⟨s, hs, hk⟩ := hrd x hx
    exact ⟨(.string s, .nil), by unfold Go.WideElems.rd keyOnly; rw [hk, hko s (hKs s hs)]; rfl⟩
  · rw [Maps.size_eq, (sorted_perm _).length_eq]
    simpa using hlen
  · show (List.map _ _).Perm K
    refine ((sorted_perm _).map _).trans ?_
    rw [List.map_map]
    generalize Go.WideElems.rg Tryz.prog 9 (keyOnly) = F at hrg ⊢
    exact List.Perm.of_eq hrg
theorem sortsL (m : Nat) : AnyZ.SortsIn Tryz.prog Tryz.sortedL_ren Fence.wide m :=
  ⟨fun blk off cap ss W hH hblk hsz => callsIn_wide.2 (AnyM.slices_Sort_string Tryz.sortL blk off cap ss W hH hblk hsz), fun p cap W => callsIn_wide.2 (AnyM.slices_Sort_string_none Tryz.sortL p cap W)⟩
theorem keys_call (mb : Option Nat) (W : World) : CallsIn Fence.wide 5 Tryz.prog 43 #[.map mb] W fun e w' => e = .returned (.func (.func 63) #[] #[.pointer (some ⟨W.heap.size, 0, none⟩)]) ∧ w' = W.alloc (.cells #[.map mb] 71) :=
  AnyZ.keys_in Tryz.keysL Fence.wide 5 trivial rfl mb W
set_option maxHeartbeats 1000000 in
theorem sorted_call {H : Type} (b nn : Nat) (D0 : DataW H) (R : Value → Option (DataW H × List MemPlace)) (w : World) (hown : w.ownsMap Tryz.prog 9 R b nn D0) (hmax : Maps.size D0 ≤ maxLen) (hbytes : Maps.size D0 * 16 ≤ 140737488355328) :
    CallsIn Fence.wide 5 Tryz.prog 42 #[.func (.func 63) #[] #[.pointer (some ⟨w.heap.size, 0, none⟩)]] (w.alloc (.cells #[.map (some b)] 71)) fun e w' => ∃ (v : Value) (ss : List (List UInt8)), e = .returned v ∧ ss.Perm (strKeys D0) ∧
      w'.ownsRow (w.alloc (.cells #[.map (some b)] 71)).heap.size 9 1 v ss.length ((ss.mergeSort (fun x y => decide (x ≤ y))).map encStr) ∧ (v = .slice none 0 0 ↔ ss = []) ∧ RowKit.Below (w.alloc (.cells #[.map (some b)] 71)).heap.size (w.alloc (.cells #[.map (some b)] 71)) w' := by
  have hbl := hown.lt
  have hseq : SeqGives Fence.wide 2 Tryz.prog 63 #[.pointer (some ⟨w.heap.size, 0, none⟩)] encStr (fun ss => ss.Perm (strKeys D0)) (Maps.size D0) (w.alloc (.cells #[.map (some b)] 71)) :=
    AnyZ.keys_gives (ρ := Tryz.keysL_ren) { Tryz.keysL with } Fence.wide _ trivial rfl (by omega) w.heap.size b nn D0 _ (by simp) (by simp) (by
      obtain ⟨es, clock, hb, Ft, hs, hD⟩ := hown
      exact ⟨es, clock, (Below.heap_alloc _ _ b hbl).trans hb, Ft, hs, hD⟩)
  exact AnyZ.sorted_in Tryz.sortedL Fence.wide 5 trivial trivial trivial trivial rfl (by omega) (sortsL _) (enters_of Tryz.func62 (by kernel_rfl) rfl) 63 #[.pointer (some ⟨w.heap.size, 0, none⟩)] trivial (enters_of Tryz.func63 (by kernel_rfl) rfl) _ _ hmax hbytes _ hseq
set_option maxHeartbeats 1000000 in
theorem rising_calls (b : Nat) (K : List Str) (hK : K.Nodup) (hKs : ∀ s ∈ K, SL s) (hKl : K.length ≤ 8796093022208) (w : World) (mes : Array MapEntry) (clk : Nat) (hb : w.heap[b]? = some (.map mes clk)) (hst : Stp mes clk)
    (hes : mes.toList.map (·.key) = K.map fun s => .string ⟨⟨s⟩⟩) :
    Calls Tryz.prog 31 #[.map (some b)] w fun e w' => ∃ v : Value, e = .returned v ∧ w'.ownsRow w.heap.size 9 1 v K.length ((risingS K).map encStr) ∧ Below w.heap.size w w' := by
  obtain ⟨D0, hown, hsz, hperm⟩ := ents_own hKs hKl hb hst hes
  have hmax : Maps.size D0 ≤ maxLen := by
    have : maxLen = 9223372036854775807 := by decide
    omega
  have hbytes : Maps.size D0 * 16 ≤ 140737488355328 := by omega
  refine (callsIn_wide (n := 6)).1 ?_
  have hfK : Fence.wide.fn 43 := trivial
  have hfS : Fence.wide.fn 42 := trivial
  refine callsIn_of_wp Tryz.func31 rfl trivial ?_ rfl
  simp only [Tryz.ntmps31, List.size_toArray, List.length_cons, List.length_nil, Nat.reduceAdd, Nat.reduceSub, Array.replicate_succ, Array.replicate_zero, List.push_toArray, List.append_toArray, List.nil_append, List.cons_append]
  gi_wp2_with (first
    | (gi_at_call 43; refine (keys_call _ _).mono ?_; rintro e w' ⟨rfl, rfl⟩)
    | (gi_at_call 42; refine (sorted_call b _ D0 _ w hown hmax hbytes).mono ?_; rintro e w' ⟨v, ss, rfl, hS, hrow, hnil, hb⟩))
  go_ret
  have hp := hS.trans hperm
  have e1 := sort_rising hp hK
  have hrow' := ownsRow_base_a (base' := w.heap.size) hrow (by simp)
  rw [e1, hp.length_eq] at hrow'
  exact ⟨v, rfl, hrow', ((Below.refl _ w).alloc (Nat.le_refl _) _).trans (hb.mono (by simp))⟩
theorem row_told {w : World} {S : Nat → Prop} {base : Nat} {v : Value} {l : List Str} {n : Nat} (h : w.ownsRow base 9 1 v n (l.map encStr)) (hS : ∀ b, base ≤ b → S b) : RV ⟨w, S, bx0, noLoc⟩ (.sl 1 false (l.map mkS)) v := by
  obtain ⟨hlen, h⟩ := h
  have hn : n = l.length := by simpa using hlen.symm
  subst hn
  simp only [RV, List.length_map]
  rcases h with ⟨rfl, h0⟩ | ⟨g, cap, cur, rfl, hg, hgb, h1, h2, h3, h4⟩
  · have : l = [] := List.eq_nil_of_length_eq_zero h0
    subst this
    exact ⟨none, 0, rfl, Nat.le_refl _, by simp, by simp, trivial⟩
  · refine ⟨some ⟨g, 0, none⟩, cap, rfl, h1, by simp, by simp, ?_⟩
    have hlt : g < w.heap.size := (Array.getElem?_eq_some_iff.mp hgb).1
    have key : ∀ (r : List Str) (i : Nat), (∀ (j : Nat) s, r[j]? = some s → l[i + j]? = some s) → RSl ⟨w, S, bx0, noLoc⟩ 1 (some ⟨g, 0, none⟩) i (r.map mkS) := by
      intro r
      induction r with
      | nil => intro i _; trivial
      | cons s r ih =>
        intro i hr
        simp only [List.map_cons, RSl]
        refine ⟨⟨⟨g, 0, none⟩, .string ⟨⟨s⟩⟩, rfl, hS g hg, hlt, rfl, rfl, by simp [Value.cells, Value.oneCell'], fun j hj => ?_⟩, ih (i + 1) fun j s hj => by have := hr (j + 1) s (by simpa using hj); rw [← this]; congr 1; omega⟩
        have hj0 : j = 0 := by omega
        subst hj0
        have hs := hr 0 s rfl
        rw [Nat.add_zero] at hs
        have hi : i < l.length := (List.getElem?_eq_some_iff.1 hs).1
        have hc : cur[i]? = some (encStr s) := by
          have e1 : (cur.toList.take (l.length * 1))[i]? = some (encStr s) := by rw [h4, List.getElem?_map, hs]; rfl
          rw [List.getElem?_take_of_lt (by omega)] at e1
          simpa using e1
        show w.cell? (Addr.add ⟨g, 0, none⟩ (i * 1 + 0)) = _
        rw [add_lit]
        unfold World.cell?
        simp only [Nat.zero_add, Nat.mul_one, Nat.add_zero]
        rw [hgb]
        simpa [encStr, Value.cells] using hc
    exact key l 0 fun j s hj => by simpa using hj
theorem keys_of_REs {c : Cx} : ∀ {K : List Str} {l : List MapEntry}, REs c (K.map ent) l → l.map (·.key) = K.map fun s => .string ⟨⟨s⟩⟩
  | [], l, h => by simp only [List.map_nil, REs] at h; subst h; rfl
  | s :: K, l, h => by
    simp only [List.map_cons, REs, ent, RV, RVs, mkS] at h
    obtain ⟨e, r, rfl, ⟨vs, h1, _, _, h2, rfl, _, _, rfl, rfl, rfl⟩, h3⟩ := h
    simp only [Value.tuple.injEq] at h1
    subst h1
    simp only [List.cons.injEq] at h2
    simp only [List.map_cons, List.cons.injEq]
    exact ⟨h2.1, keys_of_REs h3⟩
theorem rising32 (K : List Str) (hK : K.Nodup) (hKs : ∀ s ∈ K, SL s) (hKl : K.length ≤ 8796093022208) : (PR Tryz.prog (Gd Tryz.prog)).v 31 [.mapv (K.map ent)] (.sl 1 false ((risingS K).map mkS)) := by
  have hc : CleanL ((risingS K).map mkS) := cleanL_map clean_S rfl
  refine ⟨enters_of Tryz.func31 (by kernel_rfl) rfl, by simp [closed, hc.c], fun w S vs hG hv => ?_⟩
  simp only [RVs, RV] at hv
  obtain ⟨_, _, e1, ⟨b, mes, clk, rfl, hA, ⟨hb, hst⟩, hes⟩, rfl⟩ := hv
  obtain rfl : vs = #[.map (some b)] := by apply Array.toList_inj.1; rw [e1]
  refine (rising_calls b K hK hKs hKl w mes clk hb hst (keys_of_REs hes)).mono ?_
  rintro e w' ⟨v, rfl, hrow, hbl⟩
  exact ⟨_, rfl, hbl, row_told hrow fun b hb => .inr hb⟩
end Go.Proofs.AM
namespace Go.Proofs.AM
open Go Go.RowKit Go.Shelf Cd
set_option maxRecDepth 100000
theorem follows_mixed : Tryz.prog.follows .mixedOrders = true := by kernel_rfl
theorem E22 : Enters Tryz.prog 22 := enters_of Tryz.func22 (by kernel_rfl) rfl
theorem T22 : funcT Tryz.prog [] Tryz.f22 = some c22.erase := by kernel_rfl
theorem E27 : Enters Tryz.prog 27 := enters_of Tryz.func27 (by kernel_rfl) rfl
theorem T27 : funcT Tryz.prog [] Tryz.f27 = some c27.erase := by kernel_rfl
theorem E14 : Enters Tryz.prog 14 := enters_of Tryz.func14 (by kernel_rfl) rfl
theorem T14 : funcT Tryz.prog [] Tryz.f14 = some c14.erase := by kernel_rfl
theorem E15 : Enters Tryz.prog 15 := enters_of Tryz.func15 (by kernel_rfl) rfl
theorem T15 : funcT Tryz.prog [] Tryz.f15 = some c15.erase := by kernel_rfl
theorem E28 : Enters Tryz.prog 28 := enters_of Tryz.func28 (by kernel_rfl) rfl
theorem T28 : funcT Tryz.prog [] Tryz.f28 = some c28.erase := by kernel_rfl
theorem E17 : Enters Tryz.prog 17 := enters_of Tryz.func17 (by kernel_rfl) rfl
theorem T17 : funcT Tryz.prog [52, 109, 65, 51] Tryz.f17 = some c17.erase := by kernel_rfl
theorem E16 : Enters Tryz.prog 16 := enters_of Tryz.func16 (by kernel_rfl) rfl
theorem T16 : funcT Tryz.prog [] Tryz.f16 = some c16.erase := by kernel_rfl
theorem E25 : Enters Tryz.prog 25 := enters_of Tryz.func25 (by kernel_rfl) rfl
theorem T25 : funcT Tryz.prog [] Tryz.f25 = some c25.erase := by kernel_rfl
theorem E36 : Enters Tryz.prog 36 := enters_of Tryz.func36 (by kernel_rfl) rfl
theorem T36 : funcT Tryz.prog [] Tryz.f36 = some c36.erase := by kernel_rfl
theorem E31 : Enters Tryz.prog 31 := enters_of Tryz.func31 (by kernel_rfl) rfl
theorem T31 : funcT Tryz.prog [] Tryz.f31 = some c31.erase := by kernel_rfl
theorem E30 : Enters Tryz.prog 30 := enters_of Tryz.func30 (by kernel_rfl) rfl
theorem T30 : funcT Tryz.prog [] Tryz.f30 = some c30.erase := by kernel_rfl
theorem E32 : Enters Tryz.prog 32 := enters_of Tryz.func32 (by kernel_rfl) rfl
theorem T32 : funcT Tryz.prog [] Tryz.f32 = some c32.erase := by kernel_rfl
theorem E29 : Enters Tryz.prog 29 := enters_of Tryz.func29 (by kernel_rfl) rfl
theorem T29 : funcT Tryz.prog [] Tryz.f29 = some c29.erase := by kernel_rfl
theorem E55 : Enters Tryz.prog 55 := enters_of Tryz.func55 (by kernel_rfl) rfl
theorem T55 : funcT Tryz.prog [] Tryz.f55 = some c55.erase := by kernel_rfl
theorem E56 : Enters Tryz.prog 56 := enters_of Tryz.func56 (by kernel_rfl) rfl
theorem T56 : funcT Tryz.prog [] Tryz.f56 = some c56.erase := by kernel_rfl
theorem E41 : Enters Tryz.prog 41 := enters_of Tryz.func41 (by kernel_rfl) rfl
theorem T41 : funcT Tryz.prog [] Tryz.f41 = some c41.erase := by kernel_rfl
theorem E69 : Enters Tryz.prog 69 := enters_of Tryz.func69 (by kernel_rfl) rfl
theorem T69 : funcT Tryz.prog [] Tryz.f69 = some c69.erase := by kernel_rfl
theorem E60 : Enters Tryz.prog 60 := enters_of Tryz.func60 (by kernel_rfl) rfl
theorem T60 : funcT Tryz.prog [] Tryz.f60 = some c60.erase := by kernel_rfl
end Go.Proofs.AM
namespace Go.Proofs.AM
open Go Go.Lib Cd
theorem name18_ok (R : Ans) (s : Str) (hs : SL s) : AnsF R c14 [mkS s] (.bool (nameB s)) := by
  obtain ⟨r, hr⟩ : ∃ r, r = nameB s := ⟨_, rfl⟩
  rw [← hr]
  unfold SL at hs
  refine wpF_sound ⟨rfl, by decide⟩ fun O hO V hV => ?_
  have hlen : O .len (O .bytes ⟨⟨s⟩⟩) = s.length := by rw [o_len hO, o_bytes hO]; simp
  conv => cbv
  refine loop_of (fun n d => ∃ (i : Int) (k : Nat), d = ⟨[(0, mkS s), (7, .sl 1 false (O .bytes ⟨⟨s⟩⟩)), (8, .int .i64 (O .len (O .bytes ⟨⟨s⟩⟩))), (9, .int .i64 i)], [], false⟩ ∧ i = k ∧ k ≤ s.length ∧ n = s.length - k ∧ ∀ j c, j < k → s[j]? = some c → okc c ∧ (j = 0 → small c)) ⟨_, _, ⟨_, 0, rfl, rfl, by omega, rfl, by simp⟩, ⟨⟨rfl, rfl, rfl, rfl, trivial⟩, trivial, rfl⟩⟩ ?_
  rintro J up n d ⟨i, k, rfl, hi, hk, rfl, hno⟩
  conv => cbv
  rintro (_ | _) h1
  · replace h1 := f_lss hO h1
    rw [hlen] at h1
    have hall : ∀ j c, s[j]? = some c → okc c ∧ (j = 0 → small c) := fun j c hc => hno j c (by have := (List.getElem?_eq_some_iff.1 hc).1; omega) hc
    conv => cbv
    rintro (_ | _) h2
    · replace h2 : s = [] := f_sneq hO h2
      conv => cbv
      rw [hr, nameB_len (by rw [h2]; simp)]
    · replace h2 : s ≠ [] := t_sneq hO h2
      have h3 : 1 ≤ s.length := List.length_pos_iff.2 h2
      conv => cbv
      rintro (_ | _) h4
      · replace h4 := f_leq hO h4
        rw [o_slen hO] at h4
        conv => cbv
        rw [hr, nameB_len (by omega)]
      · replace h4 := t_leq hO h4
        rw [o_slen hO] at h4
        conv => cbv
        rw [hr, nameB_true h3 (by omega) hall]
  · replace h1 := t_lss hO h1
    rw [hlen] at h1
    obtain ⟨c, hc⟩ : ∃ c, s[k]? = some c := ⟨_, List.getElem?_eq_getElem (by omega)⟩
    obtain ⟨v, hv⟩ : ∃ v : Int, v = c.toNat := ⟨_, rfl⟩
    have hat : atX (O .bytes ⟨⟨s⟩⟩) i (.int .u8 v) := by rw [hv]; exact atX_map hc (o_bytes hO s) hi
    conv => cbv
    refine ⟨_, hat, ?_⟩
    repeat' ((conv => cbv); rintro (_ | _) _)
    all_goals (conv => cbv)
    all_goals simp only [o_geq hO, o_leq hO, o_lss hO, o_gtr hO, o_eql hO, o_neq hO, true_eq_decide_iff, false_eq_decide_iff] at *
    all_goals first
      | (rw [hr, nameB_false hc (by unfold okc small; omega)]; done)
      | (refine ⟨_, _, up _ _ ⟨_, k + 1, rfl, ?_, by omega, rfl, ?_⟩, ⟨⟨rfl, rfl, rfl, rfl, trivial⟩, trivial, rfl⟩, by omega⟩
         · rw [o_add64 hO (by omega) (by omega)]; omega
         · intro j c' hj hc'
           by_cases e : j = k
           · subst e
             rw [hc] at hc'
             simp only [Option.some.injEq] at hc'
             subst hc'
             unfold okc small
             omega
           · exact hno j c' (by omega) hc')
end Go.Proofs.AM
namespace Go.Proofs.AM
open Go Go.Lib Cd
end Go.Proofs.AM
namespace Go.Proofs.AM
open Go Go.Lib Cd
theorem first_ix {x : Str} : ∀ {l : List Str}, x ∈ l → ∃ k : Nat, l[k]? = some x ∧ ∀ j, j < k → l[j]? ≠ some x
  | [], h => by simp at h
  | y :: r, h => by
    by_cases e : y = x
    · exact ⟨0, by simp [e], fun j hj => by omega⟩
    · have hm : x ∈ r := by
        rcases List.mem_cons.1 h with h | h
        · exact absurd h.symm e
        · exact h
      obtain ⟨k, h1, h2⟩ := first_ix hm
      refine ⟨k + 1, by simpa using h1, fun j hj => ?_⟩
      cases j with
      | zero => simpa using e
      | succ j => simpa using h2 j (by omega)
theorem index69_ok (R : Ans) (l : List Str) (hl : l.length < 4611686018427387904) (x : Str) : ∃ n : Int, AnsF R c60 [.sl 1 false (l.map mkS), mkS x] (.int .i64 n) ∧ (x ∈ l → 0 ≤ n) ∧ (x ∉ l → n = -1) := by
  obtain ⟨xs, hxs⟩ : ∃ xs, xs = l.map mkS := ⟨_, rfl⟩
  obtain ⟨r, hr⟩ : ∃ r : Int, (x ∉ l ∧ r = -1) ∨ ∃ k : Nat, r = k ∧ l[k]? = some x ∧ ∀ j, j < k → l[j]? ≠ some x := by
    by_cases hm : x ∈ l
    · obtain ⟨k, hk, hmin⟩ := first_ix hm
      exact ⟨k, .inr ⟨k, rfl, hk, hmin⟩⟩
    · exact ⟨-1, .inl ⟨hm, rfl⟩⟩
  refine ⟨r, ?_, ?_, ?_⟩
  · rw [← hxs]
    refine wpF_sound ⟨rfl, by decide⟩ fun O hO V hV => ?_
    have hlen : O .len xs = l.length := by rw [o_len hO, hxs]; simp
    conv => cbv
    refine loop_of (fun n d => ∃ (i : Int) (k : Nat), d = ⟨[(0, .sl 1 false xs), (1, mkS x), (7, .int .i64 (O .len xs)), (8, .int .i64 i)], [], false⟩ ∧ i = k ∧ k ≤ l.length ∧ n = l.length - k ∧ ∀ j, j < k → l[j]? ≠ some x) ⟨_, _, ⟨_, 0, rfl, rfl, by omega, rfl, by simp⟩, ⟨⟨rfl, rfl, rfl, rfl, trivial⟩, trivial, rfl⟩⟩ ?_
    rintro J up n d ⟨i, k, rfl, hi, hk, rfl, hno⟩
    conv => cbv
    rintro (_ | _) h1
    · replace h1 := f_lss hO h1
      rw [hlen] at h1
      rcases hr with ⟨_, rfl⟩ | ⟨j, _, hj, _⟩
      · conv => cbv
        trivial
      · exact absurd hj (hno j (by have := (List.getElem?_eq_some_iff.1 hj).1; omega))
    · replace h1 := t_lss hO h1
      rw [hlen] at h1
      obtain ⟨y, hy⟩ : ∃ y, l[k]? = some y := ⟨_, List.getElem?_eq_getElem (by omega)⟩
      conv => cbv
      refine ⟨mkS y, atX_map hy hxs hi, ?_⟩
      conv => cbv
      rintro (_ | _) h2
      · replace h2 : x ≠ y := f_seql hO h2
        conv => cbv
        refine ⟨_, _, up _ _ ⟨_, k + 1, rfl, ?_, by omega, rfl, ?_⟩, ⟨⟨rfl, rfl, rfl, rfl, trivial⟩, trivial, rfl⟩, by omega⟩
        · rw [o_add64 hO (by omega) (by omega)]; omega
        · intro j hj
          by_cases e : j = k
          · subst e; rw [hy]; simpa using Ne.symm h2
          · exact hno j (by omega)
      · replace h2 : x = y := t_seql hO h2
        conv => cbv
        subst h2
        rcases hr with ⟨hm, _⟩ | ⟨j, rfl, hj, hmin⟩
        · exact absurd (List.mem_of_getElem? hy) hm
        · have : j = k := by
            rcases Nat.lt_trichotomy j k with h | h | h
            · exact absurd hj (hno j h)
            · exact h
            · exact absurd hy (hmin k h)
          rw [hi, this]
  · intro hm
    rcases hr with ⟨h, _⟩ | ⟨k, rfl, _⟩
    · exact absurd hm h
    · omega
  · intro hm
    rcases hr with ⟨_, h⟩ | ⟨k, _, hk, _⟩
    · exact h
    · exact absurd (List.mem_of_getElem? hk) hm
theorem contains55_ok (R : Ans) (l : List Str) (x : Str) (h69 : ∃ n : Int, R.v 60 [.sl 1 false (l.map mkS), mkS x] (.int .i64 n) ∧ (x ∈ l → 0 ≤ n) ∧ (x ∉ l → n = -1)) : AnsF R c41 [.sl 1 false (l.map mkS), mkS x] (.bool (decide (x ∈ l))) := by
  obtain ⟨n, hn, h1, h2⟩ := h69
  have hc : CleanL (l.map mkS) := cleanL_map clean_S rfl
  obtain ⟨xs, hxs⟩ : ∃ xs, xs = l.map mkS := ⟨_, rfl⟩
  obtain ⟨r, hr⟩ : ∃ r, r = decide (x ∈ l) := ⟨_, rfl⟩
  rw [← hxs] at hn hc ⊢
  rw [← hr]
  refine wpF_sound ⟨rfl, by decide⟩ fun O hO V hV => ?_
  subst hV
  conv => cbv
  refine ⟨hc, _, hn, ?_⟩
  conv => cbv
  rintro (_ | _) h3
  · replace h3 := f_geq hO h3
    conv => cbv
    by_cases hm : x ∈ l
    · have := h1 hm; omega
    · rw [hr]; simp [hm]
  · replace h3 := t_geq hO h3
    conv => cbv
    by_cases hm : x ∈ l
    · rw [hr]; simp [hm]
    · have := h2 hm; omega
end Go.Proofs.AM
namespace Go.Proofs.AM
open Go Go.Lib Cd
theorem ne_at {l l' : List Str} {k : Nat} {x y : Str} (h1 : l[k]? = some x) (h2 : l'[k]? = some y) (h : x ≠ y) : l ≠ l' := fun e => by
  subst e; rw [h1] at h2; simp only [Option.some.injEq] at h2; exact h h2
end Go.Proofs.AM
namespace Go.Proofs.AM
open Go Go.Lib Cd
end Go.Proofs.AM
namespace Go.Proofs.AM
open Go Go.Lib Cd
theorem foldl_take {l : List Str} {k : Nat} {y : Str} (h : l[k]? = some y) (f : List Str → Str → List Str) (a : List Str) : (l.take (k + 1)).foldl f a = f ((l.take k).foldl f a) y := by
  rw [List.take_add_one, h, List.foldl_append]
  rfl
end Go.Proofs.AM
namespace Go.Proofs.AM
open Go Go.Lib Cd
theorem span_eq {O : Ops} (hO : O = Ops.std) {xs : List D} {n : Nat} (hlen : O .len xs = n) (hn : n ≤ 8796093022208) {lo hi : Int} (h1 : least ≤ lo) (h2 : hi ≤ most) (h3 : lo ≤ hi) : O .iop .sub .i64 (O .iop .add .i64 (O .iop .sub .i64 hi lo) 1) (O .len xs) = hi - lo + 1 - n := by
  unfold least at h1
  unfold most at h2
  have e1 : O .iop .sub .i64 hi lo = hi - lo := o_sub64 hO (by omega) (by omega)
  rw [e1, o_add64 hO (by omega) (by omega), hlen, o_sub64 hO (by omega) (by omega)]
end Go.Proofs.AM
namespace Go.Proofs.AM
open Go Go.Lib Cd
set_option maxRecDepth 100000 in
set_option maxHeartbeats 4000000 in
theorem check23_ok (R : Ans) (s : SetV) (hs : FS s) (h19 : ∀ s, SL s → R.v 15 [mkS s] (.bool (valueB s))) (h13 : ∀ s, SL s → ∀ v b, NumR s v b → R.v 27 [mkS s] (.tup [.int .i64 v, .bool b])) : AnsF R c28 [setD s] (.int .i64 (checkE s)) := by
  obtain ⟨r, hr⟩ : ∃ r, r = checkE s := ⟨_, rfl⟩
  rw [← hr]
  have hr0 : CheckP s → r = 0 := fun h => by rw [hr, checkE_0 h]
  have hr1 : ¬ CheckP s → r = 1 := fun h => by rw [hr, checkE_1 h]
  clear hr
  have hall := hs.l.all
  have hl1 := hs.l.len
  have hlo := hs.lo
  have hhi := hs.hi
  clear hs
  obtain ⟨m, n, u, l, lo, hi⟩ := s
  simp only at hall hl1 hlo hhi
  unfold FI at hlo hhi
  obtain ⟨S, hS⟩ : ∃ S : SetV, S = ⟨m, n, u, l, lo, hi⟩ := ⟨_, rfl⟩
  rw [← hS] at hr0 hr1
  have bad1 : 64 < l.length → ¬ CheckP S := fun h hc => by subst hS; have := hc.ord.1; simp only at this; omega
  have bad2 : ∀ (j : Nat) x, l[j]? = some x → valueB x = false → ¬ CheckP S := fun j x hx hv hc => by subst hS; have := hc.ord.2.1 j x hx; rw [hv] at this; simp at this
  have bad3 : ∀ (j : Nat) x y, l[j]? = some x → l[j + 1]? = some y → ¬ x < y → ¬ CheckP S := fun j x y hx hy h hc => h (by subst hS; exact hc.ord.2.2 j x y hx hy)
  have bad4 : u = true → n = false → ¬ CheckP S := fun h1 h2 hc => by subst hS; have := hc.un h1; simp only at this; rw [h2] at this; simp at this
  have bad5 : u = false → (lo ≠ 0 ∨ hi ≠ 0) → ¬ CheckP S := fun h1 h2 hc => by subst hS; have := hc.nu h1; simp only at this; omega
  have bad6 : u = true → ¬ (least ≤ lo ∧ hi ≤ most ∧ lo ≤ hi ∧ 64 < hi - lo + 1 - l.length) → ¬ CheckP S := fun h1 h2 hc => by subst hS; have := hc.u h1; exact h2 ⟨this.1, this.2.1, this.2.2.1, this.2.2.2.1⟩
  have bad7 : u = true → ∀ (j : Nat) x, l[j]? = some x → ¬ (∃ n, numS x = some n ∧ lo < n ∧ n < hi) → ¬ CheckP S := fun h1 j x hx h2 hc => by subst hS; exact h2 ((hc.u h1).2.2.2.2 j x hx)
  have good : OrdP l → (u = true → n = true) → (u = false → lo = 0 ∧ hi = 0) → (u = true → (least ≤ lo ∧ hi ≤ most ∧ lo ≤ hi ∧ 64 < hi - lo + 1 - l.length) ∧ ∀ (j : Nat) x, l[j]? = some x → ∃ n, numS x = some n ∧ lo < n ∧ n < hi) → CheckP S := fun h1 h2 h3 h4 => by
    subst hS
    exact ⟨h1, h2, h3, fun h => ⟨(h4 h).1.1, (h4 h).1.2.1, (h4 h).1.2.2.1, (h4 h).1.2.2.2, (h4 h).2⟩⟩
  clear hS
  unfold setD
  simp only
  obtain ⟨xs, hxs⟩ : ∃ xs, xs = l.map mkS := ⟨_, rfl⟩
  rw [← hxs]
  refine wpF_sound ⟨rfl, by decide⟩ fun O hO V hV => ?_
  subst hV
  have hlen : O .len xs = l.length := by rw [o_len hO, hxs]; simp
  obtain ⟨B, hB⟩ : ∃ B : List (Nat × Box), B = [(1, ⟨1, .rw, .var, [.bool m, .bool n, .bool u, .sl 1 false xs, .int .i64 lo, .int .i64 hi]⟩)] := ⟨_, rfl⟩
  conv => cbv
  refine join_of (fun d => ∃ bad : Bool, d = ⟨[(1, .ptr 1 1 0), (3, .bool bad)], B, false⟩ ∧ (bad = true → ¬ CheckP S) ∧ (bad = false → l.length ≤ 64 ∧ (u = true → n = true) ∧ (u = false → lo = 0 ∧ hi = 0))) (fun M up => ?_) ?_
  · subst hB
    conv => cbv
    rintro (_ | _) h1
    · replace h1 := f_gtr hO h1
      rw [hlen] at h1
      cases u with
      | false =>
        conv => cbv
        rintro (_ | _) h2
        · replace h2 := f_neq hO h2
          conv => cbv
          rintro (_ | _) h3
          · replace h3 := f_neq hO h3
            conv => cbv
            exact ⟨_, up _ ⟨false, rfl, by simp, fun _ => ⟨by omega, by simp, fun _ => ⟨h2, h3⟩⟩⟩, ⟨⟨rfl, rfl, trivial⟩, ⟨rfl, trivial⟩, rfl⟩⟩
          · replace h3 := t_neq hO h3
            conv => cbv
            exact ⟨_, up _ ⟨true, rfl, fun _ => bad5 rfl (.inr h3), by simp⟩, ⟨⟨rfl, rfl, trivial⟩, ⟨rfl, trivial⟩, rfl⟩⟩
        · replace h2 := t_neq hO h2
          conv => cbv
          exact ⟨_, up _ ⟨true, rfl, fun _ => bad5 rfl (.inl h2), by simp⟩, ⟨⟨rfl, rfl, trivial⟩, ⟨rfl, trivial⟩, rfl⟩⟩
      | true =>
        cases n with
        | false =>
          conv => cbv
          exact ⟨_, up _ ⟨true, rfl, fun _ => bad4 rfl rfl, by simp⟩, ⟨⟨rfl, rfl, trivial⟩, ⟨rfl, trivial⟩, rfl⟩⟩
        | true =>
          conv => cbv
          exact ⟨_, up _ ⟨false, rfl, by simp, fun _ => ⟨by omega, fun _ => rfl, by simp⟩⟩, ⟨⟨rfl, rfl, trivial⟩, ⟨rfl, trivial⟩, rfl⟩⟩
    · replace h1 := t_gtr hO h1
      rw [hlen] at h1
      conv => cbv
      exact ⟨_, up _ ⟨true, rfl, fun _ => bad1 (by omega), by simp⟩, ⟨⟨rfl, rfl, trivial⟩, ⟨rfl, trivial⟩, rfl⟩⟩
  rintro d ⟨bad, rfl, hb1, hb0⟩
  subst hB
  conv => cbv
  refine loop_of (fun c d => ∃ (i : Int) (k : Nat) (bad : Bool), d = ⟨[(1, .ptr 1 1 0), (3, .bool bad), (37, .sl 1 false xs), (38, .int .i64 (O .len xs)), (39, .int .i64 i)], [(1, ⟨1, .rw, .var, [.bool m, .bool n, .bool u, .sl 1 false xs, .int .i64 lo, .int .i64 hi]⟩)], false⟩ ∧ i = k ∧ k ≤ l.length ∧ c = l.length - k ∧ (bad = true → ¬ CheckP S) ∧ (bad = false → (l.length ≤ 64 ∧ (u = true → n = true) ∧ (u = false → lo = 0 ∧ hi = 0)) ∧ (∀ j x, j < k → l[j]? = some x → valueB x = true) ∧ (∀ (j : Nat) x y, j + 1 < k → l[j]? = some x → l[j + 1]? = some y → x < y) ∧ (u = true → ∀ j x, j < k → l[j]? = some x → ∃ n, numS x = some n ∧ lo < n ∧ n < hi))) ⟨_, _, ⟨_, 0, bad, rfl, rfl, by omega, rfl, hb1, fun h => ⟨hb0 h, by simp, by simp, by simp⟩⟩, ⟨⟨rfl, rfl, rfl, rfl, rfl, trivial⟩, ⟨rfl, trivial⟩, rfl⟩⟩ ?_
  rintro J up c d ⟨i, k, bad, rfl, hi', hk, rfl, hb1, hb0⟩
  conv => cbv
  rintro (_ | _) h1
  · replace h1 := f_lss hO h1
    rw [hlen] at h1
    have hke : k = l.length := by omega
    have done : bad = false → OrdP l ∧ (u = true → n = true) ∧ (u = false → lo = 0 ∧ hi = 0) ∧ (u = true → ∀ (j : Nat) x, l[j]? = some x → ∃ n, numS x = some n ∧ lo < n ∧ n < hi) := fun h => by
      obtain ⟨⟨g1, g2, g3⟩, g4, g5, g6⟩ := hb0 h
      exact ⟨⟨g1, fun j x hx => g4 j x (by rw [hke]; exact (List.getElem?_eq_some_iff.1 hx).1) hx, fun j x y hx hy => g5 j x y (by rw [hke]; exact (List.getElem?_eq_some_iff.1 hy).1) hx hy⟩, g2, g3, fun hu j x hx => g6 hu j x (by rw [hke]; exact (List.getElem?_eq_some_iff.1 hx).1) hx⟩
    conv => cbv
    refine join_of (fun d => ∃ bad : Bool, d = ⟨[(3, .bool bad)], [], false⟩ ∧ (bad = true → ¬ CheckP S) ∧ (bad = false → CheckP S)) (fun M up3 => ?_) ?_
    · cases u with
      | false =>
        conv => cbv
        exact ⟨_, up3 _ ⟨bad, rfl, hb1, fun h => by obtain ⟨g1, g2, g3, g4⟩ := done h; exact good g1 g2 g3 (by simp)⟩, ⟨⟨rfl, trivial⟩, trivial, rfl⟩⟩
      | true =>
        cases bad with
        | true =>
          conv => cbv
          exact ⟨_, up3 _ ⟨true, rfl, hb1, by simp⟩, ⟨⟨rfl, trivial⟩, trivial, rfl⟩⟩
        | false =>
          obtain ⟨g1, g2, g3, g4⟩ := done rfl
          conv => cbv
          rintro (_ | _) h2
          · replace h2 := f_lss hO h2
            conv => cbv
            rintro (_ | _) h3
            · replace h3 := f_gtr hO h3
              conv => cbv
              rintro (_ | _) h4
              · replace h4 := f_gtr hO h4
                conv => cbv
                rintro (_ | _) h5
                · replace h5 := f_leq hO h5
                  rw [span_eq hO hlen hl1 h2 h3 h4] at h5
                  conv => cbv
                  exact ⟨_, up3 _ ⟨false, rfl, by simp, fun _ => good g1 g2 g3 fun hu => ⟨⟨h2, h3, h4, h5⟩, g4 hu⟩⟩, ⟨⟨rfl, trivial⟩, trivial, rfl⟩⟩
                · replace h5 := t_leq hO h5
                  rw [span_eq hO hlen hl1 h2 h3 h4] at h5
                  conv => cbv
                  exact ⟨_, up3 _ ⟨true, rfl, fun _ => bad6 rfl (fun h => by omega), by simp⟩, ⟨⟨rfl, trivial⟩, trivial, rfl⟩⟩
              · replace h4 := t_gtr hO h4
                conv => cbv
                exact ⟨_, up3 _ ⟨true, rfl, fun _ => bad6 rfl (fun h => by omega), by simp⟩, ⟨⟨rfl, trivial⟩, trivial, rfl⟩⟩
            · replace h3 := t_gtr hO h3
              conv => cbv
              exact ⟨_, up3 _ ⟨true, rfl, fun _ => bad6 rfl (fun h => by have := h.2.1; unfold most at this; omega), by simp⟩, ⟨⟨rfl, trivial⟩, trivial, rfl⟩⟩
          · replace h2 := t_lss hO h2
            conv => cbv
            exact ⟨_, up3 _ ⟨true, rfl, fun _ => bad6 rfl (fun h => by have := h.1; unfold least at this; omega), by simp⟩, ⟨⟨rfl, trivial⟩, trivial, rfl⟩⟩
    · rintro d ⟨b, rfl, h1, h0⟩
      cases b with
      | false =>
        conv => cbv
        rw [hr0 (h0 rfl)]
      | true =>
        conv => cbv
        rw [hr1 (h1 rfl)]
  · replace h1 := t_lss hO h1
    rw [hlen] at h1
    conv => cbv
    obtain ⟨y, hy⟩ : ∃ y, l[k]? = some y := ⟨_, List.getElem?_eq_getElem (by omega)⟩
    have hSL := hall y (List.mem_of_getElem? hy)
    refine ⟨mkS y, atX_map hy hxs hi', ?_⟩
    conv => cbv
    refine join_of (fun d => ∃ bad : Bool, d = ⟨[(1, .ptr 1 1 0), (3, .bool bad), (5, mkS y), (37, .sl 1 false xs), (38, .int .i64 (O .len xs)), (39, .int .i64 i)], [(1, ⟨1, .rw, .var, [.bool m, .bool n, .bool u, .sl 1 false xs, .int .i64 lo, .int .i64 hi]⟩)], false⟩ ∧ (bad = true → ¬ CheckP S) ∧ (bad = false → (l.length ≤ 64 ∧ (u = true → n = true) ∧ (u = false → lo = 0 ∧ hi = 0)) ∧ (∀ j x, j < k + 1 → l[j]? = some x → valueB x = true) ∧ (∀ (j : Nat) x y, j + 1 < k + 1 → l[j]? = some x → l[j + 1]? = some y → x < y) ∧ (u = true → ∀ j x, j < k → l[j]? = some x → ∃ n, numS x = some n ∧ lo < n ∧ n < hi))) (fun M up2 => ?_) ?_
    · cases bad with
      | true =>
        conv => cbv
        exact ⟨_, up2 _ ⟨true, rfl, hb1, by simp⟩, ⟨⟨rfl, rfl, rfl, rfl, rfl, rfl, trivial⟩, ⟨rfl, trivial⟩, rfl⟩⟩
      | false =>
        obtain ⟨g0, g4, g5, g6⟩ := hb0 rfl
        have hv := h19 y hSL
        obtain ⟨q, hq⟩ : ∃ q, q = valueB y := ⟨_, rfl⟩
        rw [← hq] at hv
        have g4' : q = true → ∀ j x, j < k + 1 → l[j]? = some x → valueB x = true := fun hqt j x hj hx => by
          by_cases e : j = k
          · subst e; rw [hy] at hx; simp only [Option.some.injEq] at hx; subst hx; rw [← hq, hqt]
          · exact g4 j x (by omega) hx
        conv => cbv
        refine ⟨_, hv, ?_⟩
        cases q with
        | false =>
          conv => cbv
          exact ⟨_, up2 _ ⟨true, rfl, fun _ => bad2 k y hy hq.symm, by simp⟩, ⟨⟨rfl, rfl, rfl, rfl, rfl, rfl, trivial⟩, ⟨rfl, trivial⟩, rfl⟩⟩
        | true =>
          conv => cbv
          rintro (_ | _) h3
          · replace h3 := f_gtr hO h3
            conv => cbv
            exact ⟨_, up2 _ ⟨false, rfl, by simp, fun _ => ⟨g0, g4' rfl, fun j x z hj => by omega, g6⟩⟩, ⟨⟨rfl, rfl, rfl, rfl, rfl, rfl, trivial⟩, ⟨rfl, trivial⟩, rfl⟩⟩
          · replace h3 := t_gtr hO h3
            conv => cbv
            obtain ⟨w, hw⟩ : ∃ w, l[k - 1]? = some w := ⟨_, List.getElem?_eq_getElem (by omega)⟩
            have hsub : O .iop .sub .i64 i 1 = ((k - 1 : Nat) : Int) := by rw [o_sub64 hO (by omega) (by omega)]; omega
            have hk1 : k - 1 + 1 = k := by omega
            refine ⟨mkS w, atX_map hw hxs hsub, ?_⟩
            conv => cbv
            rintro (_ | _) h4
            · replace h4 : w < y := f_sgeq hO h4
              conv => cbv
              refine ⟨_, up2 _ ⟨false, rfl, by simp, fun _ => ⟨g0, g4' rfl, fun j x z hj hx hz => ?_, g6⟩⟩, ⟨⟨rfl, rfl, rfl, rfl, rfl, rfl, trivial⟩, ⟨rfl, trivial⟩, rfl⟩⟩
              by_cases e : j + 1 = k
              · have e2 : j = k - 1 := by omega
                subst e2
                rw [e] at hz
                rw [hw] at hx
                rw [hy] at hz
                simp only [Option.some.injEq] at hx hz
                subst hx hz
                exact h4
              · exact g5 j x z (by omega) hx hz
            · replace h4 : ¬ w < y := t_sgeq hO h4
              conv => cbv
              exact ⟨_, up2 _ ⟨true, rfl, fun _ => bad3 (k - 1) w y hw (by rw [hk1]; exact hy) h4, by simp⟩, ⟨⟨rfl, rfl, rfl, rfl, rfl, rfl, trivial⟩, ⟨rfl, trivial⟩, rfl⟩⟩
    · rintro d ⟨bad, rfl, hb1, hb0⟩
      have hadd : O .iop .add .i64 i 1 = ((k + 1 : Nat) : Int) := by rw [o_add64 hO (by omega) (by omega)]; omega
      cases u with
      | false =>
        conv => cbv
        exact ⟨_, _, up _ _ ⟨_, k + 1, bad, rfl, hadd, by omega, rfl, hb1, fun h => by obtain ⟨g0, g4, g5, g6⟩ := hb0 h; exact ⟨g0, g4, g5, by simp⟩⟩, ⟨⟨rfl, rfl, rfl, rfl, rfl, trivial⟩, ⟨rfl, trivial⟩, rfl⟩, by omega⟩
      | true =>
        cases bad with
        | true =>
          conv => cbv
          exact ⟨_, _, up _ _ ⟨_, k + 1, true, rfl, hadd, by omega, rfl, hb1, by simp⟩, ⟨⟨rfl, rfl, rfl, rfl, rfl, trivial⟩, ⟨rfl, trivial⟩, rfl⟩, by omega⟩
        | false =>
          obtain ⟨g0, g4, g5, g6⟩ := hb0 rfl
          obtain ⟨v, b, hvb⟩ := NumR.ex y
          have hv := h13 y hSL v b hvb
          conv => cbv
          refine ⟨_, hv, ?_⟩
          cases b with
          | false =>
            conv => cbv
            exact ⟨_, _, up _ _ ⟨_, k + 1, true, rfl, hadd, by omega, rfl, fun _ => bad7 rfl k y hy (fun ⟨n, hn, _⟩ => by have := (hvb.of hn).1; simp at this), by simp⟩, ⟨⟨rfl, rfl, rfl, rfl, rfl, trivial⟩, ⟨rfl, trivial⟩, rfl⟩, by omega⟩
          | true =>
            have hnum : numS y = some v := by
              rcases hvb with ⟨_, h⟩ | ⟨h, _⟩
              · exact h
              · simp at h
            have nope : ¬ (lo < v ∧ v < hi) → ¬ CheckP S := fun h => bad7 rfl k y hy (fun ⟨n, hn, h8⟩ => by rw [hnum] at hn; simp only [Option.some.injEq] at hn; subst hn; exact h h8)
            conv => cbv
            rintro (_ | _) h6
            · replace h6 := f_leq hO h6
              conv => cbv
              rintro (_ | _) h7
              · replace h7 := f_geq hO h7
                conv => cbv
                refine ⟨_, _, up _ _ ⟨_, k + 1, false, rfl, hadd, by omega, rfl, by simp, fun _ => ⟨g0, g4, g5, fun _ j x hj hx => ?_⟩⟩, ⟨⟨rfl, rfl, rfl, rfl, rfl, trivial⟩, ⟨rfl, trivial⟩, rfl⟩, by omega⟩
                by_cases e : j = k
                · subst e; rw [hy] at hx; simp only [Option.some.injEq] at hx; subst hx; exact ⟨v, hnum, h6, h7⟩
                · exact g6 rfl j x (by omega) hx
              · replace h7 := t_geq hO h7
                conv => cbv
                exact ⟨_, _, up _ _ ⟨_, k + 1, true, rfl, hadd, by omega, rfl, fun _ => nope (by omega), by simp⟩, ⟨⟨rfl, rfl, rfl, rfl, rfl, trivial⟩, ⟨rfl, trivial⟩, rfl⟩, by omega⟩
            · replace h6 := t_leq hO h6
              conv => cbv
              exact ⟨_, _, up _ _ ⟨_, k + 1, true, rfl, hadd, by omega, rfl, fun _ => nope (by omega), by simp⟩, ⟨⟨rfl, rfl, rfl, rfl, rfl, trivial⟩, ⟨rfl, trivial⟩, rfl⟩, by omega⟩
end Go.Proofs.AM
namespace Go.Proofs.AM
open Go Go.Lib Cd
set_option maxRecDepth 100000 in
set_option maxHeartbeats 2000000 in
theorem has43_ok (R : Ans) (s : SetV) (x : Str) (hx : SL x) (h55 : R.v 41 [.sl 1 false (s.l.map mkS), mkS x] (.bool (decide (x ∈ s.l)))) (h13 : ∀ s, SL s → ∀ v b, NumR s v b → R.v 27 [mkS s] (.tup [.int .i64 v, .bool b])) : AnsF R c29 [setD s, mkS x] (.bool (hasRaw s x)) := by
  obtain ⟨v, b, hvb⟩ := NumR.ex x
  have hv := h13 x hx v b hvb
  have hrg : rangeB s x = (b && decide (s.lo ≤ v ∧ v ≤ s.hi)) := by
    rcases hvb with ⟨rfl, h⟩ | ⟨rfl, _, h⟩
    · rw [rangeB_some h]; simp
    · rw [rangeB_none h]; simp
  obtain ⟨r, hr⟩ : ∃ r, r = hasRaw s x := ⟨_, rfl⟩
  rw [← hr]
  unfold hasRaw at hr
  rw [hrg] at hr
  obtain ⟨q, hq⟩ : ∃ q, q = decide (x ∈ s.l) := ⟨_, rfl⟩
  rw [← hq] at hr
  rw [← hq] at h55
  clear hq hrg hvb
  obtain ⟨m, n, u, l, lo, hi⟩ := s
  simp only at h55 hr
  unfold setD
  simp only
  have hcx : CleanL (l.map mkS) := cleanL_map clean_S rfl
  obtain ⟨xs, hxs⟩ : ∃ xs, xs = l.map mkS := ⟨_, rfl⟩
  rw [← hxs] at hcx h55 ⊢
  refine wpF_sound ⟨rfl, by decide⟩ fun O hO V hV => ?_
  subst hV
  conv => cbv
  refine ⟨hcx, _, h55, ?_⟩
  conv => cbv
  rintro (_ | _) h1
  · replace h1 := b_ne hO h1
    conv => cbv
    rw [hr, ← h1]
    rfl
  · replace h1 := b_ne hO h1
    rw [← h1] at hr
    cases u with
    | false =>
      conv => cbv
      rw [hr]
      rfl
    | true =>
      conv => cbv
      refine ⟨_, hv, ?_⟩
      cases b with
      | false =>
        conv => cbv
        rw [hr]
        rfl
      | true =>
        conv => cbv
        rintro (_ | _) h2
        · replace h2 := f_geq hO h2
          conv => cbv
          rw [hr]
          simp
          omega
        · replace h2 := t_geq hO h2
          conv => cbv
          rintro (_ | _) h3
          · replace h3 := f_leq hO h3
            conv => cbv
            rw [hr]
            simp
            omega
          · replace h3 := t_leq hO h3
            conv => cbv
            rw [hr]
            simp
            omega
set_option maxHeartbeats 1000000 in
theorem has26_ok (R : Ans) (s : SetV) (x : Str) (h23 : R.v 28 [setD s] (.int .i64 (checkE s))) (h19 : R.v 15 [mkS x] (.bool (valueB x))) (h43 : R.v 29 [setD s, mkS x] (.bool (hasRaw s x))) : AnsF R c16 [setD s, mkS x] (.bool (hasB s x)) := by
  obtain ⟨r, hr⟩ : ∃ r, r = hasB s x := ⟨_, rfl⟩
  rw [← hr]
  unfold hasB at hr
  obtain ⟨e, he⟩ : ∃ e, e = checkE s := ⟨_, rfl⟩
  obtain ⟨q, hq⟩ : ∃ q, q = valueB x := ⟨_, rfl⟩
  obtain ⟨p, hp⟩ : ∃ p, p = hasRaw s x := ⟨_, rfl⟩
  rw [← he, ← hq, ← hp] at hr
  rw [← he] at h23
  rw [← hq] at h19
  rw [← hp] at h43
  clear he hq hp
  obtain ⟨m, n, u, l, lo, hi⟩ := s
  unfold setD at h23 h43 ⊢
  simp only at h23 h43 ⊢
  have hcx : CleanL (l.map mkS) := cleanL_map clean_S rfl
  obtain ⟨xs, hxs⟩ : ∃ xs, xs = l.map mkS := ⟨_, rfl⟩
  rw [← hxs] at hcx h23 h43 ⊢
  refine wpF_sound ⟨rfl, by decide⟩ fun O hO V hV => ?_
  subst hV
  conv => cbv
  refine ⟨hcx, _, h23, ?_⟩
  conv => cbv
  rintro (_ | _) h1
  · replace h1 := f_eql hO h1
    conv => cbv
    rw [hr]
    simp [h1]
  · replace h1 := t_eql hO h1
    conv => cbv
    refine ⟨_, h19, ?_⟩
    cases q with
    | false =>
      conv => cbv
      rw [hr]
      simp
    | true =>
      conv => cbv
      refine ⟨hcx, _, h43, ?_⟩
      conv => cbv
      rw [hr]
      simp [h1]
theorem empty_len {O : Ops} (hO : O = Ops.std) {l : List Str} {xs : List D} (hxs : xs = l.map mkS) {t : Bool} (h : t = O .icmp .eql (O .len xs) 0) : t = decide (l = []) := by
  rw [o_eql hO, o_len hO, hxs] at h
  rw [h]
  simp
set_option maxHeartbeats 1000000 in
theorem empty27_ok (R : Ans) (s : SetV) (h23 : R.v 28 [setD s] (.int .i64 (checkE s))) : AnsF R c25 [setD s] (.bool (emptyB s)) := by
  obtain ⟨r, hr⟩ : ∃ r, r = emptyB s := ⟨_, rfl⟩
  rw [← hr]
  unfold emptyB at hr
  obtain ⟨e, he⟩ : ∃ e, e = checkE s := ⟨_, rfl⟩
  rw [← he] at hr h23
  clear he
  obtain ⟨m, n, u, l, lo, hi⟩ := s
  unfold setD at h23 ⊢
  simp only at h23 hr ⊢
  have hcx : CleanL (l.map mkS) := cleanL_map clean_S rfl
  obtain ⟨xs, hxs⟩ : ∃ xs, xs = l.map mkS := ⟨_, rfl⟩
  rw [← hxs] at hcx h23 ⊢
  refine wpF_sound ⟨rfl, by decide⟩ fun O hO V hV => ?_
  subst hV
  conv => cbv
  refine ⟨hcx, _, h23, ?_⟩
  conv => cbv
  rintro (_ | _) h1
  · replace h1 := f_eql hO h1
    conv => cbv
    rw [hr]
    simp [h1]
  · replace h1 := t_eql hO h1
    cases n <;> cases m <;> (conv => cbv)
    · intro t ht
      have h2 := empty_len hO hxs ht
      conv => cbv
      rw [hr, h2]
      simp [h1]
    all_goals (rw [hr]; simp [h1])
end Go.Proofs.AM
namespace Go.Proofs.AM
open Go Go.Lib Cd
def lD (l : List Str) : D := .sl 1 false (l.map mkS)
theorem lD_clean (l : List Str) : Clean (lD l) := by
  have := cleanL_map clean_S (l := l) rfl
  exact ⟨by simp [lD, closed, this.c], by simp [lD, strip, this.s]⟩
theorem foldl_flat {L : List (List Str)} {k : Nat} {l : List Str} (h : L[k]? = some l) (a : List Str) : (L.take (k + 1)).flatten.foldl insS a = l.foldl insS ((L.take k).flatten.foldl insS a) := by
  rw [List.take_add_one, h, List.flatten_append, List.foldl_append]
  simp
theorem foldl_take' {l : List Str} {k : Nat} {y : Str} (h : l[k]? = some y) (a : List Str) : (l.take (k + 1)).foldl insS a = insS ((l.take k).foldl insS a) y := by
  rw [List.take_add_one, h, List.foldl_append]
  rfl
set_option maxRecDepth 100000 in
set_option maxHeartbeats 4000000 in
theorem group33_ok (R : Ans) (L : List (List Str)) (hL : L.length ≤ 8796093022208) (hl : ∀ l ∈ L, l.length ≤ 8796093022208) : AnsF R c30 [.sl 1 false (L.map lD)] (.mapv ((groupS L).map ent)) := by
  obtain ⟨xs, hxs⟩ : ∃ xs, xs = L.map lD := ⟨_, rfl⟩
  obtain ⟨rs, hrs⟩ : ∃ rs, rs = (groupS L).map ent := ⟨_, rfl⟩
  have hcr : CleanL rs := cleanL_map clean_ent hrs
  rw [← hxs, ← hrs]
  refine wpF_sound ⟨rfl, by decide⟩ fun O hO V hV => ?_
  have hlen : O .len xs = L.length := by rw [o_len hO, hxs]; simp
  conv => cbv
  refine loop_of (fun n d => ∃ (i : Int) (k : Nat) (ac : List D) (tk : Int), d = ⟨[(3, .mapr 8 1), (9, .sl 1 false xs), (10, .int .i64 (O .len xs)), (11, .int .i64 i)], [(8, ⟨1, .rw, .map, .int .i64 tk :: ac⟩)], false⟩ ∧ i = k ∧ k ≤ L.length ∧ n = L.length - k ∧ ac = ((L.take k).flatten.foldl insS []).map ent) ⟨_, _, ⟨_, 0, _, _, rfl, rfl, by omega, rfl, by simp⟩, ⟨⟨rfl, rfl, rfl, rfl, trivial⟩, ⟨rfl, trivial⟩, rfl⟩⟩ ?_
  rintro J up n d ⟨i, k, ac, tk, rfl, hi, hk, rfl, hac⟩
  conv => cbv
  rintro (_ | _) h1
  · replace h1 := f_lss hO h1
    rw [hlen] at h1
    have : ac = rs := by rw [hac, hrs, List.take_of_length_le (by omega)]; rfl
    conv => cbv
    rw [this]
    refine ⟨hcr, ?_⟩
    conv => cbv
    trivial
  · replace h1 := t_lss hO h1
    rw [hlen] at h1
    conv => cbv
    obtain ⟨l, hy⟩ : ∃ l, L[k]? = some l := ⟨_, List.getElem?_eq_getElem (by omega)⟩
    have hll := hl l (List.mem_of_getElem? hy)
    refine ⟨lD l, atX_map hy hxs hi, ?_⟩
    obtain ⟨ys, hys⟩ : ∃ ys, ys = l.map mkS := ⟨_, rfl⟩
    have hlen2 : O .len ys = l.length := by rw [o_len hO, hys]; simp
    unfold lD
    rw [← hys]
    conv => cbv
    refine loop_of (fun n d => ∃ (i2 : Int) (k2 : Nat) (ac2 : List D) (tk2 : Int), d = ⟨[(3, .mapr 8 1), (9, .sl 1 false xs), (10, .int .i64 (O .len xs)), (11, .int .i64 i), (15, .sl 1 false ys), (16, .int .i64 (O .len ys)), (17, .int .i64 i2)], [(8, ⟨1, .rw, .map, .int .i64 tk2 :: ac2⟩)], false⟩ ∧ i2 = k2 ∧ k2 ≤ l.length ∧ n = l.length - k2 ∧ ac2 = ((l.take k2).foldl insS ((L.take k).flatten.foldl insS [])).map ent) ⟨_, _, ⟨_, 0, _, _, rfl, rfl, by omega, rfl, by simpa using hac⟩, ⟨⟨rfl, rfl, rfl, rfl, rfl, rfl, rfl, trivial⟩, ⟨rfl, trivial⟩, rfl⟩⟩ ?_
    rintro J2 up2 n2 d ⟨i2, k2, ac2, tk2, rfl, hi2, hk2, rfl, hac2⟩
    conv => cbv
    rintro (_ | _) h2
    · replace h2 := f_lss hO h2
      rw [hlen2] at h2
      conv => cbv
      refine ⟨_, _, up _ _ ⟨_, k + 1, ac2, tk2, rfl, ?_, by omega, rfl, ?_⟩, ⟨⟨rfl, rfl, rfl, rfl, trivial⟩, ⟨rfl, trivial⟩, rfl⟩, by omega⟩
      · rw [o_add64 hO (by omega) (by omega)]; omega
      · have e3 : l.take k2 = l := List.take_of_length_le (by omega)
        rw [hac2, foldl_flat hy, e3]
    · replace h2 := t_lss hO h2
      rw [hlen2] at h2
      conv => cbv
      obtain ⟨y, hy2⟩ : ∃ y, l[k2]? = some y := ⟨_, List.getElem?_eq_getElem (by omega)⟩
      refine ⟨mkS y, atX_map hy2 hys hi2, ?_⟩
      conv => cbv
      obtain ⟨ac3, hac3⟩ : ∃ ac3, ac3 = (insS ((l.take k2).foldl insS ((L.take k).flatten.foldl insS [])) y).map ent := ⟨_, rfl⟩
      refine ⟨ac3, by rw [hac2, hac3]; exact mput_ent _ _, fun c => ?_⟩
      conv => cbv
      refine ⟨_, _, up2 _ _ ⟨_, k2 + 1, ac3, c, rfl, ?_, by omega, rfl, ?_⟩, ⟨⟨rfl, rfl, rfl, rfl, rfl, rfl, rfl, trivial⟩, ⟨rfl, trivial⟩, rfl⟩, by omega⟩
      · rw [o_add64 hO (by omega) (by omega)]; omega
      · rw [hac3, foldl_take' hy2]
set_option maxRecDepth 100000 in
set_option maxHeartbeats 4000000 in
theorem group33_shared (R : Ans) (L : List (List Str)) (hL : L.length ≤ 8796093022208) (hl : ∀ l ∈ L, l.length ≤ 8796093022208) : ∀ O : Ops, O = Ops.std → ∀ V : Ans, V = R → wpS O V 300 c30 [.sl 1 false (L.map lD)] [] (fun r kn => ∃ g c, r = .mapr 308 g ∧ kn = [(308, ⟨g, .rw, .map, .int .i64 c :: (groupS L).map ent⟩)]) := by
  obtain ⟨xs, hxs⟩ : ∃ xs, xs = L.map lD := ⟨_, rfl⟩
  obtain ⟨rs, hrs⟩ : ∃ rs, rs = (groupS L).map ent := ⟨_, rfl⟩
  have hcr : CleanL rs := cleanL_map clean_ent hrs
  rw [← hxs, ← hrs]
  intro O hO V hV
  have hlen : O .len xs = L.length := by rw [o_len hO, hxs]; simp
  conv => cbv
  intro g0
  conv => cbv
  refine loop_of (fun n d => ∃ (i : Int) (k : Nat) (ac : List D) (tk : Int), d = ⟨[(3, .mapr 308 g0), (9, .sl 1 false xs), (10, .int .i64 (O .len xs)), (11, .int .i64 i)], [(308, ⟨g0, .rw, .map, .int .i64 tk :: ac⟩)], false⟩ ∧ i = k ∧ k ≤ L.length ∧ n = L.length - k ∧ ac = ((L.take k).flatten.foldl insS []).map ent) ⟨_, _, ⟨_, 0, _, _, rfl, rfl, by omega, rfl, by simp⟩, ⟨⟨rfl, rfl, rfl, rfl, trivial⟩, ⟨rfl, trivial⟩, rfl⟩⟩ ?_
  rintro J up n d ⟨i, k, ac, tk, rfl, hi, hk, rfl, hac⟩
  conv => cbv
  rintro (_ | _) h1
  · replace h1 := f_lss hO h1
    rw [hlen] at h1
    have : ac = rs := by rw [hac, hrs, List.take_of_length_le (by omega)]; rfl
    conv => cbv
    rw [this]
    exact ⟨g0, tk, rfl, rfl⟩
  · replace h1 := t_lss hO h1
    rw [hlen] at h1
    conv => cbv
    obtain ⟨l, hy⟩ : ∃ l, L[k]? = some l := ⟨_, List.getElem?_eq_getElem (by omega)⟩
    have hll := hl l (List.mem_of_getElem? hy)
    refine ⟨lD l, atX_map hy hxs hi, ?_⟩
    obtain ⟨ys, hys⟩ : ∃ ys, ys = l.map mkS := ⟨_, rfl⟩
    have hlen2 : O .len ys = l.length := by rw [o_len hO, hys]; simp
    unfold lD
    rw [← hys]
    conv => cbv
    refine loop_of (fun n d => ∃ (i2 : Int) (k2 : Nat) (ac2 : List D) (tk2 : Int), d = ⟨[(3, .mapr 308 g0), (9, .sl 1 false xs), (10, .int .i64 (O .len xs)), (11, .int .i64 i), (15, .sl 1 false ys), (16, .int .i64 (O .len ys)), (17, .int .i64 i2)], [(308, ⟨g0, .rw, .map, .int .i64 tk2 :: ac2⟩)], false⟩ ∧ i2 = k2 ∧ k2 ≤ l.length ∧ n = l.length - k2 ∧ ac2 = ((l.take k2).foldl insS ((L.take k).flatten.foldl insS [])).map ent) ⟨_, _, ⟨_, 0, _, _, rfl, rfl, by omega, rfl, by simpa using hac⟩, ⟨⟨rfl, rfl, rfl, rfl, rfl, rfl, rfl, trivial⟩, ⟨rfl, trivial⟩, rfl⟩⟩ ?_
    rintro J2 up2 n2 d ⟨i2, k2, ac2, tk2, rfl, hi2, hk2, rfl, hac2⟩
    conv => cbv
    rintro (_ | _) h2
    · replace h2 := f_lss hO h2
      rw [hlen2] at h2
      conv => cbv
      refine ⟨_, _, up _ _ ⟨_, k + 1, ac2, tk2, rfl, ?_, by omega, rfl, ?_⟩, ⟨⟨rfl, rfl, rfl, rfl, trivial⟩, ⟨rfl, trivial⟩, rfl⟩, by omega⟩
      · rw [o_add64 hO (by omega) (by omega)]; omega
      · have e3 : l.take k2 = l := List.take_of_length_le (by omega)
        rw [hac2, foldl_flat hy, e3]
    · replace h2 := t_lss hO h2
      rw [hlen2] at h2
      conv => cbv
      obtain ⟨y, hy2⟩ : ∃ y, l[k2]? = some y := ⟨_, List.getElem?_eq_getElem (by omega)⟩
      refine ⟨mkS y, atX_map hy2 hys hi2, ?_⟩
      conv => cbv
      obtain ⟨ac3, hac3⟩ : ∃ ac3, ac3 = (insS ((l.take k2).foldl insS ((L.take k).flatten.foldl insS [])) y).map ent := ⟨_, rfl⟩
      refine ⟨ac3, by rw [hac2, hac3]; exact mput_ent _ _, fun c => ?_⟩
      conv => cbv
      refine ⟨_, _, up2 _ _ ⟨_, k2 + 1, ac3, c, rfl, ?_, by omega, rfl, ?_⟩, ⟨⟨rfl, rfl, rfl, rfl, rfl, rfl, rfl, trivial⟩, ⟨rfl, trivial⟩, rfl⟩, by omega⟩
      · rw [o_add64 hO (by omega) (by omega)]; omega
      · rw [hac3, foldl_take' hy2]
end Go.Proofs.AM
