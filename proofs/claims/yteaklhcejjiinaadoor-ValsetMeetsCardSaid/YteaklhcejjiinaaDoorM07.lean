/- Part 7 of the lemmas: PVc, VVf. -/
import Derived.Test.YteaklhcejjiinaaDoorM06
namespace Go.Proofs.AM
open Go Cd
def c12 : Func :=
⟨1, 51, [.cell 2 6 true, .tmp 3],
 (.seq (.ops [o 1 (.box (t 0)), o 2 (.alloc [(.bool false), (.bool false), (.bool false), (.sl 1 true []), (.int .i64 0), (.int .i64 0)]), o 3 (.mov (c (.int .i64 0)))])
 (.seq (.seq (.ops [o 6 (.load 4 true (t 1)), o 7 (.call false (c (.fn 31 [] [])) [(t 6)]), o 4 (.mov (t 7))])
 (.seq (.ops [o 8 (.mov (t 4)), o 9 (.bin .neq (t 8) (c (.int .i64 0)))])
 (.cond (t 9) (.seq (.ops [o 10 (.build [(.bool false), (.bool false), (.bool false), (.sl 1 true []), (.int .i64 0), (.int .i64 0)] []), o 11 (.mov (t 4)), w (.store 6 (t 2) (t 10)), o 3 (.mov (t 11))])
 .ret) .skip)))
 (.seq (.ops [o 12 (.fAddr 2 (t 1)), o 13 (.load 1 false (t 12)), o 14 (.mkSl false 1 22 (.sl 1 true []) 1 [(0, (t 13))]), o 15 (.call false (c (.fn 33 [] [])) [(t 14)]), o 16 (.call false (c (.fn 32 [] [])) [(t 15)]), o 17 (.build [(.bool false), (.bool false), (.bool false), (.sl 1 true []), (.int .i64 0), (.int .i64 0)] [(3, 1, (t 16))]), o 5 (.alloc [(.bool false), (.bool false), (.bool false), (.sl 1 true []), (.int .i64 0), (.int .i64 0)]), w (.store 6 (t 5) (t 17))])
 (.join (.seq (.ops [o 18 (.fAddr 1 (t 1)), o 19 (.load 1 false (t 18))])
 (.block 0 (.seq (.ops [o 21 (.bin .eql (t 19) (c (.int .i64 2))), o 20 (.mov (t 21))])
 (.cond (t 20) (.ops [o 22 (.fAddr 0 (t 5)), w (.store 1 (t 22) (c (.bool true))), o 23 (.fAddr 1 (t 5)), w (.store 1 (t 23) (c (.bool true)))]) (.seq (.ops [o 25 (.bin .eql (t 19) (c (.int .i64 3))), o 24 (.mov (t 25))])
 (.cond (t 24) (.ops [o 26 (.fAddr 1 (t 5)), w (.store 1 (t 26) (c (.bool true)))]) (.seq (.ops [o 28 (.bin .eql (t 19) (c (.int .i64 4))), o 27 (.mov (t 28))])
 (.cond (t 27) (.ops [o 29 (.fAddr 0 (t 5)), w (.store 1 (t 29) (c (.bool true)))]) (.seq (.ops [o 31 (.bin .eql (t 19) (c (.int .i64 5))), o 30 (.mov (t 31))])
 (.cond (t 30) (.ops [o 33 (.fAddr 3 (t 1)), o 34 (.load 1 false (t 33)), o 35 (.bin .add (t 34) (c (.int .i64 1))), o 36 (.call true (c (.fn 33 [] [])) [(c (.sl 1 true []))]), o 37 (.call true (c (.fn 34 [] [])) [(t 35), (c (.int .i64 2147483648)), (t 36)]), o 32 (.mov (t 37)), o 38 (.ext 0 (t 32)), o 39 (.ext 1 (t 32)), w (.store 6 (t 5) (t 38))]) (.seq (.ops [o 41 (.bin .eql (t 19) (c (.int .i64 6))), o 40 (.mov (t 41))])
 (.cond (t 40) (.ops [o 43 (.fAddr 3 (t 1)), o 44 (.load 1 false (t 43)), o 45 (.bin .sub (t 44) (c (.int .i64 1))), o 46 (.call true (c (.fn 33 [] [])) [(c (.sl 1 true []))]), o 47 (.call true (c (.fn 34 [] [])) [(c (.int .i64 (-2147483648))), (t 45), (t 46)]), o 42 (.mov (t 47)), o 48 (.ext 0 (t 42)), o 49 (.ext 1 (t 42)), w (.store 6 (t 5) (t 48))]) .skip))))))))))))
 (.seq (.ops [o 50 (.load 6 true (t 5)), w (.store 6 (t 2) (t 50)), o 3 (.mov (c (.int .i64 0)))])
 .ret)))))⟩
def c13 : Func :=
⟨1, 28, [.tmp 2, .tmp 3],
 (.seq (.ops [o 2 (.mov (c (.int .i64 0))), o 3 (.mov (c (.bool false)))])
 (.seq (.ops [o 7 (.mov (t 0)), o 8 (.call false (c (.fn 35 [] [])) [(t 7), (c (.int .i64 10)), (c (.int .i64 64))]), o 6 (.mov (t 8)), o 9 (.ext 0 (t 6)), o 10 (.ext 1 (t 6)), o 4 (.mov (t 9)), o 5 (.mov (t 10))])
 (.seq (.seq (.ops [o 11 (.mov (t 5)), o 12 (.eqn true (t 11) (c .nili)), o 13 (.mov (t 12)), ⟨some 14, .mov (t 4), some (13, false)⟩, ⟨some 15, .bin .lss (t 14) (c (.int .i64 (-2147483648))), some (13, false)⟩, o 16 (.pick (t 13) (c (.bool true)) (t 15)), o 17 (.mov (t 16)), ⟨some 18, .mov (t 4), some (17, false)⟩, ⟨some 19, .bin .gtr (t 18) (c (.int .i64 2147483648)), some (17, false)⟩, o 20 (.pick (t 17) (c (.bool true)) (t 19)), o 21 (.mov (t 20)), ⟨some 22, .mov (t 4), some (21, false)⟩, ⟨some 23, .call false (c (.fn 36 [] [])) [(t 22), (c (.int .i64 10))], some (21, false)⟩, ⟨some 24, .mov (t 0), some (21, false)⟩, ⟨some 25, .bin .neq (t 23) (t 24), some (21, false)⟩, o 26 (.pick (t 21) (c (.bool true)) (t 25))])
 (.cond (t 26) (.seq (.ops [o 2 (.mov (c (.int .i64 0))), o 3 (.mov (c (.bool false)))])
 .ret) .skip))
 (.seq (.ops [o 27 (.mov (t 4)), o 2 (.mov (t 27)), o 3 (.mov (c (.bool true)))])
 .ret))))⟩
def c15 : Func :=
⟨1, 58, [.tmp 2, .tmp 3],
 (.seq (.ops [o 2 (.mov (c (.int .i64 0))), o 3 (.mov (c (.bool false)))])
 (.seq (.seq (.ops [o 7 (.mov (t 0)), o 8 (.lenStr (t 7)), o 9 (.bin .gtr (t 8) (c (.int .i64 11)))])
 (.cond (t 9) (.seq (.ops [o 2 (.mov (c (.int .i64 0))), o 3 (.mov (c (.bool false)))])
 .ret) .skip))
 (.seq (.ops [o 4 (.mov (c (.int .i64 0)))])
 (.seq (.seq (.ops [o 5 (.mov (c (.int .i64 0)))])
 (.block 0 (.loop (.seq (.seq (.ops [o 10 (.mov (t 5)), o 11 (.mov (t 0)), o 12 (.lenStr (t 11)), o 13 (.bin .lss (t 10) (t 12))])
 (.cond (t 13) .skip (.exit 0)))
 (.seq (.block 1 (.seq (.ops [o 16 (.mov (t 0)), o 17 (.mov (t 5)), o 18 (.idxStr (t 16) (t 17)), o 19 (.bin .geq (t 18) (c (.int .u8 48))), o 20 (.mov (t 19)), ⟨some 21, .mov (t 0), some (20, true)⟩, ⟨some 22, .mov (t 5), some (20, true)⟩, ⟨some 23, .idxStr (t 21) (t 22), some (20, true)⟩, ⟨some 24, .bin .leq (t 23) (c (.int .u8 57)), some (20, true)⟩, o 25 (.pick (t 20) (t 24) (c (.bool false)))])
 (.cond (t 25) (.ops [o 26 (.mov (t 4)), o 27 (.bin .mul (t 26) (c (.int .i64 10))), o 28 (.mov (t 0)), o 29 (.mov (t 5)), o 30 (.idxStr (t 28) (t 29)), o 31 (.bin .sub (t 30) (c (.int .u8 48))), o 32 (.cvInt .i64 (t 31)), o 33 (.bin .add (t 27) (t 32)), o 4 (.mov (t 33))]) .skip)))
 (.ops [o 14 (.mov (t 5)), o 15 (.bin .add (t 14) (c (.int .i64 1))), o 5 (.mov (t 15))]))))))
 (.seq (.seq (.ops [o 34 (.mov (t 0)), o 35 (.lenStr (t 34)), o 36 (.bin .gtr (t 35) (c (.int .i64 0))), o 37 (.mov (t 36)), ⟨some 38, .mov (t 0), some (37, true)⟩, ⟨some 39, .idxStr (t 38) (c (.int .i64 0)), some (37, true)⟩, ⟨some 40, .bin .eql (t 39) (c (.int .u8 45)), some (37, true)⟩, o 41 (.pick (t 37) (t 40) (c (.bool false)))])
 (.cond (t 41) (.ops [o 42 (.mov (t 4)), o 43 (.un .neg (t 42)), o 4 (.mov (t 43))]) .skip))
 (.seq (.ops [o 44 (.mov (t 4)), o 45 (.call false (c (.fn 37 [] [])) [(t 44)]), o 6 (.mov (t 45))])
 (.seq (.seq (.ops [o 46 (.mov (t 6)), o 47 (.mov (t 0)), o 48 (.bin .neq (t 46) (t 47)), o 49 (.mov (t 48)), ⟨some 50, .mov (t 4), some (49, false)⟩, ⟨some 51, .bin .lss (t 50) (c (.int .i64 (-2147483648))), some (49, false)⟩, o 52 (.pick (t 49) (c (.bool true)) (t 51)), o 53 (.mov (t 52)), ⟨some 54, .mov (t 4), some (53, false)⟩, ⟨some 55, .bin .gtr (t 54) (c (.int .i64 2147483648)), some (53, false)⟩, o 56 (.pick (t 53) (c (.bool true)) (t 55))])
 (.cond (t 56) (.seq (.ops [o 2 (.mov (c (.int .i64 0))), o 3 (.mov (c (.bool false)))])
 .ret) .skip))
 (.seq (.ops [o 57 (.mov (t 4)), o 2 (.mov (t 57)), o 3 (.mov (c (.bool true)))])
 .ret))))))))⟩
def c16 : Func :=
⟨1, 54, [.tmp 2],
 (.seq (.ops [o 2 (.mov (c (.bool false)))])
 (.seq (.seq (.ops [o 5 (.mov (t 0)), o 6 (.lenStr (t 5)), o 7 (.bin .lss (t 6) (c (.int .i64 1))), o 8 (.mov (t 7)), ⟨some 9, .mov (t 0), some (8, false)⟩, ⟨some 10, .lenStr (t 9), some (8, false)⟩, ⟨some 11, .bin .gtr (t 10) (c (.int .i64 16)), some (8, false)⟩, o 12 (.pick (t 8) (c (.bool true)) (t 11)), o 13 (.mov (t 12)), ⟨some 14, .mov (t 0), some (13, false)⟩, ⟨some 15, .idxStr (t 14) (c (.int .i64 0)), some (13, false)⟩, ⟨some 16, .bin .lss (t 15) (c (.int .u8 97)), some (13, false)⟩, o 17 (.pick (t 13) (c (.bool true)) (t 16)), o 18 (.mov (t 17)), ⟨some 19, .mov (t 0), some (18, false)⟩, ⟨some 20, .idxStr (t 19) (c (.int .i64 0)), some (18, false)⟩, ⟨some 21, .bin .gtr (t 20) (c (.int .u8 122)), some (18, false)⟩, o 22 (.pick (t 18) (c (.bool true)) (t 21))])
 (.cond (t 22) (.seq (.ops [o 2 (.mov (c (.bool false)))])
 .ret) .skip))
 (.seq (.seq (.ops [o 3 (.mov (c (.int .i64 0)))])
 (.block 0 (.loop (.seq (.seq (.ops [o 23 (.mov (t 3)), o 24 (.mov (t 0)), o 25 (.lenStr (t 24)), o 26 (.bin .lss (t 23) (t 25))])
 (.cond (t 26) .skip (.exit 0)))
 (.seq (.block 1 (.seq (.ops [o 29 (.mov (t 0)), o 30 (.mov (t 3)), o 31 (.idxStr (t 29) (t 30)), o 4 (.mov (t 31))])
 (.seq (.ops [o 32 (.mov (t 4)), o 33 (.bin .lss (t 32) (c (.int .u8 97))), o 34 (.mov (t 33)), ⟨some 35, .mov (t 4), some (34, false)⟩, ⟨some 36, .bin .gtr (t 35) (c (.int .u8 122)), some (34, false)⟩, o 37 (.pick (t 34) (c (.bool true)) (t 36)), o 38 (.mov (t 37)), ⟨some 39, .mov (t 4), some (38, true)⟩, ⟨some 40, .bin .lss (t 39) (c (.int .u8 48)), some (38, true)⟩, ⟨some 41, .mov (t 40), some (38, true)⟩, ⟨some 42, .mov (t 4), some (41, false)⟩, ⟨some 43, .bin .gtr (t 42) (c (.int .u8 57)), some (41, false)⟩, ⟨some 44, .pick (t 41) (c (.bool true)) (t 43), some (38, true)⟩, o 45 (.pick (t 38) (t 44) (c (.bool false))), o 46 (.mov (t 45)), ⟨some 47, .mov (t 4), some (46, true)⟩, ⟨some 48, .bin .neq (t 47) (c (.int .u8 46)), some (46, true)⟩, o 49 (.pick (t 46) (t 48) (c (.bool false))), o 50 (.mov (t 49)), ⟨some 51, .mov (t 4), some (50, true)⟩, ⟨some 52, .bin .neq (t 51) (c (.int .u8 45)), some (50, true)⟩, o 53 (.pick (t 50) (t 52) (c (.bool false)))])
 (.cond (t 53) (.seq (.ops [o 2 (.mov (c (.bool false)))])
 .ret) .skip))))
 (.ops [o 27 (.mov (t 3)), o 28 (.bin .add (t 27) (c (.int .i64 1))), o 3 (.mov (t 28))]))))))
 (.seq (.ops [o 2 (.mov (c (.bool true)))])
 .ret))))⟩
def c17 : Func :=
⟨1, 17, [.tmp 2],
 (.seq (.ops [o 2 (.mov (c (.bool false)))])
 (.seq (.ops [o 6 (.mov (t 0)), o 7 (.call false (c (.fn 16 [] [])) [(t 6)]), o 3 (.mov (t 7))])
 (.seq (.ops [o 9 (.mov (t 0)), o 10 (.call false (c (.fn 15 [] [])) [(t 9)]), o 8 (.mov (t 10)), o 11 (.ext 0 (t 8)), o 12 (.ext 1 (t 8)), o 4 (.mov (t 11)), o 5 (.mov (t 12))])
 (.seq (.ops [o 13 (.mov (t 3)), o 14 (.mov (t 13)), ⟨some 15, .mov (t 5), some (14, false)⟩, o 16 (.pick (t 14) (c (.bool true)) (t 15)), o 2 (.mov (t 16))])
 .ret))))⟩
def c18 : Func :=
⟨1, 50, [.tmp 2],
 (.seq (.ops [o 2 (.mov (c (.bool false)))])
 (.seq (.seq (.ops [o 6 (.mov (t 0)), o 7 (.cvSB (t 6)), o 8 (.lenSl (t 7)), o 9 (.mov (c (.int .i64 0)))])
 (.block 0 (.loop (.seq (.ops [o 10 (.bin .lss (t 9) (t 8))])
 (.seq (.cond (t 10) .skip (.exit 0))
 (.seq (.block 1 (.seq (.ops [o 11 (.mov (t 9)), o 12 (.iAddrS 1 (t 7) (t 9)), o 13 (.load 1 false (t 12)), o 3 (.mov (t 11)), o 4 (.mov (t 13))])
 (.seq (.ops [o 14 (.mov (t 4)), o 15 (.bin .geq (t 14) (c (.int .u8 97))), o 16 (.mov (t 15)), ⟨some 17, .mov (t 4), some (16, true)⟩, ⟨some 18, .bin .leq (t 17) (c (.int .u8 122)), some (16, true)⟩, o 19 (.pick (t 16) (t 18) (c (.bool false))), o 5 (.mov (t 19))])
 (.seq (.ops [o 20 (.mov (t 5)), o 21 (.un .not (t 20)), o 22 (.mov (t 21)), ⟨some 23, .mov (t 3), some (22, true)⟩, ⟨some 24, .bin .eql (t 23) (c (.int .i64 0)), some (22, true)⟩, ⟨some 25, .mov (t 24), some (22, true)⟩, ⟨some 26, .mov (t 4), some (25, false)⟩, ⟨some 27, .bin .neq (t 26) (c (.int .u8 46)), some (25, false)⟩, ⟨some 28, .mov (t 27), some (25, false)⟩, ⟨some 29, .mov (t 4), some (28, true)⟩, ⟨some 30, .bin .neq (t 29) (c (.int .u8 45)), some (28, true)⟩, ⟨some 31, .pick (t 28) (t 30) (c (.bool false)), some (25, false)⟩, ⟨some 32, .mov (t 31), some (25, false)⟩, ⟨some 33, .mov (t 4), some (32, true)⟩, ⟨some 34, .bin .lss (t 33) (c (.int .u8 48)), some (32, true)⟩, ⟨some 35, .mov (t 34), some (32, true)⟩, ⟨some 36, .mov (t 4), some (35, false)⟩, ⟨some 37, .bin .gtr (t 36) (c (.int .u8 57)), some (35, false)⟩, ⟨some 38, .pick (t 35) (c (.bool true)) (t 37), some (32, true)⟩, ⟨some 39, .pick (t 32) (t 38) (c (.bool false)), some (25, false)⟩, ⟨some 40, .pick (t 25) (c (.bool true)) (t 39), some (22, true)⟩, o 41 (.pick (t 22) (t 40) (c (.bool false)))])
 (.cond (t 41) (.seq (.ops [o 2 (.mov (c (.bool false)))])
 .ret) .skip)))))
 (.ops [o 42 (.bin .add (t 9) (c (.int .i64 1))), o 9 (.mov (t 42))])))))))
 (.seq (.ops [o 43 (.mov (t 0)), o 44 (.bin .neq (t 43) (c (.str ⟨#[]⟩))), o 45 (.mov (t 44)), ⟨some 46, .mov (t 0), some (45, true)⟩, ⟨some 47, .lenStr (t 46), some (45, true)⟩, ⟨some 48, .bin .leq (t 47) (c (.int .i64 16)), some (45, true)⟩, o 49 (.pick (t 45) (t 48) (c (.bool false))), o 2 (.mov (t 49))])
 .ret)))⟩
def c19 : Func :=
⟨1, 15, [.tmp 2],
 (.seq (.ops [o 2 (.mov (c (.bool false)))])
 (.seq (.ops [o 6 (.mov (t 0)), o 7 (.call false (c (.fn 13 [] [])) [(t 6)]), o 5 (.mov (t 7)), o 8 (.ext 0 (t 5)), o 9 (.ext 1 (t 5)), o 3 (.mov (t 8)), o 4 (.mov (t 9))])
 (.seq (.ops [o 10 (.mov (t 4)), o 11 (.mov (t 10)), ⟨some 12, .mov (t 0), some (11, false)⟩, ⟨some 13, .call false (c (.fn 18 [] [])) [(t 12)], some (11, false)⟩, o 14 (.pick (t 11) (c (.bool true)) (t 13)), o 2 (.mov (t 14))])
 .ret)))⟩
def c20 : Func :=
⟨1, 53, [.cell 2 6 true, .tmp 3],
 (.seq (.ops [o 1 (.box (t 0)), o 2 (.alloc [(.bool false), (.bool false), (.bool false), (.sl 1 true []), (.int .i64 0), (.int .i64 0)]), o 3 (.mov (c (.int .i64 0)))])
 (.seq (.ops [o 9 (.load 4 true (t 1)), o 10 (.call false (c (.fn 38 [] [])) [(t 9)]), o 4 (.mov (t 10))])
 (.seq (.seq (.ops [o 11 (.mov (t 4)), o 12 (.bin .neq (t 11) (c (.int .i64 0)))])
 (.cond (t 12) (.seq (.ops [o 13 (.build [(.bool false), (.bool false), (.bool false), (.sl 1 true []), (.int .i64 0), (.int .i64 0)] []), o 14 (.mov (t 4)), w (.store 6 (t 2) (t 13)), o 3 (.mov (t 14))])
 .ret) .skip))
 (.seq (.seq (.ops [o 15 (.fAddr 1 (t 1)), o 16 (.load 1 false (t 15))])
 (.block 0 (.seq (.ops [o 18 (.bin .eql (t 16) (c (.int .i64 1))), o 17 (.mov (t 18))])
 (.cond (t 17) (.seq (.ops [o 19 (.fAddr 2 (t 1)), o 20 (.load 1 false (t 19)), o 21 (.call false (c (.fn 39 [] [])) [(t 20)]), o 22 (.build [(.bool false), (.bool false), (.bool false), (.sl 1 true []), (.int .i64 0), (.int .i64 0)] [(3, 1, (t 21))]), w (.store 6 (t 2) (t 22)), o 3 (.mov (c (.int .i64 0)))])
 .ret) (.seq (.ops [o 24 (.bin .eql (t 16) (c (.int .i64 2))), o 23 (.mov (t 24))])
 (.cond (t 23) (.seq (.ops [o 25 (.fAddr 2 (t 1)), o 26 (.load 1 false (t 25)), o 27 (.call false (c (.fn 39 [] [])) [(t 26)]), o 28 (.build [(.bool false), (.bool false), (.bool false), (.sl 1 true []), (.int .i64 0), (.int .i64 0)] [(0, 1, (c (.bool true))), (1, 1, (c (.bool true))), (3, 1, (t 27))]), w (.store 6 (t 2) (t 28)), o 3 (.mov (c (.int .i64 0)))])
 .ret) (.seq (.ops [o 30 (.bin .eql (t 16) (c (.int .i64 3))), o 29 (.mov (t 30))])
 (.cond (t 29) (.seq (.ops [o 31 (.build [(.bool false), (.bool false), (.bool false), (.sl 1 true []), (.int .i64 0), (.int .i64 0)] [(1, 1, (c (.bool true)))]), w (.store 6 (t 2) (t 31)), o 3 (.mov (c (.int .i64 0)))])
 .ret) (.seq (.ops [o 33 (.bin .eql (t 16) (c (.int .i64 4))), o 32 (.mov (t 33))])
 (.cond (t 32) (.seq (.ops [o 34 (.build [(.bool false), (.bool false), (.bool false), (.sl 1 true []), (.int .i64 0), (.int .i64 0)] [(0, 1, (c (.bool true)))]), w (.store 6 (t 2) (t 34)), o 3 (.mov (c (.int .i64 0)))])
 .ret) (.seq (.ops [o 36 (.bin .eql (t 16) (c (.int .i64 5))), o 35 (.mov (t 36))])
 (.cond (t 35) (.seq (.ops [o 38 (.fAddr 3 (t 1)), o 39 (.load 1 false (t 38)), o 40 (.bin .add (t 39) (c (.int .i64 1))), o 41 (.call false (c (.fn 40 [] [])) [(t 40), (c (.int .i64 2147483648)), (c (.sl 1 true []))]), o 37 (.mov (t 41)), o 42 (.ext 0 (t 37)), o 43 (.ext 1 (t 37)), o 5 (.alloc [(.bool false), (.bool false), (.bool false), (.sl 1 true []), (.int .i64 0), (.int .i64 0)]), w (.store 6 (t 5) (t 42)), o 6 (.mov (t 43))])
 (.seq (.ops [o 44 (.load 6 true (t 5)), w (.store 6 (t 2) (t 44)), o 3 (.mov (c (.int .i64 0)))])
 .ret)) .skip))))))))))))
 (.seq (.ops [o 46 (.fAddr 3 (t 1)), o 47 (.load 1 false (t 46)), o 48 (.bin .sub (t 47) (c (.int .i64 1))), o 49 (.call false (c (.fn 40 [] [])) [(c (.int .i64 (-2147483648))), (t 48), (c (.sl 1 true []))]), o 45 (.mov (t 49)), o 50 (.ext 0 (t 45)), o 51 (.ext 1 (t 45)), o 7 (.alloc [(.bool false), (.bool false), (.bool false), (.sl 1 true []), (.int .i64 0), (.int .i64 0)]), w (.store 6 (t 7) (t 50)), o 8 (.mov (t 51))])
 (.seq (.ops [o 52 (.load 6 true (t 7)), w (.store 6 (t 2) (t 52)), o 3 (.mov (c (.int .i64 0)))])
 .ret))))))⟩
def c21 : Func :=
⟨2, 8, [.tmp 4],
 (.seq (.ops [o 2 (.box (t 0)), o 3 (.box (t 1)), o 4 (.mov (c (.bool false)))])
 (.seq (.ops [o 5 (.load 6 true (t 2)), o 6 (.load 6 true (t 3)), o 7 (.call false (c (.fn 41 [] [])) [(t 5), (t 6)]), o 4 (.mov (t 7))])
 .ret))⟩
def c22 : Func :=
⟨1, 97, [.tmp 2],
 (.seq (.ops [o 1 (.box (t 0)), o 2 (.mov (c (.int .i64 0)))])
 (.seq (.ops [o 7 (.fAddr 3 (t 1)), o 8 (.load 1 false (t 7)), o 9 (.call false (c (.fn 42 [] [])) [(t 8)]), o 3 (.mov (t 9))])
 (.seq (.seq (.ops [o 10 (.mov (t 3)), o 11 (.un .not (t 10)), o 12 (.mov (t 11)), ⟨some 13, .fAddr 2 (t 1), some (12, false)⟩, ⟨some 14, .load 1 false (t 13), some (12, false)⟩, ⟨some 15, .mov (t 14), some (12, false)⟩, ⟨some 16, .fAddr 1 (t 1), some (15, true)⟩, ⟨some 17, .load 1 false (t 16), some (15, true)⟩, ⟨some 18, .un .not (t 17), some (15, true)⟩, ⟨some 19, .pick (t 15) (t 18) (c (.bool false)), some (12, false)⟩, o 20 (.pick (t 12) (c (.bool true)) (t 19)), o 21 (.mov (t 20)), ⟨some 22, .fAddr 2 (t 1), some (21, false)⟩, ⟨some 23, .load 1 false (t 22), some (21, false)⟩, ⟨some 24, .un .not (t 23), some (21, false)⟩, ⟨some 25, .mov (t 24), some (21, false)⟩, ⟨some 26, .fAddr 4 (t 1), some (25, true)⟩, ⟨some 27, .load 1 false (t 26), some (25, true)⟩, ⟨some 28, .bin .neq (t 27) (c (.int .i64 0)), some (25, true)⟩, ⟨some 29, .mov (t 28), some (25, true)⟩, ⟨some 30, .fAddr 5 (t 1), some (29, false)⟩, ⟨some 31, .load 1 false (t 30), some (29, false)⟩, ⟨some 32, .bin .neq (t 31) (c (.int .i64 0)), some (29, false)⟩, ⟨some 33, .pick (t 29) (c (.bool true)) (t 32), some (25, true)⟩, ⟨some 34, .pick (t 25) (t 33) (c (.bool false)), some (21, false)⟩, o 35 (.pick (t 21) (c (.bool true)) (t 34))])
 (.cond (t 35) (.seq (.ops [o 2 (.mov (c (.int .i64 1)))])
 .ret) .skip))
 (.seq (.seq (.ops [o 36 (.fAddr 2 (t 1)), o 37 (.load 1 false (t 36)), o 38 (.un .not (t 37))])
 (.cond (t 38) (.seq (.ops [o 2 (.mov (c (.int .i64 0)))])
 .ret) .skip))
 (.seq (.seq (.ops [o 39 (.fAddr 4 (t 1)), o 40 (.load 1 false (t 39)), o 41 (.bin .lss (t 40) (c (.int .i64 (-2147483648)))), o 42 (.mov (t 41)), ⟨some 43, .fAddr 5 (t 1), some (42, false)⟩, ⟨some 44, .load 1 false (t 43), some (42, false)⟩, ⟨some 45, .bin .gtr (t 44) (c (.int .i64 2147483648)), some (42, false)⟩, o 46 (.pick (t 42) (c (.bool true)) (t 45)), o 47 (.mov (t 46)), ⟨some 48, .fAddr 4 (t 1), some (47, false)⟩, ⟨some 49, .load 1 false (t 48), some (47, false)⟩, ⟨some 50, .fAddr 5 (t 1), some (47, false)⟩, ⟨some 51, .load 1 false (t 50), some (47, false)⟩, ⟨some 52, .bin .gtr (t 49) (t 51), some (47, false)⟩, o 53 (.pick (t 47) (c (.bool true)) (t 52)), o 54 (.mov (t 53)), ⟨some 55, .fAddr 5 (t 1), some (54, false)⟩, ⟨some 56, .load 1 false (t 55), some (54, false)⟩, ⟨some 57, .fAddr 4 (t 1), some (54, false)⟩, ⟨some 58, .load 1 false (t 57), some (54, false)⟩, ⟨some 59, .bin .sub (t 56) (t 58), some (54, false)⟩, ⟨some 60, .bin .add (t 59) (c (.int .i64 1)), some (54, false)⟩, ⟨some 61, .fAddr 3 (t 1), some (54, false)⟩, ⟨some 62, .load 1 false (t 61), some (54, false)⟩, ⟨some 63, .lenSl (t 62), some (54, false)⟩, ⟨some 64, .bin .sub (t 60) (t 63), some (54, false)⟩, ⟨some 65, .bin .leq (t 64) (c (.int .i64 64)), some (54, false)⟩, o 66 (.pick (t 54) (c (.bool true)) (t 65))])
 (.cond (t 66) (.seq (.ops [o 2 (.mov (c (.int .i64 1)))])
 .ret) .skip))
 (.seq (.seq (.ops [o 4 (.mov (c (.int .i64 0)))])
 (.block 0 (.loop (.seq (.seq (.ops [o 67 (.mov (t 4)), o 68 (.fAddr 3 (t 1)), o 69 (.load 1 false (t 68)), o 70 (.lenSl (t 69)), o 71 (.bin .lss (t 67) (t 70))])
 (.cond (t 71) .skip (.exit 0)))
 (.seq (.block 1 (.seq (.ops [o 75 (.fAddr 3 (t 1)), o 76 (.load 1 false (t 75)), o 77 (.mov (t 4)), o 78 (.iAddrS 1 (t 76) (t 77)), o 79 (.load 1 false (t 78)), o 80 (.call false (c (.fn 15 [] [])) [(t 79)]), o 74 (.mov (t 80)), o 81 (.ext 0 (t 74)), o 82 (.ext 1 (t 74)), o 5 (.mov (t 81)), o 6 (.mov (t 82))])
 (.seq (.ops [o 83 (.mov (t 6)), o 84 (.un .not (t 83)), o 85 (.mov (t 84)), ⟨some 86, .mov (t 5), some (85, false)⟩, ⟨some 87, .fAddr 4 (t 1), some (85, false)⟩, ⟨some 88, .load 1 false (t 87), some (85, false)⟩, ⟨some 89, .bin .leq (t 86) (t 88), some (85, false)⟩, o 90 (.pick (t 85) (c (.bool true)) (t 89)), o 91 (.mov (t 90)), ⟨some 92, .mov (t 5), some (91, false)⟩, ⟨some 93, .fAddr 5 (t 1), some (91, false)⟩, ⟨some 94, .load 1 false (t 93), some (91, false)⟩, ⟨some 95, .bin .geq (t 92) (t 94), some (91, false)⟩, o 96 (.pick (t 91) (c (.bool true)) (t 95))])
 (.cond (t 96) (.seq (.ops [o 2 (.mov (c (.int .i64 1)))])
 .ret) .skip))))
 (.ops [o 72 (.mov (t 4)), o 73 (.bin .add (t 72) (c (.int .i64 1))), o 4 (.mov (t 73))]))))))
 (.seq (.ops [o 2 (.mov (c (.int .i64 0)))])
 .ret)))))))⟩
def c23 : Func :=
⟨1, 125, [.tmp 2],
 (.seq (.ops [o 1 (.box (t 0)), o 2 (.mov (c (.int .i64 0)))])
 (.join (.ops [o 8 (.fAddr 3 (t 1)), o 9 (.load 1 false (t 8)), o 10 (.lenSl (t 9)), o 11 (.bin .gtr (t 10) (c (.int .i64 64))), o 12 (.mov (t 11)), ⟨some 13, .fAddr 2 (t 1), some (12, false)⟩, ⟨some 14, .load 1 false (t 13), some (12, false)⟩, ⟨some 15, .mov (t 14), some (12, false)⟩, ⟨some 16, .fAddr 1 (t 1), some (15, true)⟩, ⟨some 17, .load 1 false (t 16), some (15, true)⟩, ⟨some 18, .un .not (t 17), some (15, true)⟩, ⟨some 19, .pick (t 15) (t 18) (c (.bool false)), some (12, false)⟩, o 20 (.pick (t 12) (c (.bool true)) (t 19)), o 21 (.mov (t 20)), ⟨some 22, .fAddr 2 (t 1), some (21, false)⟩, ⟨some 23, .load 1 false (t 22), some (21, false)⟩, ⟨some 24, .un .not (t 23), some (21, false)⟩, ⟨some 25, .mov (t 24), some (21, false)⟩, ⟨some 26, .fAddr 4 (t 1), some (25, true)⟩, ⟨some 27, .load 1 false (t 26), some (25, true)⟩, ⟨some 28, .bin .neq (t 27) (c (.int .i64 0)), some (25, true)⟩, ⟨some 29, .mov (t 28), some (25, true)⟩, ⟨some 30, .fAddr 5 (t 1), some (29, false)⟩, ⟨some 31, .load 1 false (t 30), some (29, false)⟩, ⟨some 32, .bin .neq (t 31) (c (.int .i64 0)), some (29, false)⟩, ⟨some 33, .pick (t 29) (c (.bool true)) (t 32), some (25, true)⟩, ⟨some 34, .pick (t 25) (t 33) (c (.bool false)), some (21, false)⟩, o 35 (.pick (t 21) (c (.bool true)) (t 34)), o 3 (.mov (t 35))])
 (.seq (.seq (.ops [o 36 (.fAddr 3 (t 1)), o 37 (.load 1 false (t 36)), o 38 (.lenSl (t 37)), o 39 (.mov (c (.int .i64 0)))])
 (.block 0 (.loop (.seq (.ops [o 40 (.bin .lss (t 39) (t 38))])
 (.seq (.cond (t 40) .skip (.exit 0))
 (.seq (.block 1 (.seq (.ops [o 41 (.mov (t 39)), o 42 (.iAddrS 1 (t 37) (t 39)), o 43 (.load 1 false (t 42)), o 4 (.mov (t 41)), o 5 (.mov (t 43))])
 (.join (.ops [o 44 (.mov (t 3)), o 45 (.mov (t 44)), ⟨some 46, .mov (t 5), some (45, false)⟩, ⟨some 47, .call false (c (.fn 19 [] [])) [(t 46)], some (45, false)⟩, ⟨some 48, .un .not (t 47), some (45, false)⟩, o 49 (.pick (t 45) (c (.bool true)) (t 48)), o 50 (.mov (t 49)), ⟨some 51, .mov (t 4), some (50, false)⟩, ⟨some 52, .bin .gtr (t 51) (c (.int .i64 0)), some (50, false)⟩, ⟨some 53, .mov (t 52), some (50, false)⟩, ⟨some 54, .fAddr 3 (t 1), some (53, true)⟩, ⟨some 55, .load 1 false (t 54), some (53, true)⟩, ⟨some 56, .mov (t 4), some (53, true)⟩, ⟨some 57, .bin .sub (t 56) (c (.int .i64 1)), some (53, true)⟩, ⟨some 58, .iAddrS 1 (t 55) (t 57), some (53, true)⟩, ⟨some 59, .load 1 false (t 58), some (53, true)⟩, ⟨some 60, .mov (t 5), some (53, true)⟩, ⟨some 61, .bin .geq (t 59) (t 60), some (53, true)⟩, ⟨some 62, .pick (t 53) (t 61) (c (.bool false)), some (50, false)⟩, o 63 (.pick (t 50) (c (.bool true)) (t 62)), o 3 (.mov (t 63))])
 (.seq (.ops [o 64 (.fAddr 2 (t 1)), o 65 (.load 1 false (t 64)), o 66 (.mov (t 65)), ⟨some 67, .mov (t 3), some (66, true)⟩, ⟨some 68, .un .not (t 67), some (66, true)⟩, o 69 (.pick (t 66) (t 68) (c (.bool false)))])
 (.cond (t 69) (.seq (.ops [o 71 (.mov (t 5)), o 72 (.call false (c (.fn 13 [] [])) [(t 71)]), o 70 (.mov (t 72)), o 73 (.ext 0 (t 70)), o 74 (.ext 1 (t 70)), o 6 (.mov (t 73)), o 7 (.mov (t 74))])
 (.ops [o 75 (.mov (t 7)), o 76 (.un .not (t 75)), o 77 (.mov (t 76)), ⟨some 78, .mov (t 6), some (77, false)⟩, ⟨some 79, .fAddr 4 (t 1), some (77, false)⟩, ⟨some 80, .load 1 false (t 79), some (77, false)⟩, ⟨some 81, .bin .leq (t 78) (t 80), some (77, false)⟩, o 82 (.pick (t 77) (c (.bool true)) (t 81)), o 83 (.mov (t 82)), ⟨some 84, .mov (t 6), some (83, false)⟩, ⟨some 85, .fAddr 5 (t 1), some (83, false)⟩, ⟨some 86, .load 1 false (t 85), some (83, false)⟩, ⟨some 87, .bin .geq (t 84) (t 86), some (83, false)⟩, o 88 (.pick (t 83) (c (.bool true)) (t 87)), o 3 (.mov (t 88))])) .skip)))))
 (.ops [o 89 (.bin .add (t 39) (c (.int .i64 1))), o 39 (.mov (t 89))])))))))
 (.join (.seq (.ops [o 90 (.fAddr 2 (t 1)), o 91 (.load 1 false (t 90)), o 92 (.mov (t 91)), ⟨some 93, .mov (t 3), some (92, true)⟩, ⟨some 94, .un .not (t 93), some (92, true)⟩, o 95 (.pick (t 92) (t 94) (c (.bool false)))])
 (.cond (t 95) (.ops [o 96 (.fAddr 4 (t 1)), o 97 (.load 1 false (t 96)), o 98 (.bin .lss (t 97) (c (.int .i64 (-2147483648)))), o 99 (.mov (t 98)), ⟨some 100, .fAddr 5 (t 1), some (99, false)⟩, ⟨some 101, .load 1 false (t 100), some (99, false)⟩, ⟨some 102, .bin .gtr (t 101) (c (.int .i64 2147483648)), some (99, false)⟩, o 103 (.pick (t 99) (c (.bool true)) (t 102)), o 104 (.mov (t 103)), ⟨some 105, .fAddr 4 (t 1), some (104, false)⟩, ⟨some 106, .load 1 false (t 105), some (104, false)⟩, ⟨some 107, .fAddr 5 (t 1), some (104, false)⟩, ⟨some 108, .load 1 false (t 107), some (104, false)⟩, ⟨some 109, .bin .gtr (t 106) (t 108), some (104, false)⟩, o 110 (.pick (t 104) (c (.bool true)) (t 109)), o 111 (.mov (t 110)), ⟨some 112, .fAddr 5 (t 1), some (111, false)⟩, ⟨some 113, .load 1 false (t 112), some (111, false)⟩, ⟨some 114, .fAddr 4 (t 1), some (111, false)⟩, ⟨some 115, .load 1 false (t 114), some (111, false)⟩, ⟨some 116, .bin .sub (t 113) (t 115), some (111, false)⟩, ⟨some 117, .bin .add (t 116) (c (.int .i64 1)), some (111, false)⟩, ⟨some 118, .fAddr 3 (t 1), some (111, false)⟩, ⟨some 119, .load 1 false (t 118), some (111, false)⟩, ⟨some 120, .lenSl (t 119), some (111, false)⟩, ⟨some 121, .bin .sub (t 117) (t 120), some (111, false)⟩, ⟨some 122, .bin .leq (t 121) (c (.int .i64 64)), some (111, false)⟩, o 123 (.pick (t 111) (c (.bool true)) (t 122)), o 3 (.mov (t 123))]) .skip))
 (.seq (.seq (.ops [o 124 (.mov (t 3))])
 (.cond (t 124) (.seq (.ops [o 2 (.mov (c (.int .i64 1)))])
 .ret) .skip))
 (.seq (.ops [o 2 (.mov (c (.int .i64 0)))])
 .ret))))))⟩
def c24 : Func :=
⟨2, 123, [.cell 4 6 true, .tmp 5],
 (.seq (.ops [o 2 (.box (t 0)), o 3 (.box (t 1)), o 4 (.alloc [(.bool false), (.bool false), (.bool false), (.sl 1 true []), (.int .i64 0), (.int .i64 0)]), o 5 (.mov (c (.int .i64 0)))])
 (.seq (.seq (.ops [o 13 (.load 6 true (t 2)), o 14 (.call false (c (.fn 23 [] [])) [(t 13)]), o 6 (.mov (t 14))])
 (.seq (.ops [o 15 (.mov (t 6)), o 16 (.bin .neq (t 15) (c (.int .i64 0)))])
 (.cond (t 16) (.seq (.ops [o 17 (.build [(.bool false), (.bool false), (.bool false), (.sl 1 true []), (.int .i64 0), (.int .i64 0)] []), o 18 (.mov (t 6)), w (.store 6 (t 4) (t 17)), o 5 (.mov (t 18))])
 .ret) .skip)))
 (.seq (.seq (.ops [o 19 (.load 6 true (t 3)), o 20 (.call false (c (.fn 23 [] [])) [(t 19)]), o 7 (.mov (t 20))])
 (.seq (.ops [o 21 (.mov (t 7)), o 22 (.bin .neq (t 21) (c (.int .i64 0)))])
 (.cond (t 22) (.seq (.ops [o 23 (.build [(.bool false), (.bool false), (.bool false), (.sl 1 true []), (.int .i64 0), (.int .i64 0)] []), o 24 (.mov (t 7)), w (.store 6 (t 4) (t 23)), o 5 (.mov (t 24))])
 .ret) .skip)))
 (.join (.seq (.ops [o 25 (.fAddr 1 (t 2)), o 26 (.load 1 false (t 25)), o 27 (.mov (t 26)), ⟨some 28, .fAddr 1 (t 3), some (27, true)⟩, ⟨some 29, .load 1 false (t 28), some (27, true)⟩, ⟨some 30, .un .not (t 29), some (27, true)⟩, o 31 (.pick (t 27) (t 30) (c (.bool false))), o 32 (.mov (t 31)), ⟨some 33, .fAddr 2 (t 2), some (32, false)⟩, ⟨some 34, .load 1 false (t 33), some (32, false)⟩, ⟨some 35, .mov (t 34), some (32, false)⟩, ⟨some 36, .fAddr 1 (t 3), some (35, true)⟩, ⟨some 37, .load 1 false (t 36), some (35, true)⟩, ⟨some 38, .pick (t 35) (t 37) (c (.bool false)), some (32, false)⟩, ⟨some 39, .mov (t 38), some (32, false)⟩, ⟨some 40, .fAddr 2 (t 3), some (39, true)⟩, ⟨some 41, .load 1 false (t 40), some (39, true)⟩, ⟨some 42, .un .not (t 41), some (39, true)⟩, ⟨some 43, .pick (t 39) (t 42) (c (.bool false)), some (32, false)⟩, o 44 (.pick (t 32) (c (.bool true)) (t 43))])
 (.cond (t 44) (.ops [o 45 (.load 6 true (t 3)), o 46 (.load 6 true (t 2)), w (.store 6 (t 2) (t 45)), w (.store 6 (t 3) (t 46))]) .skip))
 (.seq (.ops [o 8 (.alloc [(.bool false), (.bool false), (.bool false), (.sl 1 true []), (.int .i64 0), (.int .i64 0)])])
 (.seq (.ops [o 9 (.mov (c (.bool true)))])
 (.join (.seq (.ops [o 47 (.fAddr 3 (t 2)), o 48 (.load 1 false (t 47)), o 49 (.fAddr 3 (t 3)), o 50 (.load 1 false (t 49)), o 51 (.mkSl true 1 22 (.sl 1 true []) 2 [(0, (t 48)), (1, (t 50))]), o 52 (.icall (c (.fn 33 [] [])) [(t 51)]), o 10 (.mov (t 52))])
 (.block 0 (.seq (.ops [o 69 (.fAddr 1 (t 2)), o 70 (.load 1 false (t 69)), o 71 (.un .not (t 70)), o 68 (.mov (t 71))])
 (.cond (t 68) (.seq (.ops [o 72 (.fAddr 3 (t 2)), o 73 (.load 1 false (t 72)), o 74 (.lenSl (t 73)), o 75 (.mov (c (.int .i64 0)))])
 (.gh (.cell 8 150 3 1 9) (.block 1 (.loop (.seq (.ops [o 76 (.bin .lss (t 75) (t 74))])
 (.seq (.cond (t 76) .skip (.exit 1))
 (.seq (.block 2 (.seq (.ops [o 77 (.iAddrS 1 (t 73) (t 75)), o 78 (.load 1 false (t 77)), o 12 (.mov (t 78))])
 (.seq (.ops [o 79 (.load 6 true (t 3)), o 80 (.mov (t 12)), o 81 (.call false (c (.fn 43 [] [])) [(t 79), (t 80)])])
 (.cond (t 81) (.ops [o 82 (.fAddr 3 (t 8)), o 83 (.load 1 false (t 82)), o 84 (.mov (t 12)), o 85 (.mkSl false 1 9 (.str ⟨#[]⟩) 1 [(0, (t 84))]), o 86 (.app 1 9 16 (t 83) (t 85)), o 87 (.fAddr 3 (t 8)), w (.store 1 (t 87) (t 86))]) .skip))))
 (.ops [o 88 (.bin .add (t 75) (c (.int .i64 1))), o 75 (.mov (t 88))])))))))) (.seq (.ops [o 90 (.fAddr 2 (t 3)), o 91 (.load 1 false (t 90)), o 92 (.un .not (t 91)), o 89 (.mov (t 92))])
 (.cond (t 89) (.seq (.ops [o 93 (.mov (t 10)), o 94 (.call false (c (.fn 32 [] [])) [(t 93)]), o 95 (.build [(.bool false), (.bool false), (.bool false), (.sl 1 true []), (.int .i64 0), (.int .i64 0)] [(1, 1, (c (.bool true))), (3, 1, (t 94))]), w (.store 6 (t 8) (t 95))])
 (.ops [o 96 (.mov (t 10)), o 97 (.lenMap (t 96)), o 98 (.bin .leq (t 97) (c (.int .i64 64))), o 9 (.mov (t 98))])) (.seq (.ops [o 100 (.fAddr 2 (t 2)), o 101 (.load 1 false (t 100)), o 102 (.un .not (t 101)), o 99 (.mov (t 102))])
 (.cond (t 99) (.ops [o 104 (.fAddr 4 (t 3)), o 105 (.load 1 false (t 104)), o 106 (.fAddr 5 (t 3)), o 107 (.load 1 false (t 106)), o 108 (.mov (t 10)), o 109 (.icall (c (.fn 34 [] [])) [(t 105), (t 107), (t 108)]), o 103 (.mov (t 109)), o 110 (.ext 0 (t 103)), o 111 (.ext 1 (t 103)), w (.store 6 (t 8) (t 110)), o 9 (.mov (t 111))]) (.ops [o 54 (.fAddr 4 (t 2)), o 55 (.load 1 false (t 54)), o 56 (.fAddr 4 (t 3)), o 57 (.load 1 false (t 56)), o 58 (.mm true .i64 (t 55) [(t 57)]), o 59 (.fAddr 5 (t 2)), o 60 (.load 1 false (t 59)), o 61 (.fAddr 5 (t 3)), o 62 (.load 1 false (t 61)), o 63 (.mm false .i64 (t 60) [(t 62)]), o 64 (.mov (t 10)), o 65 (.icall (c (.fn 34 [] [])) [(t 58), (t 63), (t 64)]), o 53 (.mov (t 65)), o 66 (.ext 0 (t 53)), o 67 (.ext 1 (t 53)), w (.store 6 (t 8) (t 66)), o 9 (.mov (t 67))])))))))))
 (.seq (.seq (.ops [o 112 (.mov (t 9)), o 113 (.un .not (t 112))])
 (.cond (t 113) (.seq (.ops [o 114 (.build [(.bool false), (.bool false), (.bool false), (.sl 1 true []), (.int .i64 0), (.int .i64 0)] []), w (.store 6 (t 4) (t 114)), o 5 (.mov (c (.int .i64 3)))])
 .ret) .skip))
 (.seq (.ops [o 115 (.fAddr 0 (t 2)), o 116 (.load 1 false (t 115)), o 117 (.mov (t 116)), ⟨some 118, .fAddr 0 (t 3), some (117, true)⟩, ⟨some 119, .load 1 false (t 118), some (117, true)⟩, o 120 (.pick (t 117) (t 119) (c (.bool false))), o 121 (.fAddr 0 (t 8)), w (.store 1 (t 121) (t 120))])
 (.seq (.ops [o 122 (.load 6 true (t 8)), w (.store 6 (t 4) (t 122)), o 5 (.mov (c (.int .i64 0)))])
 .ret))))))))))⟩
def c25 : Func :=
⟨2, 126, [.cell 4 6 true, .tmp 5],
 (.seq (.ops [o 2 (.box (t 0)), o 3 (.box (t 1)), o 4 (.alloc [(.bool false), (.bool false), (.bool false), (.sl 1 true []), (.int .i64 0), (.int .i64 0)]), o 5 (.mov (c (.int .i64 0)))])
 (.seq (.ops [o 13 (.load 6 true (t 2)), o 14 (.call false (c (.fn 22 [] [])) [(t 13)]), o 6 (.mov (t 14))])
 (.seq (.seq (.ops [o 15 (.mov (t 6)), o 16 (.bin .neq (t 15) (c (.int .i64 0)))])
 (.cond (t 16) (.seq (.ops [o 17 (.build [(.bool false), (.bool false), (.bool false), (.sl 1 true []), (.int .i64 0), (.int .i64 0)] []), o 18 (.mov (t 6)), w (.store 6 (t 4) (t 17)), o 5 (.mov (t 18))])
 .ret) .skip))
 (.seq (.ops [o 19 (.load 6 true (t 3)), o 20 (.call false (c (.fn 22 [] [])) [(t 19)]), o 7 (.mov (t 20))])
 (.seq (.seq (.ops [o 21 (.mov (t 7)), o 22 (.bin .neq (t 21) (c (.int .i64 0)))])
 (.cond (t 22) (.seq (.ops [o 23 (.build [(.bool false), (.bool false), (.bool false), (.sl 1 true []), (.int .i64 0), (.int .i64 0)] []), o 24 (.mov (t 7)), w (.store 6 (t 4) (t 23)), o 5 (.mov (t 24))])
 .ret) .skip))
 (.seq (.ops [o 25 (.build [(.bool false), (.bool false), (.bool false), (.sl 1 true []), (.int .i64 0), (.int .i64 0)] []), o 8 (.alloc [(.bool false), (.bool false), (.bool false), (.sl 1 true []), (.int .i64 0), (.int .i64 0)]), w (.store 6 (t 8) (t 25))])
 (.seq (.ops [o 9 (.mov (c (.bool true)))])
 (.seq (.ops [o 10 (.mov (c (.sl 1 true [])))])
 (.seq (.ops [o 26 (.mov (t 10)), o 27 (.fAddr 3 (t 2)), o 28 (.load 1 false (t 27)), o 29 (.app 1 9 16 (t 26) (t 28)), o 10 (.mov (t 29))])
 (.seq (.ops [o 30 (.mov (t 10)), o 31 (.fAddr 3 (t 3)), o 32 (.load 1 false (t 31)), o 33 (.app 1 9 16 (t 30) (t 32)), o 10 (.mov (t 33))])
 (.seq (.ops [o 34 (.mov (t 10)), o 35 (.call false (c (.fn 39 [] [])) [(t 34)]), o 10 (.mov (t 35))])
 (.join (.block 0 (.seq (.ops [o 60 (.fAddr 1 (t 2)), o 61 (.load 1 false (t 60)), o 62 (.un .not (t 61)), o 59 (.mov (t 62))])
 (.cond (t 59) (.ops [o 63 (.fAddr 3 (t 2)), o 64 (.load 1 false (t 63)), o 65 (.load 6 true (t 3)), o 66 (.call false (c (.fn 44 [] [])) [(t 64), (t 65)]), w (.store 6 (t 8) (t 66))]) (.seq (.ops [o 68 (.fAddr 1 (t 3)), o 69 (.load 1 false (t 68)), o 70 (.un .not (t 69)), o 67 (.mov (t 70))])
 (.cond (t 67) (.ops [o 71 (.fAddr 3 (t 3)), o 72 (.load 1 false (t 71)), o 73 (.load 6 true (t 2)), o 74 (.call false (c (.fn 44 [] [])) [(t 72), (t 73)]), w (.store 6 (t 8) (t 74))]) (.seq (.ops [o 76 (.fAddr 2 (t 2)), o 77 (.load 1 false (t 76)), o 78 (.un .not (t 77)), o 79 (.mov (t 78)), ⟨some 80, .fAddr 2 (t 3), some (79, true)⟩, ⟨some 81, .load 1 false (t 80), some (79, true)⟩, ⟨some 82, .un .not (t 81), some (79, true)⟩, o 83 (.pick (t 79) (t 82) (c (.bool false))), o 75 (.mov (t 83))])
 (.cond (t 75) (.seq (.ops [o 84 (.mov (t 10)), o 85 (.build [(.bool false), (.bool false), (.bool false), (.sl 1 true []), (.int .i64 0), (.int .i64 0)] [(1, 1, (c (.bool true))), (3, 1, (t 84))]), w (.store 6 (t 8) (t 85))])
 (.ops [o 86 (.mov (t 10)), o 87 (.lenSl (t 86)), o 88 (.bin .leq (t 87) (c (.int .i64 64))), o 9 (.mov (t 88))])) (.seq (.ops [o 90 (.fAddr 2 (t 2)), o 91 (.load 1 false (t 90)), o 92 (.un .not (t 91)), o 89 (.mov (t 92))])
 (.cond (t 89) (.ops [o 94 (.fAddr 4 (t 3)), o 95 (.load 1 false (t 94)), o 96 (.fAddr 5 (t 3)), o 97 (.load 1 false (t 96)), o 98 (.mov (t 10)), o 99 (.call false (c (.fn 40 [] [])) [(t 95), (t 97), (t 98)]), o 93 (.mov (t 99)), o 100 (.ext 0 (t 93)), o 101 (.ext 1 (t 93)), w (.store 6 (t 8) (t 100)), o 9 (.mov (t 101))]) (.seq (.ops [o 103 (.fAddr 2 (t 3)), o 104 (.load 1 false (t 103)), o 105 (.un .not (t 104)), o 102 (.mov (t 105))])
 (.cond (t 102) (.ops [o 107 (.fAddr 4 (t 2)), o 108 (.load 1 false (t 107)), o 109 (.fAddr 5 (t 2)), o 110 (.load 1 false (t 109)), o 111 (.mov (t 10)), o 112 (.call false (c (.fn 40 [] [])) [(t 108), (t 110), (t 111)]), o 106 (.mov (t 112)), o 113 (.ext 0 (t 106)), o 114 (.ext 1 (t 106)), w (.store 6 (t 8) (t 113)), o 9 (.mov (t 114))]) (.seq (.ops [o 36 (.fAddr 4 (t 2)), o 37 (.load 1 false (t 36)), o 11 (.mov (t 37))])
 (.seq (.seq (.ops [o 38 (.fAddr 4 (t 3)), o 39 (.load 1 false (t 38)), o 40 (.mov (t 11)), o 41 (.bin .gtr (t 39) (t 40))])
 (.cond (t 41) (.ops [o 42 (.fAddr 4 (t 3)), o 43 (.load 1 false (t 42)), o 11 (.mov (t 43))]) .skip))
 (.seq (.ops [o 44 (.fAddr 5 (t 2)), o 45 (.load 1 false (t 44)), o 12 (.mov (t 45))])
 (.seq (.seq (.ops [o 46 (.fAddr 5 (t 3)), o 47 (.load 1 false (t 46)), o 48 (.mov (t 12)), o 49 (.bin .lss (t 47) (t 48))])
 (.cond (t 49) (.ops [o 50 (.fAddr 5 (t 3)), o 51 (.load 1 false (t 50)), o 12 (.mov (t 51))]) .skip))
 (.ops [o 53 (.mov (t 11)), o 54 (.mov (t 12)), o 55 (.mov (t 10)), o 56 (.call false (c (.fn 40 [] [])) [(t 53), (t 54), (t 55)]), o 52 (.mov (t 56)), o 57 (.ext 0 (t 52)), o 58 (.ext 1 (t 52)), w (.store 6 (t 8) (t 57)), o 9 (.mov (t 58))]))))))))))))))))
 (.seq (.seq (.ops [o 115 (.mov (t 9)), o 116 (.un .not (t 115))])
 (.cond (t 116) (.seq (.ops [o 117 (.build [(.bool false), (.bool false), (.bool false), (.sl 1 true []), (.int .i64 0), (.int .i64 0)] []), w (.store 6 (t 4) (t 117)), o 5 (.mov (c (.int .i64 3)))])
 .ret) .skip))
 (.seq (.ops [o 118 (.fAddr 0 (t 2)), o 119 (.load 1 false (t 118)), o 120 (.mov (t 119)), ⟨some 121, .fAddr 0 (t 3), some (120, true)⟩, ⟨some 122, .load 1 false (t 121), some (120, true)⟩, o 123 (.pick (t 120) (t 122) (c (.bool false))), o 124 (.fAddr 0 (t 8)), w (.store 1 (t 124) (t 123))])
 (.seq (.ops [o 125 (.load 6 true (t 8)), w (.store 6 (t 4) (t 125)), o 5 (.mov (c (.int .i64 0)))])
 .ret)))))))))))))))⟩
def c26 : Func :=
⟨2, 17, [.tmp 4],
 (.seq (.ops [o 2 (.box (t 0)), o 4 (.mov (c (.bool false)))])
 (.seq (.ops [o 5 (.load 6 true (t 2)), o 6 (.call false (c (.fn 23 [] [])) [(t 5)]), o 7 (.bin .eql (t 6) (c (.int .i64 0))), o 8 (.mov (t 7)), ⟨some 9, .mov (t 1), some (8, true)⟩, ⟨some 10, .call false (c (.fn 19 [] [])) [(t 9)], some (8, true)⟩, o 11 (.pick (t 8) (t 10) (c (.bool false))), o 12 (.mov (t 11)), ⟨some 13, .load 6 true (t 2), some (12, true)⟩, ⟨some 14, .mov (t 1), some (12, true)⟩, ⟨some 15, .call false (c (.fn 43 [] [])) [(t 13), (t 14)], some (12, true)⟩, o 16 (.pick (t 12) (t 15) (c (.bool false))), o 4 (.mov (t 16))])
 .ret))⟩
def c27 : Func :=
⟨1, 22, [.tmp 2],
 (.seq (.ops [o 1 (.box (t 0)), o 2 (.mov (c (.bool false)))])
 (.seq (.ops [o 3 (.load 6 true (t 1)), o 4 (.call false (c (.fn 23 [] [])) [(t 3)]), o 5 (.bin .eql (t 4) (c (.int .i64 0))), o 6 (.mov (t 5)), ⟨some 7, .fAddr 1 (t 1), some (6, true)⟩, ⟨some 8, .load 1 false (t 7), some (6, true)⟩, ⟨some 9, .un .not (t 8), some (6, true)⟩, o 10 (.pick (t 6) (t 9) (c (.bool false))), o 11 (.mov (t 10)), ⟨some 12, .fAddr 0 (t 1), some (11, true)⟩, ⟨some 13, .load 1 false (t 12), some (11, true)⟩, ⟨some 14, .un .not (t 13), some (11, true)⟩, o 15 (.pick (t 11) (t 14) (c (.bool false))), o 16 (.mov (t 15)), ⟨some 17, .fAddr 3 (t 1), some (16, true)⟩, ⟨some 18, .load 1 false (t 17), some (16, true)⟩, ⟨some 19, .lenSl (t 18), some (16, true)⟩, ⟨some 20, .bin .eql (t 19) (c (.int .i64 0)), some (16, true)⟩, o 21 (.pick (t 16) (t 20) (c (.bool false))), o 2 (.mov (t 21))])
 .ret))⟩
def c28 : Func :=
⟨2, 55, [.tmp 4],
 (.seq (.ops [o 2 (.box (t 0)), o 4 (.mov (c (.bool false)))])
 (.seq (.ops [o 10 (.load 6 true (t 2)), o 11 (.call false (c (.fn 22 [] [])) [(t 10)]), o 5 (.mov (t 11))])
 (.seq (.ops [o 12 (.mov (t 1)), o 13 (.call false (c (.fn 17 [] [])) [(t 12)]), o 6 (.mov (t 13))])
 (.seq (.seq (.ops [o 14 (.mov (t 5)), o 15 (.bin .neq (t 14) (c (.int .i64 0))), o 16 (.mov (t 15)), ⟨some 17, .mov (t 6), some (16, false)⟩, ⟨some 18, .un .not (t 17), some (16, false)⟩, o 19 (.pick (t 16) (c (.bool true)) (t 18))])
 (.cond (t 19) (.seq (.ops [o 4 (.mov (c (.bool false)))])
 .ret) .skip))
 (.seq (.ops [o 20 (.fAddr 3 (t 2)), o 21 (.load 1 false (t 20)), o 22 (.mov (t 1)), o 23 (.call false (c (.fn 45 [] [])) [(t 21), (t 22)]), o 7 (.mov (t 23))])
 (.seq (.seq (.ops [o 24 (.fAddr 1 (t 2)), o 25 (.load 1 false (t 24)), o 26 (.un .not (t 25))])
 (.cond (t 26) (.seq (.ops [o 27 (.mov (t 7)), o 4 (.mov (t 27))])
 .ret) .skip))
 (.seq (.ops [o 29 (.mov (t 1)), o 30 (.call false (c (.fn 15 [] [])) [(t 29)]), o 28 (.mov (t 30)), o 31 (.ext 0 (t 28)), o 32 (.ext 1 (t 28)), o 8 (.mov (t 31)), o 9 (.mov (t 32))])
 (.seq (.ops [o 33 (.mov (t 7)), o 34 (.un .not (t 33)), o 35 (.mov (t 34)), ⟨some 36, .fAddr 2 (t 2), some (35, true)⟩, ⟨some 37, .load 1 false (t 36), some (35, true)⟩, ⟨some 38, .un .not (t 37), some (35, true)⟩, ⟨some 39, .mov (t 38), some (35, true)⟩, ⟨some 40, .mov (t 9), some (39, false)⟩, ⟨some 41, .mov (t 40), some (39, false)⟩, ⟨some 42, .mov (t 8), some (41, true)⟩, ⟨some 43, .fAddr 4 (t 2), some (41, true)⟩, ⟨some 44, .load 1 false (t 43), some (41, true)⟩, ⟨some 45, .bin .geq (t 42) (t 44), some (41, true)⟩, ⟨some 46, .pick (t 41) (t 45) (c (.bool false)), some (39, false)⟩, ⟨some 47, .mov (t 46), some (39, false)⟩, ⟨some 48, .mov (t 8), some (47, true)⟩, ⟨some 49, .fAddr 5 (t 2), some (47, true)⟩, ⟨some 50, .load 1 false (t 49), some (47, true)⟩, ⟨some 51, .bin .leq (t 48) (t 50), some (47, true)⟩, ⟨some 52, .pick (t 47) (t 51) (c (.bool false)), some (39, false)⟩, ⟨some 53, .pick (t 39) (c (.bool true)) (t 52), some (35, true)⟩, o 54 (.pick (t 35) (t 53) (c (.bool false))), o 4 (.mov (t 54))])
 .ret))))))))⟩
def c29 : Func :=
⟨1, 24, [.tmp 2],
 (.seq (.ops [o 1 (.box (t 0)), o 2 (.mov (c (.bool false)))])
 (.seq (.ops [o 4 (.load 6 true (t 1)), o 5 (.call false (c (.fn 22 [] [])) [(t 4)]), o 3 (.mov (t 5))])
 (.seq (.ops [o 6 (.mov (t 3)), o 7 (.bin .eql (t 6) (c (.int .i64 0))), o 8 (.mov (t 7)), ⟨some 9, .fAddr 1 (t 1), some (8, true)⟩, ⟨some 10, .load 1 false (t 9), some (8, true)⟩, ⟨some 11, .un .not (t 10), some (8, true)⟩, o 12 (.pick (t 8) (t 11) (c (.bool false))), o 13 (.mov (t 12)), ⟨some 14, .fAddr 0 (t 1), some (13, true)⟩, ⟨some 15, .load 1 false (t 14), some (13, true)⟩, ⟨some 16, .un .not (t 15), some (13, true)⟩, o 17 (.pick (t 13) (t 16) (c (.bool false))), o 18 (.mov (t 17)), ⟨some 19, .fAddr 3 (t 1), some (18, true)⟩, ⟨some 20, .load 1 false (t 19), some (18, true)⟩, ⟨some 21, .lenSl (t 20), some (18, true)⟩, ⟨some 22, .bin .eql (t 21) (c (.int .i64 0)), some (18, true)⟩, o 23 (.pick (t 18) (t 22) (c (.bool false))), o 2 (.mov (t 23))])
 .ret)))⟩
def c30 : Func :=
⟨2, 45, [.tmp 4],
 (.seq (.ops [o 2 (.box (t 0)), o 3 (.box (t 1)), o 4 (.mov (c (.bool false)))])
 (.seq (.ops [o 5 (.fAddr 0 (t 2)), o 6 (.load 1 false (t 5)), o 7 (.fAddr 0 (t 3)), o 8 (.load 1 false (t 7)), o 9 (.eqb false (t 6) (t 8)), o 10 (.mov (t 9)), ⟨some 11, .fAddr 1 (t 2), some (10, true)⟩, ⟨some 12, .load 1 false (t 11), some (10, true)⟩, ⟨some 13, .fAddr 1 (t 3), some (10, true)⟩, ⟨some 14, .load 1 false (t 13), some (10, true)⟩, ⟨some 15, .eqb false (t 12) (t 14), some (10, true)⟩, o 16 (.pick (t 10) (t 15) (c (.bool false))), o 17 (.mov (t 16)), ⟨some 18, .fAddr 2 (t 2), some (17, true)⟩, ⟨some 19, .load 1 false (t 18), some (17, true)⟩, ⟨some 20, .fAddr 2 (t 3), some (17, true)⟩, ⟨some 21, .load 1 false (t 20), some (17, true)⟩, ⟨some 22, .eqb false (t 19) (t 21), some (17, true)⟩, o 23 (.pick (t 17) (t 22) (c (.bool false))), o 24 (.mov (t 23)), ⟨some 25, .fAddr 4 (t 2), some (24, true)⟩, ⟨some 26, .load 1 false (t 25), some (24, true)⟩, ⟨some 27, .fAddr 4 (t 3), some (24, true)⟩, ⟨some 28, .load 1 false (t 27), some (24, true)⟩, ⟨some 29, .bin .eql (t 26) (t 28), some (24, true)⟩, o 30 (.pick (t 24) (t 29) (c (.bool false))), o 31 (.mov (t 30)), ⟨some 32, .fAddr 5 (t 2), some (31, true)⟩, ⟨some 33, .load 1 false (t 32), some (31, true)⟩, ⟨some 34, .fAddr 5 (t 3), some (31, true)⟩, ⟨some 35, .load 1 false (t 34), some (31, true)⟩, ⟨some 36, .bin .eql (t 33) (t 35), some (31, true)⟩, o 37 (.pick (t 31) (t 36) (c (.bool false))), o 38 (.mov (t 37)), ⟨some 39, .fAddr 3 (t 2), some (38, true)⟩, ⟨some 40, .load 1 false (t 39), some (38, true)⟩, ⟨some 41, .fAddr 3 (t 3), some (38, true)⟩, ⟨some 42, .load 1 false (t 41), some (38, true)⟩, ⟨some 43, .call false (c (.fn 46 [] [])) [(t 40), (t 42)], some (38, true)⟩, o 44 (.pick (t 38) (t 43) (c (.bool false))), o 4 (.mov (t 44))])
 .ret))⟩
def c31 : Func :=
⟨1, 73, [.tmp 2],
 (.seq (.ops [o 1 (.box (t 0)), o 2 (.mov (c (.int .i64 0)))])
 (.join (.ops [o 5 (.fAddr 1 (t 1)), o 6 (.load 1 false (t 5)), o 7 (.bin .eql (t 6) (c (.int .i64 1))), o 8 (.mov (t 7)), ⟨some 9, .fAddr 1 (t 1), some (8, false)⟩, ⟨some 10, .load 1 false (t 9), some (8, false)⟩, ⟨some 11, .bin .eql (t 10) (c (.int .i64 2)), some (8, false)⟩, o 12 (.pick (t 8) (c (.bool true)) (t 11)), o 3 (.mov (t 12))])
 (.join (.ops [o 13 (.fAddr 1 (t 1)), o 14 (.load 1 false (t 13)), o 15 (.bin .eql (t 14) (c (.int .i64 5))), o 16 (.mov (t 15)), ⟨some 17, .fAddr 1 (t 1), some (16, false)⟩, ⟨some 18, .load 1 false (t 17), some (16, false)⟩, ⟨some 19, .bin .eql (t 18) (c (.int .i64 6)), some (16, false)⟩, o 20 (.pick (t 16) (c (.bool true)) (t 19)), o 4 (.mov (t 20))])
 (.seq (.block 0 (.seq (.ops [o 22 (.fAddr 0 (t 1)), o 23 (.load 1 false (t 22)), o 24 (.call false (c (.fn 18 [] [])) [(t 23)]), o 25 (.un .not (t 24)), o 21 (.mov (t 25))])
 (.cond (t 21) (.seq (.ops [o 2 (.mov (c (.int .i64 7)))])
 .ret) (.join (.seq (.ops [o 27 (.fAddr 1 (t 1)), o 28 (.load 1 false (t 27)), o 29 (.bin .lss (t 28) (c (.int .i64 1))), o 30 (.mov (t 29)), ⟨some 31, .fAddr 1 (t 1), some (30, false)⟩, ⟨some 32, .load 1 false (t 31), some (30, false)⟩, ⟨some 33, .bin .gtr (t 32) (c (.int .i64 6)), some (30, false)⟩, o 34 (.pick (t 30) (c (.bool true)) (t 33)), o 26 (.mov (t 34))])
 (.cond (t 26) .skip (.seq (.ops [o 35 (.mov (t 3)), o 36 (.fAddr 2 (t 1)), o 37 (.load 1 false (t 36)), o 38 (.lenSl (t 37)), o 39 (.bin .gtr (t 38) (c (.int .i64 0))), o 40 (.eqb true (t 35) (t 39)), o 26 (.mov (t 40))])
 (.cond (t 26) .skip (.seq (.ops [o 41 (.mov (t 4)), o 42 (.un .not (t 41)), o 43 (.mov (t 42)), ⟨some 44, .fAddr 3 (t 1), some (43, true)⟩, ⟨some 45, .load 1 false (t 44), some (43, true)⟩, ⟨some 46, .bin .neq (t 45) (c (.int .i64 0)), some (43, true)⟩, o 47 (.pick (t 43) (t 46) (c (.bool false))), o 26 (.mov (t 47))])
 (.cond (t 26) .skip (.seq (.ops [o 48 (.fAddr 3 (t 1)), o 49 (.load 1 false (t 48)), o 50 (.bin .lss (t 49) (c (.int .i64 (-2147483648)))), o 26 (.mov (t 50))])
 (.cond (t 26) .skip (.ops [o 51 (.fAddr 3 (t 1)), o 52 (.load 1 false (t 51)), o 53 (.bin .gtr (t 52) (c (.int .i64 2147483648))), o 26 (.mov (t 53))])))))))))
 (.cond (t 26) (.seq (.ops [o 2 (.mov (c (.int .i64 30)))])
 .ret) (.seq (.ops [o 55 (.fAddr 2 (t 1)), o 56 (.load 1 false (t 55)), o 57 (.lenSl (t 56)), o 58 (.bin .gtr (t 57) (c (.int .i64 8))), o 54 (.mov (t 58))])
 (.cond (t 54) (.seq (.ops [o 2 (.mov (c (.int .i64 3)))])
 .ret) (.seq (.ops [o 60 (.fAddr 2 (t 1)), o 61 (.load 1 false (t 60)), o 62 (.call false (c (.fn 47 [] [])) [(t 61), (c (.fn 48 [] []))]), o 59 (.mov (t 62))])
 (.cond (t 59) (.seq (.ops [o 2 (.mov (c (.int .i64 20)))])
 .ret) (.seq (.ops [o 64 (.fAddr 2 (t 1)), o 65 (.load 1 false (t 64)), o 66 (.mkSl true 1 22 (.sl 1 true []) 1 [(0, (t 65))]), o 67 (.call true (c (.fn 33 [] [])) [(t 66)]), o 68 (.lenMap (t 67)), o 69 (.fAddr 2 (t 1)), o 70 (.load 1 false (t 69)), o 71 (.lenSl (t 70)), o 72 (.bin .lss (t 68) (t 71)), o 63 (.mov (t 72))])
 (.cond (t 63) (.seq (.ops [o 2 (.mov (c (.int .i64 6)))])
 .ret) .skip)))))))))))
 (.seq (.ops [o 2 (.mov (c (.int .i64 0)))])
 .ret)))))⟩
def c32 : Func :=
⟨1, 6, [.tmp 2],
 (.seq (.ops [o 2 (.mov (c (.sl 1 true [])))])
 (.seq (.ops [o 3 (.mov (t 0)), o 4 (.call false (c (.fn 50 [] [])) [(t 3)]), o 5 (.call false (c (.fn 49 [] [])) [(t 4)]), o 2 (.mov (t 5))])
 .ret))⟩
def c33 : Func :=
⟨1, 26, [.tmp 2],
 (.seq (.ops [o 2 (.mov (c .nilm))])
 (.seq (.ops [o 8 (.mkMap), o 3 (.mov (t 8))])
 (.seq (.seq (.ops [o 9 (.mov (t 0)), o 10 (.lenSl (t 9)), o 11 (.mov (c (.int .i64 0)))])
 (.block 0 (.loop (.seq (.ops [o 12 (.bin .lss (t 11) (t 10))])
 (.seq (.cond (t 12) .skip (.exit 0))
 (.seq (.block 1 (.seq (.ops [o 13 (.iAddrS 1 (t 9) (t 11)), o 14 (.load 1 false (t 13)), o 5 (.mov (t 14))])
 (.seq (.ops [o 15 (.mov (t 5)), o 16 (.lenSl (t 15)), o 17 (.mov (c (.int .i64 0)))])
 (.block 2 (.loop (.seq (.ops [o 18 (.bin .lss (t 17) (t 16))])
 (.seq (.cond (t 18) .skip (.exit 2))
 (.seq (.block 3 (.seq (.ops [o 19 (.iAddrS 1 (t 15) (t 17)), o 20 (.load 1 false (t 19)), o 7 (.mov (t 20))])
 (.ops [o 21 (.mov (t 3)), o 22 (.mov (t 7)), w (.mput (false, [(0, .str)]) (t 21) (t 22) (c (.bool true)))])))
 (.ops [o 23 (.bin .add (t 17) (c (.int .i64 1))), o 17 (.mov (t 23))])))))))))
 (.ops [o 24 (.bin .add (t 11) (c (.int .i64 1))), o 11 (.mov (t 24))])))))))
 (.seq (.ops [o 25 (.mov (t 3)), o 2 (.mov (t 25))])
 .ret))))⟩
def c34 : Func :=
⟨3, 95, [.cell 6 6 true, .tmp 7],
 (.seq (.ops [o 6 (.alloc [(.bool false), (.bool false), (.bool false), (.sl 1 true []), (.int .i64 0), (.int .i64 0)]), o 7 (.mov (c (.bool false)))])
 (.join (.block 0 (.loop (.seq (.seq (.ops [o 14 (.mov (t 0)), o 15 (.mov (t 1)), o 16 (.bin .leq (t 14) (t 15)), o 17 (.mov (t 16)), ⟨some 18, .mov (t 2), some (17, true)⟩, ⟨some 19, .mov (t 0), some (17, true)⟩, ⟨some 20, .call false (c (.fn 36 [] [])) [(t 19), (c (.int .i64 10))], some (17, true)⟩, ⟨some 21, .look (false, [(0, .str)]) (.bool false) false (t 18) (t 20), some (17, true)⟩, o 22 (.pick (t 17) (t 21) (c (.bool false)))])
 (.cond (t 22) .skip (.exit 0)))
 (.block 1 (.ops [o 23 (.mov (t 0)), o 24 (.bin .add (t 23) (c (.int .i64 1))), o 0 (.mov (t 24))])))))
 (.join (.block 2 (.loop (.seq (.seq (.ops [o 25 (.mov (t 0)), o 26 (.mov (t 1)), o 27 (.bin .leq (t 25) (t 26)), o 28 (.mov (t 27)), ⟨some 29, .mov (t 2), some (28, true)⟩, ⟨some 30, .mov (t 1), some (28, true)⟩, ⟨some 31, .call false (c (.fn 36 [] [])) [(t 30), (c (.int .i64 10))], some (28, true)⟩, ⟨some 32, .look (false, [(0, .str)]) (.bool false) false (t 29) (t 31), some (28, true)⟩, o 33 (.pick (t 28) (t 32) (c (.bool false)))])
 (.cond (t 33) .skip (.exit 2)))
 (.block 3 (.ops [o 34 (.mov (t 1)), o 35 (.bin .sub (t 34) (c (.int .i64 1))), o 1 (.mov (t 35))])))))
 (.join (.seq (.ops [o 36 (.mov (t 2)), o 37 (.mkIter (t 36))])
 (.block 4 (.loop (.seq (.ops [o 38 (.next (t 37)), o 39 (.ext 0 (t 38))])
 (.seq (.cond (t 39) .skip (.exit 4))
 (.block 5 (.seq (.ops [o 40 (.entry (t 37)), o 41 (.ext 0 (t 40)), o 8 (.mov (t 41))])
 (.seq (.ops [o 43 (.mov (t 8)), o 44 (.call false (c (.fn 13 [] [])) [(t 43)]), o 42 (.mov (t 44)), o 45 (.ext 0 (t 42)), o 46 (.ext 1 (t 42)), o 9 (.mov (t 45)), o 10 (.mov (t 46))])
 (.seq (.ops [o 47 (.mov (t 10)), o 48 (.un .not (t 47)), o 49 (.mov (t 48)), ⟨some 50, .mov (t 9), some (49, false)⟩, ⟨some 51, .mov (t 0), some (49, false)⟩, ⟨some 52, .bin .leq (t 50) (t 51), some (49, false)⟩, o 53 (.pick (t 49) (c (.bool true)) (t 52)), o 54 (.mov (t 53)), ⟨some 55, .mov (t 9), some (54, false)⟩, ⟨some 56, .mov (t 1), some (54, false)⟩, ⟨some 57, .bin .geq (t 55) (t 56), some (54, false)⟩, o 58 (.pick (t 54) (c (.bool true)) (t 57))])
 (.cond (t 58) (.ops [o 59 (.mov (t 2)), o 60 (.mov (t 8)), w (.mdel (false, [(0, .str)]) (t 59) (t 60))]) .skip))))))))))
 (.seq (.seq (.ops [o 61 (.mov (t 1)), o 62 (.mov (t 0)), o 63 (.bin .sub (t 61) (t 62)), o 64 (.bin .add (t 63) (c (.int .i64 1))), o 65 (.mov (t 2)), o 66 (.lenMap (t 65)), o 67 (.bin .sub (t 64) (t 66)), o 68 (.bin .gtr (t 67) (c (.int .i64 64)))])
 (.cond (t 68) (.seq (.ops [o 69 (.mov (t 2)), o 70 (.call false (c (.fn 32 [] [])) [(t 69)]), o 71 (.mov (t 0)), o 72 (.mov (t 1)), o 73 (.build [(.bool false), (.bool false), (.bool false), (.sl 1 true []), (.int .i64 0), (.int .i64 0)] [(1, 1, (c (.bool true))), (2, 1, (c (.bool true))), (3, 1, (t 70)), (4, 1, (t 71)), (5, 1, (t 72))]), o 74 (.mov (t 2)), o 75 (.lenMap (t 74)), o 76 (.bin .leq (t 75) (c (.int .i64 64))), w (.store 6 (t 6) (t 73)), o 7 (.mov (t 76))])
 .ret) .skip))
 (.seq (.ops [o 77 (.mkMap), o 11 (.mov (t 77))])
 (.seq (.seq (.ops [o 78 (.mov (t 0)), o 12 (.mov (t 78))])
 (.block 6 (.loop (.seq (.seq (.ops [o 79 (.mov (t 12)), o 80 (.mov (t 1)), o 81 (.bin .leq (t 79) (t 80))])
 (.cond (t 81) .skip (.exit 6)))
 (.seq (.block 7 (.seq (.ops [o 84 (.mov (t 12)), o 85 (.call false (c (.fn 36 [] [])) [(t 84), (c (.int .i64 10))]), o 13 (.mov (t 85))])
 (.seq (.ops [o 86 (.mov (t 2)), o 87 (.mov (t 13)), o 88 (.look (false, [(0, .str)]) (.bool false) false (t 86) (t 87)), o 89 (.un .not (t 88))])
 (.cond (t 89) (.ops [o 90 (.mov (t 11)), o 91 (.mov (t 13)), w (.mput (false, [(0, .str)]) (t 90) (t 91) (c (.bool true)))]) .skip))))
 (.ops [o 82 (.mov (t 12)), o 83 (.bin .add (t 82) (c (.int .i64 1))), o 12 (.mov (t 83))]))))))
 (.seq (.ops [o 92 (.mov (t 11)), o 93 (.call false (c (.fn 32 [] [])) [(t 92)]), o 94 (.build [(.bool false), (.bool false), (.bool false), (.sl 1 true []), (.int .i64 0), (.int .i64 0)] [(3, 1, (t 93))]), w (.store 6 (t 6) (t 94)), o 7 (.mov (c (.bool true)))])
 .ret))))))))⟩
def c37 : Func :=
⟨1, 29, [.tmp 2],
 (.seq (.ops [o 2 (.mov (c (.str ⟨#[]⟩)))])
 (.seq (.ops [o 3 (.mov (c (.str ⟨#[]⟩)))])
 (.seq (.ops [o 6 (.mov (t 0)), o 4 (.mov (t 6))])
 (.seq (.block 0 (.loop (.block 1 (.seq (.ops [o 7 (.mov (t 4)), o 8 (.bin .rem (t 7) (c (.int .i64 10))), o 5 (.mov (t 8))])
 (.seq (.seq (.ops [o 9 (.mov (t 5)), o 10 (.bin .lss (t 9) (c (.int .i64 0)))])
 (.cond (t 10) (.ops [o 11 (.mov (t 5)), o 12 (.un .neg (t 11)), o 5 (.mov (t 12))]) .skip))
 (.seq (.ops [o 13 (.mov (t 5)), o 14 (.bin .add (c (.int .i64 48)) (t 13)), o 15 (.cvInt .u8 (t 14)), o 16 (.mkSl false 1 5 (.int .u8 0) 1 [(0, (t 15))]), o 17 (.cvBS (t 16)), o 18 (.mov (t 3)), o 19 (.bin .add (t 17) (t 18)), o 3 (.mov (t 19))])
 (.seq (.ops [o 20 (.mov (t 4)), o 21 (.bin .quo (t 20) (c (.int .i64 10))), o 4 (.mov (t 21))])
 (.seq (.ops [o 22 (.mov (t 4)), o 23 (.bin .eql (t 22) (c (.int .i64 0)))])
 (.cond (t 23) (.exit 0) .skip)))))))))
 (.seq (.seq (.ops [o 24 (.mov (t 0)), o 25 (.bin .lss (t 24) (c (.int .i64 0)))])
 (.cond (t 25) (.seq (.ops [o 26 (.mov (t 3)), o 27 (.bin .add (c (.str ⟨#[45]⟩)) (t 26)), o 2 (.mov (t 27))])
 .ret) .skip))
 (.seq (.ops [o 28 (.mov (t 3)), o 2 (.mov (t 28))])
 .ret))))))⟩
def c38 : Func :=
⟨1, 103, [.tmp 2],
 (.seq (.ops [o 1 (.box (t 0)), o 2 (.mov (c (.int .i64 0)))])
 (.seq (.ops [o 10 (.fAddr 0 (t 1)), o 11 (.load 1 false (t 10)), o 12 (.call false (c (.fn 16 [] [])) [(t 11)]), o 3 (.mov (t 12))])
 (.seq (.seq (.ops [o 13 (.mov (t 3)), o 14 (.un .not (t 13))])
 (.cond (t 14) (.seq (.ops [o 2 (.mov (c (.int .i64 7)))])
 .ret) .skip))
 (.join (.ops [o 15 (.fAddr 1 (t 1)), o 16 (.load 1 false (t 15)), o 17 (.bin .eql (t 16) (c (.int .i64 1))), o 18 (.mov (t 17)), ⟨some 19, .fAddr 1 (t 1), some (18, false)⟩, ⟨some 20, .load 1 false (t 19), some (18, false)⟩, ⟨some 21, .bin .eql (t 20) (c (.int .i64 2)), some (18, false)⟩, o 22 (.pick (t 18) (c (.bool true)) (t 21)), o 4 (.mov (t 22))])
 (.join (.ops [o 23 (.fAddr 1 (t 1)), o 24 (.load 1 false (t 23)), o 25 (.bin .eql (t 24) (c (.int .i64 5))), o 26 (.mov (t 25)), ⟨some 27, .fAddr 1 (t 1), some (26, false)⟩, ⟨some 28, .load 1 false (t 27), some (26, false)⟩, ⟨some 29, .bin .eql (t 28) (c (.int .i64 6)), some (26, false)⟩, o 30 (.pick (t 26) (c (.bool true)) (t 29)), o 5 (.mov (t 30))])
 (.join (.seq (.ops [o 31 (.fAddr 1 (t 1)), o 32 (.load 1 false (t 31)), o 33 (.bin .lss (t 32) (c (.int .i64 1))), o 34 (.mov (t 33)), ⟨some 35, .fAddr 1 (t 1), some (34, false)⟩, ⟨some 36, .load 1 false (t 35), some (34, false)⟩, ⟨some 37, .bin .gtr (t 36) (c (.int .i64 6)), some (34, false)⟩, o 38 (.pick (t 34) (c (.bool true)) (t 37)), o 39 (.mov (t 38)), ⟨some 40, .mov (t 4), some (39, false)⟩, ⟨some 41, .fAddr 2 (t 1), some (39, false)⟩, ⟨some 42, .load 1 false (t 41), some (39, false)⟩, ⟨some 43, .lenSl (t 42), some (39, false)⟩, ⟨some 44, .bin .gtr (t 43) (c (.int .i64 0)), some (39, false)⟩, ⟨some 45, .eqb true (t 40) (t 44), some (39, false)⟩, o 46 (.pick (t 39) (c (.bool true)) (t 45)), o 47 (.mov (t 46)), ⟨some 48, .mov (t 5), some (47, false)⟩, ⟨some 49, .un .not (t 48), some (47, false)⟩, ⟨some 50, .mov (t 49), some (47, false)⟩, ⟨some 51, .fAddr 3 (t 1), some (50, true)⟩, ⟨some 52, .load 1 false (t 51), some (50, true)⟩, ⟨some 53, .bin .neq (t 52) (c (.int .i64 0)), some (50, true)⟩, ⟨some 54, .pick (t 50) (t 53) (c (.bool false)), some (47, false)⟩, o 55 (.pick (t 47) (c (.bool true)) (t 54)), o 56 (.mov (t 55)), ⟨some 57, .fAddr 3 (t 1), some (56, false)⟩, ⟨some 58, .load 1 false (t 57), some (56, false)⟩, ⟨some 59, .bin .lss (t 58) (c (.int .i64 (-2147483648))), some (56, false)⟩, o 60 (.pick (t 56) (c (.bool true)) (t 59)), o 61 (.mov (t 60)), ⟨some 62, .fAddr 3 (t 1), some (61, false)⟩, ⟨some 63, .load 1 false (t 62), some (61, false)⟩, ⟨some 64, .bin .gtr (t 63) (c (.int .i64 2147483648)), some (61, false)⟩, o 65 (.pick (t 61) (c (.bool true)) (t 64))])
 (.cond (t 65) (.seq (.ops [o 2 (.mov (c (.int .i64 30)))])
 .ret) .skip))
 (.seq (.seq (.ops [o 66 (.fAddr 2 (t 1)), o 67 (.load 1 false (t 66)), o 68 (.lenSl (t 67)), o 69 (.bin .gtr (t 68) (c (.int .i64 8)))])
 (.cond (t 69) (.seq (.ops [o 2 (.mov (c (.int .i64 3)))])
 .ret) .skip))
 (.seq (.seq (.ops [o 6 (.mov (c (.int .i64 0)))])
 (.block 0 (.loop (.seq (.seq (.ops [o 70 (.mov (t 6)), o 71 (.fAddr 2 (t 1)), o 72 (.load 1 false (t 71)), o 73 (.lenSl (t 72)), o 74 (.bin .lss (t 70) (t 73))])
 (.cond (t 74) .skip (.exit 0)))
 (.seq (.block 1 (.seq (.ops [o 77 (.fAddr 2 (t 1)), o 78 (.load 1 false (t 77)), o 79 (.mov (t 6)), o 80 (.iAddrS 1 (t 78) (t 79)), o 81 (.load 1 false (t 80)), o 82 (.call false (c (.fn 17 [] [])) [(t 81)]), o 7 (.mov (t 82))])
 (.seq (.ops [o 83 (.mov (t 7)), o 84 (.un .not (t 83))])
 (.cond (t 84) (.seq (.ops [o 2 (.mov (c (.int .i64 20)))])
 .ret) .skip))))
 (.ops [o 75 (.mov (t 6)), o 76 (.bin .add (t 75) (c (.int .i64 1))), o 6 (.mov (t 76))]))))))
 (.seq (.seq (.ops [o 8 (.mov (c (.int .i64 0)))])
 (.block 2 (.loop (.seq (.seq (.ops [o 85 (.mov (t 8)), o 86 (.fAddr 2 (t 1)), o 87 (.load 1 false (t 86)), o 88 (.lenSl (t 87)), o 89 (.bin .lss (t 85) (t 88))])
 (.cond (t 89) .skip (.exit 2)))
 (.seq (.block 3 (.seq (.ops [o 92 (.fAddr 2 (t 1)), o 93 (.load 1 false (t 92)), o 94 (.mov (t 8)), o 95 (.slc 1 (t 93) none (some (t 94))), o 96 (.fAddr 2 (t 1)), o 97 (.load 1 false (t 96)), o 98 (.mov (t 8)), o 99 (.iAddrS 1 (t 97) (t 98)), o 100 (.load 1 false (t 99)), o 101 (.call true (c (.fn 45 [] [])) [(t 95), (t 100)]), o 9 (.mov (t 101))])
 (.seq (.ops [o 102 (.mov (t 9))])
 (.cond (t 102) (.seq (.ops [o 2 (.mov (c (.int .i64 6)))])
 .ret) .skip))))
 (.ops [o 90 (.mov (t 8)), o 91 (.bin .add (t 90) (c (.int .i64 1))), o 8 (.mov (t 91))]))))))
 (.seq (.ops [o 2 (.mov (c (.int .i64 0)))])
 .ret))))))))))⟩
def c39 : Func :=
⟨1, 18, [.tmp 2],
 (.seq (.ops [o 2 (.mov (c (.sl 1 true [])))])
 (.seq (.ops [o 3 (.mov (c (.sl 1 true [])))])
 (.seq (.seq (.ops [o 4 (.mov (c (.int .i64 0)))])
 (.block 0 (.loop (.seq (.seq (.ops [o 5 (.mov (t 4)), o 6 (.mov (t 0)), o 7 (.lenSl (t 6)), o 8 (.bin .lss (t 5) (t 7))])
 (.cond (t 8) .skip (.exit 0)))
 (.seq (.block 1 (.ops [o 11 (.mov (t 3)), o 12 (.mov (t 0)), o 13 (.mov (t 4)), o 14 (.iAddrS 1 (t 12) (t 13)), o 15 (.load 1 false (t 14)), o 16 (.call false (c (.fn 54 [] [])) [(t 11), (t 15)]), o 3 (.mov (t 16))]))
 (.ops [o 9 (.mov (t 4)), o 10 (.bin .add (t 9) (c (.int .i64 1))), o 4 (.mov (t 10))]))))))
 (.seq (.ops [o 17 (.mov (t 3)), o 2 (.mov (t 17))])
 .ret))))⟩
def c40 : Func :=
⟨3, 109, [.cell 6 6 true, .tmp 7],
 (.seq (.ops [o 6 (.alloc [(.bool false), (.bool false), (.bool false), (.sl 1 true []), (.int .i64 0), (.int .i64 0)]), o 7 (.mov (c (.bool false)))])
 (.join (.block 0 (.loop (.seq (.seq (.ops [o 20 (.mov (t 0)), o 21 (.mov (t 1)), o 22 (.bin .leq (t 20) (t 21))])
 (.cond (t 22) .skip (.exit 0)))
 (.block 1 (.seq (.ops [o 23 (.mov (t 0)), o 24 (.call false (c (.fn 37 [] [])) [(t 23)]), o 8 (.mov (t 24))])
 (.seq (.ops [o 25 (.mov (t 2)), o 26 (.mov (t 8)), o 27 (.call false (c (.fn 45 [] [])) [(t 25), (t 26)]), o 9 (.mov (t 27))])
 (.seq (.seq (.ops [o 28 (.mov (t 9)), o 29 (.un .not (t 28))])
 (.cond (t 29) (.exit 0) .skip))
 (.ops [o 30 (.mov (t 0)), o 31 (.bin .add (t 30) (c (.int .i64 1))), o 0 (.mov (t 31))]))))))))
 (.join (.block 2 (.loop (.seq (.seq (.ops [o 32 (.mov (t 0)), o 33 (.mov (t 1)), o 34 (.bin .leq (t 32) (t 33))])
 (.cond (t 34) .skip (.exit 2)))
 (.block 3 (.seq (.ops [o 35 (.mov (t 1)), o 36 (.call false (c (.fn 37 [] [])) [(t 35)]), o 10 (.mov (t 36))])
 (.seq (.ops [o 37 (.mov (t 2)), o 38 (.mov (t 10)), o 39 (.call false (c (.fn 45 [] [])) [(t 37), (t 38)]), o 11 (.mov (t 39))])
 (.seq (.seq (.ops [o 40 (.mov (t 11)), o 41 (.un .not (t 40))])
 (.cond (t 41) (.exit 2) .skip))
 (.ops [o 42 (.mov (t 1)), o 43 (.bin .sub (t 42) (c (.int .i64 1))), o 1 (.mov (t 43))]))))))))
 (.seq (.ops [o 12 (.mov (c (.sl 1 true [])))])
 (.join (.seq (.ops [o 13 (.mov (c (.int .i64 0)))])
 (.block 4 (.loop (.seq (.seq (.ops [o 44 (.mov (t 13)), o 45 (.mov (t 2)), o 46 (.lenSl (t 45)), o 47 (.bin .lss (t 44) (t 46))])
 (.cond (t 47) .skip (.exit 4)))
 (.seq (.block 5 (.seq (.ops [o 51 (.mov (t 2)), o 52 (.mov (t 13)), o 53 (.iAddrS 1 (t 51) (t 52)), o 54 (.load 1 false (t 53)), o 55 (.call false (c (.fn 15 [] [])) [(t 54)]), o 50 (.mov (t 55)), o 56 (.ext 0 (t 50)), o 57 (.ext 1 (t 50)), o 14 (.mov (t 56)), o 15 (.mov (t 57))])
 (.seq (.ops [o 58 (.mov (t 15)), o 59 (.mov (t 58)), ⟨some 60, .mov (t 14), some (59, true)⟩, ⟨some 61, .mov (t 0), some (59, true)⟩, ⟨some 62, .bin .gtr (t 60) (t 61), some (59, true)⟩, o 63 (.pick (t 59) (t 62) (c (.bool false))), o 64 (.mov (t 63)), ⟨some 65, .mov (t 14), some (64, true)⟩, ⟨some 66, .mov (t 1), some (64, true)⟩, ⟨some 67, .bin .lss (t 65) (t 66), some (64, true)⟩, o 68 (.pick (t 64) (t 67) (c (.bool false)))])
 (.cond (t 68) (.ops [o 69 (.mov (t 12)), o 70 (.mov (t 2)), o 71 (.mov (t 13)), o 72 (.iAddrS 1 (t 70) (t 71)), o 73 (.load 1 false (t 72)), o 74 (.call false (c (.fn 54 [] [])) [(t 69), (t 73)]), o 12 (.mov (t 74))]) .skip))))
 (.ops [o 48 (.mov (t 13)), o 49 (.bin .add (t 48) (c (.int .i64 1))), o 13 (.mov (t 49))]))))))
 (.seq (.seq (.ops [o 75 (.mov (t 1)), o 76 (.mov (t 0)), o 77 (.bin .sub (t 75) (t 76)), o 78 (.bin .add (t 77) (c (.int .i64 1))), o 79 (.mov (t 12)), o 80 (.lenSl (t 79)), o 81 (.bin .sub (t 78) (t 80)), o 82 (.bin .leq (t 81) (c (.int .i64 64)))])
 (.cond (t 82) (.seq (.ops [o 16 (.mov (c (.sl 1 true [])))])
 (.seq (.seq (.ops [o 83 (.mov (t 0)), o 17 (.mov (t 83))])
 (.block 6 (.loop (.seq (.seq (.ops [o 84 (.mov (t 17)), o 85 (.mov (t 1)), o 86 (.bin .leq (t 84) (t 85))])
 (.cond (t 86) .skip (.exit 6)))
 (.seq (.block 7 (.seq (.ops [o 89 (.mov (t 17)), o 90 (.call false (c (.fn 37 [] [])) [(t 89)]), o 18 (.mov (t 90))])
 (.seq (.ops [o 91 (.mov (t 12)), o 92 (.mov (t 18)), o 93 (.call false (c (.fn 45 [] [])) [(t 91), (t 92)]), o 19 (.mov (t 93))])
 (.seq (.ops [o 94 (.mov (t 19)), o 95 (.un .not (t 94))])
 (.cond (t 95) (.ops [o 96 (.mov (t 16)), o 97 (.mov (t 18)), o 98 (.call false (c (.fn 54 [] [])) [(t 96), (t 97)]), o 16 (.mov (t 98))]) .skip)))))
 (.ops [o 87 (.mov (t 17)), o 88 (.bin .add (t 87) (c (.int .i64 1))), o 17 (.mov (t 88))]))))))
 (.seq (.ops [o 99 (.mov (t 16)), o 100 (.build [(.bool false), (.bool false), (.bool false), (.sl 1 true []), (.int .i64 0), (.int .i64 0)] [(3, 1, (t 99))]), w (.store 6 (t 6) (t 100)), o 7 (.mov (c (.bool true)))])
 .ret))) .skip))
 (.seq (.seq (.ops [o 101 (.mov (t 12)), o 102 (.lenSl (t 101)), o 103 (.bin .gtr (t 102) (c (.int .i64 64)))])
 (.cond (t 103) (.seq (.ops [o 104 (.build [(.bool false), (.bool false), (.bool false), (.sl 1 true []), (.int .i64 0), (.int .i64 0)] []), w (.store 6 (t 6) (t 104)), o 7 (.mov (c (.bool false)))])
 .ret) .skip))
 (.seq (.ops [o 105 (.mov (t 12)), o 106 (.mov (t 0)), o 107 (.mov (t 1)), o 108 (.build [(.bool false), (.bool false), (.bool false), (.sl 1 true []), (.int .i64 0), (.int .i64 0)] [(1, 1, (c (.bool true))), (2, 1, (c (.bool true))), (3, 1, (t 105)), (4, 1, (t 106)), (5, 1, (t 107))]), w (.store 6 (t 6) (t 108)), o 7 (.mov (c (.bool true)))])
 .ret))))))))⟩
def c41 : Func :=
⟨2, 66, [.tmp 4],
 (.seq (.ops [o 2 (.box (t 0)), o 3 (.box (t 1)), o 4 (.mov (c (.bool false)))])
 (.seq (.seq (.ops [o 6 (.fAddr 0 (t 2)), o 7 (.load 1 false (t 6)), o 8 (.fAddr 0 (t 3)), o 9 (.load 1 false (t 8)), o 10 (.eqb true (t 7) (t 9)), o 11 (.mov (t 10)), ⟨some 12, .fAddr 1 (t 2), some (11, false)⟩, ⟨some 13, .load 1 false (t 12), some (11, false)⟩, ⟨some 14, .fAddr 1 (t 3), some (11, false)⟩, ⟨some 15, .load 1 false (t 14), some (11, false)⟩, ⟨some 16, .eqb true (t 13) (t 15), some (11, false)⟩, o 17 (.pick (t 11) (c (.bool true)) (t 16)), o 18 (.mov (t 17)), ⟨some 19, .fAddr 2 (t 2), some (18, false)⟩, ⟨some 20, .load 1 false (t 19), some (18, false)⟩, ⟨some 21, .fAddr 2 (t 3), some (18, false)⟩, ⟨some 22, .load 1 false (t 21), some (18, false)⟩, ⟨some 23, .eqb true (t 20) (t 22), some (18, false)⟩, o 24 (.pick (t 18) (c (.bool true)) (t 23)), o 25 (.mov (t 24)), ⟨some 26, .fAddr 4 (t 2), some (25, false)⟩, ⟨some 27, .load 1 false (t 26), some (25, false)⟩, ⟨some 28, .fAddr 4 (t 3), some (25, false)⟩, ⟨some 29, .load 1 false (t 28), some (25, false)⟩, ⟨some 30, .bin .neq (t 27) (t 29), some (25, false)⟩, o 31 (.pick (t 25) (c (.bool true)) (t 30)), o 32 (.mov (t 31)), ⟨some 33, .fAddr 5 (t 2), some (32, false)⟩, ⟨some 34, .load 1 false (t 33), some (32, false)⟩, ⟨some 35, .fAddr 5 (t 3), some (32, false)⟩, ⟨some 36, .load 1 false (t 35), some (32, false)⟩, ⟨some 37, .bin .neq (t 34) (t 36), some (32, false)⟩, o 38 (.pick (t 32) (c (.bool true)) (t 37)), o 39 (.mov (t 38)), ⟨some 40, .fAddr 3 (t 2), some (39, false)⟩, ⟨some 41, .load 1 false (t 40), some (39, false)⟩, ⟨some 42, .lenSl (t 41), some (39, false)⟩, ⟨some 43, .fAddr 3 (t 3), some (39, false)⟩, ⟨some 44, .load 1 false (t 43), some (39, false)⟩, ⟨some 45, .lenSl (t 44), some (39, false)⟩, ⟨some 46, .bin .neq (t 42) (t 45), some (39, false)⟩, o 47 (.pick (t 39) (c (.bool true)) (t 46))])
 (.cond (t 47) (.seq (.ops [o 4 (.mov (c (.bool false)))])
 .ret) .skip))
 (.seq (.seq (.ops [o 5 (.mov (c (.int .i64 0)))])
 (.block 0 (.loop (.seq (.seq (.ops [o 48 (.mov (t 5)), o 49 (.fAddr 3 (t 2)), o 50 (.load 1 false (t 49)), o 51 (.lenSl (t 50)), o 52 (.bin .lss (t 48) (t 51))])
 (.cond (t 52) .skip (.exit 0)))
 (.seq (.block 1 (.seq (.ops [o 55 (.fAddr 3 (t 2)), o 56 (.load 1 false (t 55)), o 57 (.mov (t 5)), o 58 (.iAddrS 1 (t 56) (t 57)), o 59 (.load 1 false (t 58)), o 60 (.fAddr 3 (t 3)), o 61 (.load 1 false (t 60)), o 62 (.mov (t 5)), o 63 (.iAddrS 1 (t 61) (t 62)), o 64 (.load 1 false (t 63)), o 65 (.bin .neq (t 59) (t 64))])
 (.cond (t 65) (.seq (.ops [o 4 (.mov (c (.bool false)))])
 .ret) .skip)))
 (.ops [o 53 (.mov (t 5)), o 54 (.bin .add (t 53) (c (.int .i64 1))), o 5 (.mov (t 54))]))))))
 (.seq (.ops [o 4 (.mov (c (.bool true)))])
 .ret))))⟩
def c42 : Func :=
⟨1, 37, [.tmp 2],
 (.seq (.ops [o 2 (.mov (c (.bool false)))])
 (.seq (.seq (.ops [o 5 (.mov (t 0)), o 6 (.lenSl (t 5)), o 7 (.bin .gtr (t 6) (c (.int .i64 64)))])
 (.cond (t 7) (.seq (.ops [o 2 (.mov (c (.bool false)))])
 .ret) .skip))
 (.seq (.seq (.ops [o 3 (.mov (c (.int .i64 0)))])
 (.block 0 (.loop (.seq (.seq (.ops [o 8 (.mov (t 3)), o 9 (.mov (t 0)), o 10 (.lenSl (t 9)), o 11 (.bin .lss (t 8) (t 10))])
 (.cond (t 11) .skip (.exit 0)))
 (.seq (.block 1 (.seq (.ops [o 14 (.mov (t 0)), o 15 (.mov (t 3)), o 16 (.iAddrS 1 (t 14) (t 15)), o 17 (.load 1 false (t 16)), o 18 (.call false (c (.fn 17 [] [])) [(t 17)]), o 4 (.mov (t 18))])
 (.seq (.ops [o 19 (.mov (t 4)), o 20 (.un .not (t 19)), o 21 (.mov (t 20)), ⟨some 22, .mov (t 3), some (21, false)⟩, ⟨some 23, .bin .gtr (t 22) (c (.int .i64 0)), some (21, false)⟩, ⟨some 24, .mov (t 23), some (21, false)⟩, ⟨some 25, .mov (t 0), some (24, true)⟩, ⟨some 26, .mov (t 3), some (24, true)⟩, ⟨some 27, .bin .sub (t 26) (c (.int .i64 1)), some (24, true)⟩, ⟨some 28, .iAddrS 1 (t 25) (t 27), some (24, true)⟩, ⟨some 29, .load 1 false (t 28), some (24, true)⟩, ⟨some 30, .mov (t 0), some (24, true)⟩, ⟨some 31, .mov (t 3), some (24, true)⟩, ⟨some 32, .iAddrS 1 (t 30) (t 31), some (24, true)⟩, ⟨some 33, .load 1 false (t 32), some (24, true)⟩, ⟨some 34, .bin .geq (t 29) (t 33), some (24, true)⟩, ⟨some 35, .pick (t 24) (t 34) (c (.bool false)), some (21, false)⟩, o 36 (.pick (t 21) (c (.bool true)) (t 35))])
 (.cond (t 36) (.seq (.ops [o 2 (.mov (c (.bool false)))])
 .ret) .skip))))
 (.ops [o 12 (.mov (t 3)), o 13 (.bin .add (t 12) (c (.int .i64 1))), o 3 (.mov (t 13))]))))))
 (.seq (.ops [o 2 (.mov (c (.bool true)))])
 .ret))))⟩
def c43 : Func :=
⟨2, 37, [.tmp 4],
 (.seq (.ops [o 2 (.box (t 0)), o 4 (.mov (c (.bool false)))])
 (.seq (.ops [o 8 (.fAddr 3 (t 2)), o 9 (.load 1 false (t 8)), o 10 (.mov (t 1)), o 11 (.call false (c (.fn 55 [] [])) [(t 9), (t 10)]), o 5 (.mov (t 11))])
 (.seq (.seq (.ops [o 12 (.fAddr 1 (t 2)), o 13 (.load 1 false (t 12)), o 14 (.mov (t 5)), o 15 (.eqb true (t 13) (t 14))])
 (.cond (t 15) (.seq (.seq (.ops [o 16 (.fAddr 2 (t 2)), o 17 (.load 1 false (t 16)), o 18 (.un .not (t 17))])
 (.cond (t 18) (.seq (.ops [o 4 (.mov (c (.bool true)))])
 .ret) .skip))
 (.seq (.ops [o 20 (.mov (t 1)), o 21 (.call false (c (.fn 13 [] [])) [(t 20)]), o 19 (.mov (t 21)), o 22 (.ext 0 (t 19)), o 23 (.ext 1 (t 19)), o 6 (.mov (t 22)), o 7 (.mov (t 23))])
 (.seq (.ops [o 24 (.mov (t 7)), o 25 (.mov (t 24)), ⟨some 26, .mov (t 6), some (25, true)⟩, ⟨some 27, .fAddr 4 (t 2), some (25, true)⟩, ⟨some 28, .load 1 false (t 27), some (25, true)⟩, ⟨some 29, .bin .geq (t 26) (t 28), some (25, true)⟩, o 30 (.pick (t 25) (t 29) (c (.bool false))), o 31 (.mov (t 30)), ⟨some 32, .mov (t 6), some (31, true)⟩, ⟨some 33, .fAddr 5 (t 2), some (31, true)⟩, ⟨some 34, .load 1 false (t 33), some (31, true)⟩, ⟨some 35, .bin .leq (t 32) (t 34), some (31, true)⟩, o 36 (.pick (t 31) (t 35) (c (.bool false))), o 4 (.mov (t 36))])
 .ret))) .skip))
 (.seq (.ops [o 4 (.mov (c (.bool false)))])
 .ret))))⟩
def c44 : Func :=
⟨2, 32, [.cell 4 6 true],
 (.seq (.ops [o 3 (.box (t 1)), o 4 (.alloc [(.bool false), (.bool false), (.bool false), (.sl 1 true []), (.int .i64 0), (.int .i64 0)])])
 (.seq (.ops [o 8 (.build [(.bool false), (.bool false), (.bool false), (.sl 1 true []), (.int .i64 0), (.int .i64 0)] []), o 5 (.alloc [(.bool false), (.bool false), (.bool false), (.sl 1 true []), (.int .i64 0), (.int .i64 0)]), w (.store 6 (t 5) (t 8))])
 (.gh (.cell 5 99 3 1 9) (.seq (.seq (.ops [o 6 (.mov (c (.int .i64 0)))])
 (.block 0 (.loop (.seq (.seq (.ops [o 9 (.mov (t 6)), o 10 (.mov (t 0)), o 11 (.lenSl (t 10)), o 12 (.bin .lss (t 9) (t 11))])
 (.cond (t 12) .skip (.exit 0)))
 (.seq (.block 1 (.seq (.ops [o 15 (.load 6 true (t 3)), o 16 (.mov (t 0)), o 17 (.mov (t 6)), o 18 (.iAddrS 1 (t 16) (t 17)), o 19 (.load 1 false (t 18)), o 20 (.call true (c (.fn 28 [] [])) [(t 15), (t 19)]), o 7 (.mov (t 20))])
 (.seq (.ops [o 21 (.mov (t 7))])
 (.cond (t 21) (.ops [o 22 (.fAddrP 3 (t 5)), o 23 (.loadP 1 false (t 22)), o 24 (.mov (t 0)), o 25 (.mov (t 6)), o 26 (.iAddrS 1 (t 24) (t 25)), o 27 (.loadP 1 false (t 26)), o 28 (.mkSl true 1 9 (.str ⟨#[]⟩) 1 [(0, (t 27))]), o 29 (.appD 1 9 16 (t 23) (t 28)), o 30 (.fAddrP 3 (t 5)), w (.store 1 (t 30) (t 29))]) .skip))))
 (.ops [o 13 (.mov (t 6)), o 14 (.bin .add (t 13) (c (.int .i64 1))), o 6 (.mov (t 14))]))))))
 (.seq (.ops [o 31 (.load 6 true (t 5)), w (.store 6 (t 4) (t 31))])
 .ret)))))⟩
def c45 : Func :=
⟨2, 18, [.tmp 4],
 (.seq (.ops [o 4 (.mov (c (.bool false)))])
 (.seq (.seq (.ops [o 5 (.mov (c (.int .i64 0)))])
 (.block 0 (.loop (.seq (.seq (.ops [o 6 (.mov (t 5)), o 7 (.mov (t 0)), o 8 (.lenSl (t 7)), o 9 (.bin .lss (t 6) (t 8))])
 (.cond (t 9) .skip (.exit 0)))
 (.seq (.block 1 (.seq (.ops [o 12 (.mov (t 0)), o 13 (.mov (t 5)), o 14 (.iAddrS 1 (t 12) (t 13)), o 15 (.load 1 false (t 14)), o 16 (.mov (t 1)), o 17 (.bin .eql (t 15) (t 16))])
 (.cond (t 17) (.seq (.ops [o 4 (.mov (c (.bool true)))])
 .ret) .skip)))
 (.ops [o 10 (.mov (t 5)), o 11 (.bin .add (t 10) (c (.int .i64 1))), o 5 (.mov (t 11))]))))))
 (.seq (.ops [o 4 (.mov (c (.bool false)))])
 .ret)))⟩
def c46 : Func :=
⟨2, 26, [.tmp 4],
 (.seq (.ops [o 4 (.mov (c (.bool false)))])
 (.seq (.seq (.ops [o 6 (.mov (t 0)), o 7 (.lenSl (t 6)), o 8 (.mov (t 1)), o 9 (.lenSl (t 8)), o 10 (.bin .neq (t 7) (t 9))])
 (.cond (t 10) (.seq (.ops [o 4 (.mov (c (.bool false)))])
 .ret) .skip))
 (.seq (.seq (.ops [o 11 (.mov (t 0)), o 12 (.lenSl (t 11)), o 13 (.mov (c (.int .i64 0)))])
 (.block 0 (.loop (.seq (.ops [o 14 (.bin .lss (t 13) (t 12))])
 (.seq (.cond (t 14) .skip (.exit 0))
 (.seq (.block 1 (.seq (.ops [o 15 (.mov (t 13)), o 5 (.mov (t 15))])
 (.seq (.ops [o 16 (.mov (t 0)), o 17 (.mov (t 5)), o 18 (.iAddrS 1 (t 16) (t 17)), o 19 (.load 1 false (t 18)), o 20 (.mov (t 1)), o 21 (.mov (t 5)), o 22 (.iAddrS 1 (t 20) (t 21)), o 23 (.load 1 false (t 22)), o 24 (.bin .neq (t 19) (t 23))])
 (.cond (t 24) (.seq (.ops [o 4 (.mov (c (.bool false)))])
 .ret) .skip))))
 (.ops [o 25 (.bin .add (t 13) (c (.int .i64 1))), o 13 (.mov (t 25))])))))))
 (.seq (.ops [o 4 (.mov (c (.bool true)))])
 .ret))))⟩
def c47 : Func :=
⟨2, 9, [.tmp 4],
 (.seq (.ops [o 4 (.mov (c (.bool false)))])
 (.seq (.ops [o 5 (.mov (t 0)), o 6 (.mov (t 1)), o 7 (.call false (c (.fn 56 [] [])) [(t 5), (t 6)]), o 8 (.bin .geq (t 7) (c (.int .i64 0))), o 4 (.mov (t 8))])
 .ret))⟩
def c48 : Func :=
⟨1, 6, [.tmp 2],
 (.seq (.ops [o 2 (.mov (c (.bool false)))])
 (.seq (.ops [o 3 (.mov (t 0)), o 4 (.call false (c (.fn 19 [] [])) [(t 3)]), o 5 (.un .not (t 4)), o 2 (.mov (t 5))])
 .ret))⟩
def c54 : Func :=
⟨2, 48, [.tmp 4],
 (.seq (.ops [o 4 (.mov (c (.sl 1 true [])))])
 (.seq (.ops [o 5 (.mov (c (.int .i64 0)))])
 (.seq (.block 0 (.loop (.seq (.seq (.ops [o 7 (.mov (t 5)), o 8 (.mov (t 0)), o 9 (.lenSl (t 8)), o 10 (.bin .lss (t 7) (t 9)), o 11 (.mov (t 10)), ⟨some 12, .mov (t 0), some (11, true)⟩, ⟨some 13, .mov (t 5), some (11, true)⟩, ⟨some 14, .iAddrS 1 (t 12) (t 13), some (11, true)⟩, ⟨some 15, .load 1 false (t 14), some (11, true)⟩, ⟨some 16, .mov (t 1), some (11, true)⟩, ⟨some 17, .bin .lss (t 15) (t 16), some (11, true)⟩, o 18 (.pick (t 11) (t 17) (c (.bool false)))])
 (.cond (t 18) .skip (.exit 0)))
 (.block 1 (.ops [o 19 (.mov (t 5)), o 20 (.bin .add (t 19) (c (.int .i64 1))), o 5 (.mov (t 20))])))))
 (.seq (.seq (.ops [o 21 (.mov (t 5)), o 22 (.mov (t 0)), o 23 (.lenSl (t 22)), o 24 (.bin .lss (t 21) (t 23)), o 25 (.mov (t 24)), ⟨some 26, .mov (t 0), some (25, true)⟩, ⟨some 27, .mov (t 5), some (25, true)⟩, ⟨some 28, .iAddrS 1 (t 26) (t 27), some (25, true)⟩, ⟨some 29, .load 1 false (t 28), some (25, true)⟩, ⟨some 30, .mov (t 1), some (25, true)⟩, ⟨some 31, .bin .eql (t 29) (t 30), some (25, true)⟩, o 32 (.pick (t 25) (t 31) (c (.bool false)))])
 (.cond (t 32) (.seq (.ops [o 33 (.mov (t 0)), o 4 (.mov (t 33))])
 .ret) .skip))
 (.seq (.ops [o 6 (.mov (c (.sl 1 true [])))])
 (.seq (.ops [o 34 (.mov (t 6)), o 35 (.mov (t 0)), o 36 (.mov (t 5)), o 37 (.slc 1 (t 35) none (some (t 36))), o 38 (.app 1 9 16 (t 34) (t 37)), o 6 (.mov (t 38))])
 (.seq (.ops [o 39 (.mov (t 6)), o 40 (.mov (t 1)), o 41 (.mkSl false 1 9 (.str ⟨#[]⟩) 1 [(0, (t 40))]), o 42 (.app 1 9 16 (t 39) (t 41)), o 6 (.mov (t 42))])
 (.seq (.ops [o 43 (.mov (t 6)), o 44 (.mov (t 0)), o 45 (.mov (t 5)), o 46 (.slc 1 (t 44) (some (t 45)) none), o 47 (.app 1 9 16 (t 43) (t 46)), o 4 (.mov (t 47))])
 .ret))))))))⟩
def c55 : Func :=
⟨2, 9, [.tmp 4],
 (.seq (.ops [o 4 (.mov (c (.bool false)))])
 (.seq (.ops [o 5 (.mov (t 0)), o 6 (.mov (t 1)), o 7 (.call false (c (.fn 69 [] [])) [(t 5), (t 6)]), o 8 (.bin .geq (t 7) (c (.int .i64 0))), o 4 (.mov (t 8))])
 .ret))⟩
def c56 : Func :=
⟨2, 19, [.tmp 4],
 (.seq (.ops [o 4 (.mov (c (.int .i64 0)))])
 (.seq (.seq (.ops [o 6 (.mov (t 0)), o 7 (.lenSl (t 6)), o 8 (.mov (c (.int .i64 0)))])
 (.block 0 (.loop (.seq (.ops [o 9 (.bin .lss (t 8) (t 7))])
 (.seq (.cond (t 9) .skip (.exit 0))
 (.seq (.block 1 (.seq (.ops [o 10 (.mov (t 8)), o 5 (.mov (t 10))])
 (.seq (.ops [o 11 (.mov (t 1)), o 12 (.mov (t 0)), o 13 (.mov (t 5)), o 14 (.iAddrS 1 (t 12) (t 13)), o 15 (.load 1 false (t 14)), o 16 (.call false (t 11) [(t 15)])])
 (.cond (t 16) (.seq (.ops [o 17 (.mov (t 5)), o 4 (.mov (t 17))])
 .ret) .skip))))
 (.ops [o 18 (.bin .add (t 8) (c (.int .i64 1))), o 8 (.mov (t 18))])))))))
 (.seq (.ops [o 4 (.mov (c (.int .i64 (-1))))])
 .ret)))⟩
def c69 : Func :=
⟨2, 19, [.tmp 4],
 (.seq (.ops [o 4 (.mov (c (.int .i64 0)))])
 (.seq (.seq (.ops [o 6 (.mov (t 0)), o 7 (.lenSl (t 6)), o 8 (.mov (c (.int .i64 0)))])
 (.block 0 (.loop (.seq (.ops [o 9 (.bin .lss (t 8) (t 7))])
 (.seq (.cond (t 9) .skip (.exit 0))
 (.seq (.block 1 (.seq (.ops [o 10 (.mov (t 8)), o 5 (.mov (t 10))])
 (.seq (.ops [o 11 (.mov (t 1)), o 12 (.mov (t 0)), o 13 (.mov (t 5)), o 14 (.iAddrS 1 (t 12) (t 13)), o 15 (.load 1 false (t 14)), o 16 (.bin .eql (t 11) (t 15))])
 (.cond (t 16) (.seq (.ops [o 17 (.mov (t 5)), o 4 (.mov (t 17))])
 .ret) .skip))))
 (.ops [o 18 (.bin .add (t 8) (c (.int .i64 1))), o 8 (.mov (t 18))])))))))
 (.seq (.ops [o 4 (.mov (c (.int .i64 (-1))))])
 .ret)))⟩
def c3 : Func :=
⟨0, 75, [.tmp 0],
 (.seq (.ops [o 0 (.mov (c (.bool false)))])
 (.seq (.ops [o 1 (.mov (c (.bool true)))])
 (.seq (.ops [o 2 (.mov (c (.bool true)))])
 (.seq (.ops [o 12 (.build [(.str ⟨#[]⟩), (.int .i64 0), (.sl 1 true []), (.int .i64 0)] [(0, 1, (c (.str ⟨#[107]⟩))), (1, 1, (c (.int .i64 5))), (3, 1, (c (.int .i64 2147483584)))]), o 13 (.call false (c (.fn 12 [] [])) [(t 12)]), o 11 (.mov (t 13)), o 14 (.ext 0 (t 11)), o 15 (.ext 1 (t 11)), o 3 (.alloc [(.bool false), (.bool false), (.bool false), (.sl 1 true []), (.int .i64 0), (.int .i64 0)]), w (.store 6 (t 3) (t 14)), o 4 (.mov (t 15))])
 (.seq (.ops [o 17 (.build [(.str ⟨#[]⟩), (.int .i64 0), (.sl 1 true []), (.int .i64 0)] [(0, 1, (c (.str ⟨#[107]⟩))), (1, 1, (c (.int .i64 5))), (3, 1, (c (.int .i64 2147483583)))]), o 18 (.call false (c (.fn 12 [] [])) [(t 17)]), o 16 (.mov (t 18)), o 19 (.ext 0 (t 16)), o 20 (.ext 1 (t 16)), o 5 (.alloc [(.bool false), (.bool false), (.bool false), (.sl 1 true []), (.int .i64 0), (.int .i64 0)]), w (.store 6 (t 5) (t 19)), o 6 (.mov (t 20))])
 (.seq (.ops [o 22 (.call false (c (.fn 13 [] [])) [(c (.str ⟨#[45, 50, 49, 52, 55, 52, 56, 51, 54, 52, 56]⟩))]), o 21 (.mov (t 22)), o 23 (.ext 0 (t 21)), o 24 (.ext 1 (t 21)), o 7 (.mov (t 23)), o 8 (.mov (t 24))])
 (.seq (.ops [o 26 (.call false (c (.fn 13 [] [])) [(c (.str ⟨#[50, 49, 52, 55, 52, 56, 51, 54, 52, 57]⟩))]), o 25 (.mov (t 26)), o 27 (.ext 0 (t 25)), o 28 (.ext 1 (t 25)), o 9 (.mov (t 27)), o 10 (.mov (t 28))])
 (.seq (.ops [o 29 (.mov (t 1)), o 30 (.mov (t 29)), ⟨some 31, .mov (t 2), some (30, true)⟩, o 32 (.pick (t 30) (t 31) (c (.bool false))), o 33 (.mov (t 32)), ⟨some 34, .call false (c (.fn 14 [] [])) [], some (33, true)⟩, o 35 (.pick (t 33) (t 34) (c (.bool false))), o 36 (.mov (t 35)), ⟨some 37, .mov (t 4), some (36, true)⟩, ⟨some 38, .bin .eql (t 37) (c (.int .i64 0)), some (36, true)⟩, o 39 (.pick (t 36) (t 38) (c (.bool false))), o 40 (.mov (t 39)), ⟨some 41, .fAddr 3 (t 3), some (40, true)⟩, ⟨some 42, .load 1 false (t 41), some (40, true)⟩, ⟨some 43, .lenSl (t 42), some (40, true)⟩, ⟨some 44, .bin .eql (t 43) (c (.int .i64 64)), some (40, true)⟩, o 45 (.pick (t 40) (t 44) (c (.bool false))), o 46 (.mov (t 45)), ⟨some 47, .fAddr 2 (t 3), some (46, true)⟩, ⟨some 48, .load 1 false (t 47), some (46, true)⟩, ⟨some 49, .un .not (t 48), some (46, true)⟩, o 50 (.pick (t 46) (t 49) (c (.bool false))), o 51 (.mov (t 50)), ⟨some 52, .mov (t 6), some (51, true)⟩, ⟨some 53, .bin .eql (t 52) (c (.int .i64 0)), some (51, true)⟩, o 54 (.pick (t 51) (t 53) (c (.bool false))), o 55 (.mov (t 54)), ⟨some 56, .fAddr 2 (t 5), some (55, true)⟩, ⟨some 57, .load 1 false (t 56), some (55, true)⟩, o 58 (.pick (t 55) (t 57) (c (.bool false))), o 59 (.mov (t 58)), ⟨some 60, .fAddr 4 (t 5), some (59, true)⟩, ⟨some 61, .load 1 false (t 60), some (59, true)⟩, ⟨some 62, .bin .eql (t 61) (c (.int .i64 2147483584)), some (59, true)⟩, o 63 (.pick (t 59) (t 62) (c (.bool false))), o 64 (.mov (t 63)), ⟨some 65, .mov (t 7), some (64, true)⟩, ⟨some 66, .bin .eql (t 65) (c (.int .i64 (-2147483648))), some (64, true)⟩, o 67 (.pick (t 64) (t 66) (c (.bool false))), o 68 (.mov (t 67)), ⟨some 69, .mov (t 8), some (68, true)⟩, o 70 (.pick (t 68) (t 69) (c (.bool false))), o 71 (.mov (t 70)), ⟨some 72, .mov (t 10), some (71, true)⟩, ⟨some 73, .un .not (t 72), some (71, true)⟩, o 74 (.pick (t 71) (t 73) (c (.bool false))), o 0 (.mov (t 74))])
 .ret))))))))⟩
def c4 : Func :=
⟨1, 46, [.tmp 2],
 (.seq (.ops [o 2 (.mov (c (.bool false)))])
 (.seq (.ops [o 10 (.mov (t 0)), o 11 (.call false (c (.fn 13 [] [])) [(t 10)]), o 9 (.mov (t 11)), o 12 (.ext 0 (t 9)), o 13 (.ext 1 (t 9)), o 3 (.mov (t 12)), o 4 (.mov (t 13))])
 (.seq (.ops [o 15 (.mov (t 0)), o 16 (.call false (c (.fn 15 [] [])) [(t 15)]), o 14 (.mov (t 16)), o 17 (.ext 0 (t 14)), o 18 (.ext 1 (t 14)), o 5 (.mov (t 17)), o 6 (.mov (t 18))])
 (.seq (.ops [o 19 (.mov (t 0)), o 20 (.call false (c (.fn 16 [] [])) [(t 19)]), o 7 (.mov (t 20))])
 (.seq (.ops [o 21 (.mov (t 0)), o 22 (.call false (c (.fn 17 [] [])) [(t 21)]), o 8 (.mov (t 22))])
 (.seq (.ops [o 23 (.call false (c (.fn 14 [] [])) []), o 24 (.mov (t 23)), ⟨some 25, .mov (t 3), some (24, true)⟩, ⟨some 26, .mov (t 5), some (24, true)⟩, ⟨some 27, .bin .eql (t 25) (t 26), some (24, true)⟩, o 28 (.pick (t 24) (t 27) (c (.bool false))), o 29 (.mov (t 28)), ⟨some 30, .mov (t 4), some (29, true)⟩, ⟨some 31, .mov (t 6), some (29, true)⟩, ⟨some 32, .eqb false (t 30) (t 31), some (29, true)⟩, o 33 (.pick (t 29) (t 32) (c (.bool false))), o 34 (.mov (t 33)), ⟨some 35, .mov (t 0), some (34, true)⟩, ⟨some 36, .call false (c (.fn 18 [] [])) [(t 35)], some (34, true)⟩, ⟨some 37, .mov (t 7), some (34, true)⟩, ⟨some 38, .eqb false (t 36) (t 37), some (34, true)⟩, o 39 (.pick (t 34) (t 38) (c (.bool false))), o 40 (.mov (t 39)), ⟨some 41, .mov (t 0), some (40, true)⟩, ⟨some 42, .call false (c (.fn 19 [] [])) [(t 41)], some (40, true)⟩, ⟨some 43, .mov (t 8), some (40, true)⟩, ⟨some 44, .eqb false (t 42) (t 43), some (40, true)⟩, o 45 (.pick (t 40) (t 44) (c (.bool false))), o 2 (.mov (t 45))])
 .ret))))))⟩
def c5 : Func :=
⟨1, 71, [.tmp 2],
 (.seq (.ops [o 1 (.box (t 0)), o 2 (.mov (c (.bool false)))])
 (.seq (.ops [o 11 (.mkSl false 1 9 (.str ⟨#[]⟩) 0 []), o 12 (.fAddr 2 (t 1)), o 13 (.load 1 false (t 12)), o 14 (.app 1 9 16 (t 11) (t 13)), o 3 (.mov (t 14))])
 (.seq (.ops [o 16 (.load 4 true (t 1)), o 17 (.call false (c (.fn 12 [] [])) [(t 16)]), o 15 (.mov (t 17)), o 18 (.ext 0 (t 15)), o 19 (.ext 1 (t 15)), o 4 (.alloc [(.bool false), (.bool false), (.bool false), (.sl 1 true []), (.int .i64 0), (.int .i64 0)]), w (.store 6 (t 4) (t 18)), o 5 (.mov (t 19))])
 (.seq (.ops [o 21 (.fAddr 0 (t 1)), o 22 (.load 1 false (t 21)), o 23 (.fAddr 1 (t 1)), o 24 (.load 1 false (t 23)), o 25 (.mov (t 3)), o 26 (.fAddr 3 (t 1)), o 27 (.load 1 false (t 26)), o 28 (.build [(.str ⟨#[]⟩), (.int .i64 0), (.sl 1 true []), (.int .i64 0)] [(0, 1, (t 22)), (1, 1, (t 24)), (2, 1, (t 25)), (3, 1, (t 27))]), o 29 (.call false (c (.fn 20 [] [])) [(t 28)]), o 20 (.mov (t 29)), o 30 (.ext 0 (t 20)), o 31 (.ext 1 (t 20)), o 6 (.alloc [(.bool false), (.bool false), (.bool false), (.sl 1 true []), (.int .i64 0), (.int .i64 0)]), w (.store 6 (t 6) (t 30)), o 7 (.mov (t 31))])
 (.seq (.ops [o 32 (.mov (t 5)), o 33 (.mov (t 7)), o 34 (.bin .eql (t 32) (t 33)), o 35 (.mov (t 34)), ⟨some 36, .load 6 true (t 4), some (35, true)⟩, ⟨some 37, .load 6 true (t 6), some (35, true)⟩, ⟨some 38, .call false (c (.fn 21 [] [])) [(t 36), (t 37)], some (35, true)⟩, o 39 (.pick (t 35) (t 38) (c (.bool false))), o 8 (.mov (t 39))])
 (.seq (.seq (.ops [o 9 (.mov (c (.int .i64 0)))])
 (.block 0 (.loop (.seq (.seq (.ops [o 40 (.mov (t 9)), o 41 (.fAddr 3 (t 4)), o 42 (.load 1 false (t 41)), o 43 (.lenSl (t 42)), o 44 (.bin .lss (t 40) (t 43))])
 (.cond (t 44) .skip (.exit 0)))
 (.seq (.block 1 (.ops [o 47 (.fAddr 3 (t 4)), o 48 (.load 1 false (t 47)), o 49 (.mov (t 9)), o 50 (.iAddrS 1 (t 48) (t 49)), w (.store 1 (t 50) (c (.str ⟨#[64]⟩)))]))
 (.ops [o 45 (.mov (t 9)), o 46 (.bin .add (t 45) (c (.int .i64 1))), o 9 (.mov (t 46))]))))))
 (.seq (.seq (.ops [o 10 (.mov (c (.int .i64 0)))])
 (.block 2 (.loop (.seq (.seq (.ops [o 51 (.mov (t 10)), o 52 (.mov (t 3)), o 53 (.lenSl (t 52)), o 54 (.bin .lss (t 51) (t 53))])
 (.cond (t 54) .skip (.exit 2)))
 (.seq (.block 3 (.seq (.ops [o 57 (.mov (t 3)), o 58 (.mov (t 10)), o 59 (.iAddrS 1 (t 57) (t 58)), o 60 (.load 1 false (t 59)), o 61 (.fAddr 2 (t 1)), o 62 (.load 1 false (t 61)), o 63 (.mov (t 10)), o 64 (.iAddrS 1 (t 62) (t 63)), o 65 (.load 1 false (t 64)), o 66 (.bin .neq (t 60) (t 65))])
 (.cond (t 66) (.seq (.ops [o 2 (.mov (c (.bool false)))])
 .ret) .skip)))
 (.ops [o 55 (.mov (t 10)), o 56 (.bin .add (t 55) (c (.int .i64 1))), o 10 (.mov (t 56))]))))))
 (.seq (.ops [o 67 (.call false (c (.fn 14 [] [])) []), o 68 (.mov (t 67)), ⟨some 69, .mov (t 8), some (68, true)⟩, o 70 (.pick (t 68) (t 69) (c (.bool false))), o 2 (.mov (t 70))])
 .ret))))))))⟩
def c6 : Func :=
⟨1, 13, [.tmp 2],
 (.seq (.ops [o 1 (.box (t 0)), o 2 (.mov (c (.bool false)))])
 (.seq (.ops [o 4 (.load 6 true (t 1)), o 5 (.call false (c (.fn 22 [] [])) [(t 4)]), o 3 (.mov (t 5))])
 (.seq (.ops [o 6 (.call false (c (.fn 14 [] [])) []), o 7 (.mov (t 6)), ⟨some 8, .load 6 true (t 1), some (7, true)⟩, ⟨some 9, .call false (c (.fn 23 [] [])) [(t 8)], some (7, true)⟩, ⟨some 10, .mov (t 3), some (7, true)⟩, ⟨some 11, .bin .eql (t 9) (t 10), some (7, true)⟩, o 12 (.pick (t 7) (t 11) (c (.bool false))), o 2 (.mov (t 12))])
 .ret)))⟩
def c7 : Func :=
⟨2, 70, [.tmp 4],
 (.seq (.ops [o 2 (.box (t 0)), o 3 (.box (t 1)), o 4 (.mov (c (.bool false)))])
 (.seq (.ops [o 13 (.load 6 true (t 2)), o 5 (.alloc [(.bool false), (.bool false), (.bool false), (.sl 1 true []), (.int .i64 0), (.int .i64 0)]), w (.store 6 (t 5) (t 13))])
 (.seq (.ops [o 14 (.load 6 true (t 3)), o 6 (.alloc [(.bool false), (.bool false), (.bool false), (.sl 1 true []), (.int .i64 0), (.int .i64 0)]), w (.store 6 (t 6) (t 14))])
 (.seq (.ops [o 15 (.mkSl false 1 9 (.str ⟨#[]⟩) 0 []), o 16 (.fAddr 3 (t 2)), o 17 (.load 1 false (t 16)), o 18 (.app 1 9 16 (t 15) (t 17)), o 19 (.fAddr 3 (t 5)), w (.store 1 (t 19) (t 18))])
 (.seq (.ops [o 20 (.mkSl false 1 9 (.str ⟨#[]⟩) 0 []), o 21 (.fAddr 3 (t 3)), o 22 (.load 1 false (t 21)), o 23 (.app 1 9 16 (t 20) (t 22)), o 24 (.fAddr 3 (t 6)), w (.store 1 (t 24) (t 23))])
 (.seq (.ops [o 26 (.load 6 true (t 2)), o 27 (.load 6 true (t 3)), o 28 (.call false (c (.fn 24 [] [])) [(t 26), (t 27)]), o 25 (.mov (t 28)), o 29 (.ext 0 (t 25)), o 30 (.ext 1 (t 25)), o 7 (.alloc [(.bool false), (.bool false), (.bool false), (.sl 1 true []), (.int .i64 0), (.int .i64 0)]), w (.store 6 (t 7) (t 29)), o 8 (.mov (t 30))])
 (.seq (.ops [o 32 (.load 6 true (t 5)), o 33 (.load 6 true (t 6)), o 34 (.call false (c (.fn 25 [] [])) [(t 32), (t 33)]), o 31 (.mov (t 34)), o 35 (.ext 0 (t 31)), o 36 (.ext 1 (t 31)), o 9 (.alloc [(.bool false), (.bool false), (.bool false), (.sl 1 true []), (.int .i64 0), (.int .i64 0)]), w (.store 6 (t 9) (t 35)), o 10 (.mov (t 36))])
 (.seq (.ops [o 37 (.mov (t 8)), o 38 (.mov (t 10)), o 39 (.bin .eql (t 37) (t 38)), o 40 (.mov (t 39)), ⟨some 41, .load 6 true (t 7), some (40, true)⟩, ⟨some 42, .load 6 true (t 9), some (40, true)⟩, ⟨some 43, .call false (c (.fn 21 [] [])) [(t 41), (t 42)], some (40, true)⟩, o 44 (.pick (t 40) (t 43) (c (.bool false))), o 11 (.mov (t 44))])
 (.seq (.seq (.ops [o 12 (.mov (c (.int .i64 0)))])
 (.block 0 (.loop (.seq (.seq (.ops [o 45 (.mov (t 12)), o 46 (.fAddr 3 (t 7)), o 47 (.load 1 false (t 46)), o 48 (.lenSl (t 47)), o 49 (.bin .lss (t 45) (t 48))])
 (.cond (t 49) .skip (.exit 0)))
 (.seq (.block 1 (.ops [o 52 (.fAddr 3 (t 7)), o 53 (.load 1 false (t 52)), o 54 (.mov (t 12)), o 55 (.iAddrS 1 (t 53) (t 54)), w (.store 1 (t 55) (c (.str ⟨#[64]⟩)))]))
 (.ops [o 50 (.mov (t 12)), o 51 (.bin .add (t 50) (c (.int .i64 1))), o 12 (.mov (t 51))]))))))
 (.seq (.ops [o 56 (.call false (c (.fn 14 [] [])) []), o 57 (.mov (t 56)), ⟨some 58, .mov (t 11), some (57, true)⟩, o 59 (.pick (t 57) (t 58) (c (.bool false))), o 60 (.mov (t 59)), ⟨some 61, .load 6 true (t 2), some (60, true)⟩, ⟨some 62, .load 6 true (t 5), some (60, true)⟩, ⟨some 63, .call false (c (.fn 21 [] [])) [(t 61), (t 62)], some (60, true)⟩, o 64 (.pick (t 60) (t 63) (c (.bool false))), o 65 (.mov (t 64)), ⟨some 66, .load 6 true (t 3), some (65, true)⟩, ⟨some 67, .load 6 true (t 6), some (65, true)⟩, ⟨some 68, .call false (c (.fn 21 [] [])) [(t 66), (t 67)], some (65, true)⟩, o 69 (.pick (t 65) (t 68) (c (.bool false))), o 4 (.mov (t 69))])
 .ret))))))))))⟩
def c8 : Func :=
⟨2, 111, [.tmp 4],
 (.seq (.ops [o 2 (.box (t 0)), o 4 (.mov (c (.bool false)))])
 (.seq (.ops [o 15 (.load 4 true (t 2)), o 16 (.call false (c (.fn 12 [] [])) [(t 15)]), o 14 (.mov (t 16)), o 17 (.ext 0 (t 14)), o 18 (.ext 1 (t 14)), o 5 (.alloc [(.bool false), (.bool false), (.bool false), (.sl 1 true []), (.int .i64 0), (.int .i64 0)]), w (.store 6 (t 5) (t 17)), o 6 (.mov (t 18))])
 (.seq (.seq (.ops [o 19 (.mov (t 6)), o 20 (.bin .neq (t 19) (c (.int .i64 0)))])
 (.cond (t 20) (.seq (.ops [o 21 (.call false (c (.fn 14 [] [])) []), o 22 (.mov (t 21)), ⟨some 23, .load 6 true (t 5), some (22, true)⟩, ⟨some 24, .build [(.bool false), (.bool false), (.bool false), (.sl 1 true []), (.int .i64 0), (.int .i64 0)] [], some (22, true)⟩, ⟨some 25, .call false (c (.fn 21 [] [])) [(t 23), (t 24)], some (22, true)⟩, o 26 (.pick (t 22) (t 25) (c (.bool false))), o 4 (.mov (t 26))])
 .ret) .skip))
 (.seq (.ops [o 7 (.mov (c (.bool false)))])
 (.seq (.seq (.ops [o 8 (.mov (c (.int .i64 0)))])
 (.block 0 (.loop (.seq (.seq (.ops [o 27 (.mov (t 8)), o 28 (.fAddr 2 (t 2)), o 29 (.load 1 false (t 28)), o 30 (.lenSl (t 29)), o 31 (.bin .lss (t 27) (t 30))])
 (.cond (t 31) .skip (.exit 0)))
 (.seq (.block 1 (.ops [o 34 (.mov (t 7)), o 35 (.mov (t 34)), ⟨some 36, .fAddr 2 (t 2), some (35, false)⟩, ⟨some 37, .load 1 false (t 36), some (35, false)⟩, ⟨some 38, .mov (t 8), some (35, false)⟩, ⟨some 39, .iAddrS 1 (t 37) (t 38), some (35, false)⟩, ⟨some 40, .load 1 false (t 39), some (35, false)⟩, ⟨some 41, .mov (t 1), some (35, false)⟩, ⟨some 42, .bin .eql (t 40) (t 41), some (35, false)⟩, o 43 (.pick (t 35) (c (.bool true)) (t 42)), o 7 (.mov (t 43))]))
 (.ops [o 32 (.mov (t 8)), o 33 (.bin .add (t 32) (c (.int .i64 1))), o 8 (.mov (t 33))]))))))
 (.seq (.ops [o 45 (.mov (t 1)), o 46 (.call false (c (.fn 13 [] [])) [(t 45)]), o 44 (.mov (t 46)), o 47 (.ext 0 (t 44)), o 48 (.ext 1 (t 44)), o 9 (.mov (t 47)), o 10 (.mov (t 48))])
 (.seq (.ops [o 49 (.mov (t 1)), o 50 (.call false (c (.fn 19 [] [])) [(t 49)]), o 11 (.mov (t 50))])
 (.seq (.ops [o 12 (.mov (c (.bool false)))])
 (.join (.seq (.ops [o 51 (.fAddr 1 (t 2)), o 52 (.load 1 false (t 51))])
 (.block 2 (.seq (.ops [o 54 (.bin .eql (t 52) (c (.int .i64 1))), o 53 (.mov (t 54))])
 (.cond (t 53) (.ops [o 55 (.mov (t 7)), o 12 (.mov (t 55))]) (.seq (.ops [o 57 (.bin .eql (t 52) (c (.int .i64 2))), o 56 (.mov (t 57))])
 (.cond (t 56) (.ops [o 58 (.mov (t 11)), o 59 (.mov (t 58)), ⟨some 60, .mov (t 7), some (59, true)⟩, ⟨some 61, .un .not (t 60), some (59, true)⟩, o 62 (.pick (t 59) (t 61) (c (.bool false))), o 12 (.mov (t 62))]) (.seq (.ops [o 64 (.bin .eql (t 52) (c (.int .i64 3))), o 63 (.mov (t 64))])
 (.cond (t 63) (.ops [o 65 (.mov (t 11)), o 12 (.mov (t 65))]) (.seq (.ops [o 67 (.bin .eql (t 52) (c (.int .i64 5))), o 66 (.mov (t 67))])
 (.cond (t 66) (.ops [o 68 (.mov (t 10)), o 69 (.mov (t 68)), ⟨some 70, .mov (t 9), some (69, true)⟩, ⟨some 71, .fAddr 3 (t 2), some (69, true)⟩, ⟨some 72, .load 1 false (t 71), some (69, true)⟩, ⟨some 73, .bin .gtr (t 70) (t 72), some (69, true)⟩, o 74 (.pick (t 69) (t 73) (c (.bool false))), o 12 (.mov (t 74))]) (.seq (.ops [o 76 (.bin .eql (t 52) (c (.int .i64 6))), o 75 (.mov (t 76))])
 (.cond (t 75) (.ops [o 77 (.mov (t 10)), o 78 (.mov (t 77)), ⟨some 79, .mov (t 9), some (78, true)⟩, ⟨some 80, .fAddr 3 (t 2), some (78, true)⟩, ⟨some 81, .load 1 false (t 80), some (78, true)⟩, ⟨some 82, .bin .lss (t 79) (t 81), some (78, true)⟩, o 83 (.pick (t 78) (t 82) (c (.bool false))), o 12 (.mov (t 83))]) .skip))))))))))))
 (.seq (.ops [o 84 (.fAddr 1 (t 2)), o 85 (.load 1 false (t 84)), o 86 (.bin .eql (t 85) (c (.int .i64 2))), o 87 (.mov (t 86)), ⟨some 88, .fAddr 1 (t 2), some (87, false)⟩, ⟨some 89, .load 1 false (t 88), some (87, false)⟩, ⟨some 90, .bin .eql (t 89) (c (.int .i64 4)), some (87, false)⟩, o 91 (.pick (t 87) (c (.bool true)) (t 90)), o 13 (.mov (t 91))])
 (.seq (.ops [o 92 (.call false (c (.fn 14 [] [])) []), o 93 (.mov (t 92)), ⟨some 94, .load 6 true (t 5), some (93, true)⟩, ⟨some 95, .mov (t 1), some (93, true)⟩, ⟨some 96, .call false (c (.fn 26 [] [])) [(t 94), (t 95)], some (93, true)⟩, ⟨some 97, .mov (t 12), some (93, true)⟩, ⟨some 98, .eqb false (t 96) (t 97), some (93, true)⟩, o 99 (.pick (t 93) (t 98) (c (.bool false))), o 100 (.mov (t 99)), ⟨some 101, .fAddr 0 (t 5), some (100, true)⟩, ⟨some 102, .load 1 false (t 101), some (100, true)⟩, ⟨some 103, .mov (t 13), some (100, true)⟩, ⟨some 104, .eqb false (t 102) (t 103), some (100, true)⟩, o 105 (.pick (t 100) (t 104) (c (.bool false))), o 106 (.mov (t 105)), ⟨some 107, .load 6 true (t 5), some (106, true)⟩, ⟨some 108, .call false (c (.fn 23 [] [])) [(t 107)], some (106, true)⟩, ⟨some 109, .bin .eql (t 108) (c (.int .i64 0)), some (106, true)⟩, o 110 (.pick (t 106) (t 109) (c (.bool false))), o 4 (.mov (t 110))])
 .ret)))))))))))⟩
def c9 : Func :=
⟨3, 109, [.tmp 6],
 (.seq (.ops [o 3 (.box (t 0)), o 4 (.box (t 1)), o 5 (.box (t 2)), o 6 (.mov (c (.bool false)))])
 (.seq (.seq (.ops [o 19 (.load 6 true (t 3)), o 20 (.call false (c (.fn 23 [] [])) [(t 19)]), o 21 (.bin .neq (t 20) (c (.int .i64 0))), o 22 (.mov (t 21)), ⟨some 23, .load 6 true (t 4), some (22, false)⟩, ⟨some 24, .call false (c (.fn 23 [] [])) [(t 23)], some (22, false)⟩, ⟨some 25, .bin .neq (t 24) (c (.int .i64 0)), some (22, false)⟩, o 26 (.pick (t 22) (c (.bool true)) (t 25)), o 27 (.mov (t 26)), ⟨some 28, .load 6 true (t 5), some (27, false)⟩, ⟨some 29, .call false (c (.fn 23 [] [])) [(t 28)], some (27, false)⟩, ⟨some 30, .bin .neq (t 29) (c (.int .i64 0)), some (27, false)⟩, o 31 (.pick (t 27) (c (.bool true)) (t 30))])
 (.cond (t 31) (.seq (.ops [o 32 (.call false (c (.fn 14 [] [])) []), o 6 (.mov (t 32))])
 .ret) .skip))
 (.seq (.ops [o 34 (.load 6 true (t 3)), o 35 (.load 6 true (t 4)), o 36 (.call false (c (.fn 24 [] [])) [(t 34), (t 35)]), o 33 (.mov (t 36)), o 37 (.ext 0 (t 33)), o 38 (.ext 1 (t 33)), o 7 (.alloc [(.bool false), (.bool false), (.bool false), (.sl 1 true []), (.int .i64 0), (.int .i64 0)]), w (.store 6 (t 7) (t 37)), o 8 (.mov (t 38))])
 (.seq (.ops [o 40 (.load 6 true (t 4)), o 41 (.load 6 true (t 3)), o 42 (.call false (c (.fn 24 [] [])) [(t 40), (t 41)]), o 39 (.mov (t 42)), o 43 (.ext 0 (t 39)), o 44 (.ext 1 (t 39)), o 9 (.alloc [(.bool false), (.bool false), (.bool false), (.sl 1 true []), (.int .i64 0), (.int .i64 0)]), w (.store 6 (t 9) (t 43)), o 10 (.mov (t 44))])
 (.seq (.ops [o 46 (.load 6 true (t 3)), o 47 (.load 6 true (t 3)), o 48 (.call false (c (.fn 24 [] [])) [(t 46), (t 47)]), o 45 (.mov (t 48)), o 49 (.ext 0 (t 45)), o 50 (.ext 1 (t 45)), o 11 (.alloc [(.bool false), (.bool false), (.bool false), (.sl 1 true []), (.int .i64 0), (.int .i64 0)]), w (.store 6 (t 11) (t 49)), o 12 (.mov (t 50))])
 (.seq (.seq (.ops [o 51 (.mov (t 8)), o 52 (.mov (t 10)), o 53 (.bin .neq (t 51) (t 52)), o 54 (.mov (t 53)), ⟨some 55, .load 6 true (t 7), some (54, false)⟩, ⟨some 56, .load 6 true (t 9), some (54, false)⟩, ⟨some 57, .call false (c (.fn 21 [] [])) [(t 55), (t 56)], some (54, false)⟩, ⟨some 58, .un .not (t 57), some (54, false)⟩, o 59 (.pick (t 54) (c (.bool true)) (t 58)), o 60 (.mov (t 59)), ⟨some 61, .mov (t 12), some (60, false)⟩, ⟨some 62, .bin .neq (t 61) (c (.int .i64 0)), some (60, false)⟩, o 63 (.pick (t 60) (c (.bool true)) (t 62)), o 64 (.mov (t 63)), ⟨some 65, .load 6 true (t 11), some (64, false)⟩, ⟨some 66, .load 6 true (t 3), some (64, false)⟩, ⟨some 67, .call false (c (.fn 21 [] [])) [(t 65), (t 66)], some (64, false)⟩, ⟨some 68, .un .not (t 67), some (64, false)⟩, o 69 (.pick (t 64) (c (.bool true)) (t 68))])
 (.cond (t 69) (.seq (.ops [o 6 (.mov (c (.bool false)))])
 .ret) .skip))
 (.seq (.ops [o 71 (.load 6 true (t 4)), o 72 (.load 6 true (t 5)), o 73 (.call false (c (.fn 24 [] [])) [(t 71), (t 72)]), o 70 (.mov (t 73)), o 74 (.ext 0 (t 70)), o 75 (.ext 1 (t 70)), o 13 (.alloc [(.bool false), (.bool false), (.bool false), (.sl 1 true []), (.int .i64 0), (.int .i64 0)]), w (.store 6 (t 13) (t 74)), o 14 (.mov (t 75))])
 (.seq (.seq (.ops [o 76 (.mov (t 8)), o 77 (.bin .neq (t 76) (c (.int .i64 0))), o 78 (.mov (t 77)), ⟨some 79, .mov (t 14), some (78, false)⟩, ⟨some 80, .bin .neq (t 79) (c (.int .i64 0)), some (78, false)⟩, o 81 (.pick (t 78) (c (.bool true)) (t 80))])
 (.cond (t 81) (.seq (.ops [o 82 (.call false (c (.fn 14 [] [])) []), o 6 (.mov (t 82))])
 .ret) .skip))
 (.seq (.ops [o 84 (.load 6 true (t 7)), o 85 (.load 6 true (t 5)), o 86 (.call false (c (.fn 24 [] [])) [(t 84), (t 85)]), o 83 (.mov (t 86)), o 87 (.ext 0 (t 83)), o 88 (.ext 1 (t 83)), o 15 (.alloc [(.bool false), (.bool false), (.bool false), (.sl 1 true []), (.int .i64 0), (.int .i64 0)]), w (.store 6 (t 15) (t 87)), o 16 (.mov (t 88))])
 (.seq (.ops [o 90 (.load 6 true (t 3)), o 91 (.load 6 true (t 13)), o 92 (.call false (c (.fn 24 [] [])) [(t 90), (t 91)]), o 89 (.mov (t 92)), o 93 (.ext 0 (t 89)), o 94 (.ext 1 (t 89)), o 17 (.alloc [(.bool false), (.bool false), (.bool false), (.sl 1 true []), (.int .i64 0), (.int .i64 0)]), w (.store 6 (t 17) (t 93)), o 18 (.mov (t 94))])
 (.seq (.ops [o 95 (.call false (c (.fn 14 [] [])) []), o 96 (.mov (t 95)), ⟨some 97, .mov (t 16), some (96, true)⟩, ⟨some 98, .bin .neq (t 97) (c (.int .i64 0)), some (96, true)⟩, ⟨some 99, .mov (t 98), some (96, true)⟩, ⟨some 100, .mov (t 18), some (99, false)⟩, ⟨some 101, .bin .neq (t 100) (c (.int .i64 0)), some (99, false)⟩, ⟨some 102, .pick (t 99) (c (.bool true)) (t 101), some (96, true)⟩, ⟨some 103, .mov (t 102), some (96, true)⟩, ⟨some 104, .load 6 true (t 15), some (103, false)⟩, ⟨some 105, .load 6 true (t 17), some (103, false)⟩, ⟨some 106, .call false (c (.fn 21 [] [])) [(t 104), (t 105)], some (103, false)⟩, ⟨some 107, .pick (t 103) (c (.bool true)) (t 106), some (96, true)⟩, o 108 (.pick (t 96) (t 107) (c (.bool false))), o 6 (.mov (t 108))])
 .ret)))))))))))⟩
def c10 : Func :=
⟨3, 115, [.tmp 6],
 (.seq (.ops [o 3 (.box (t 0)), o 4 (.box (t 1)), o 6 (.mov (c (.bool false)))])
 (.seq (.ops [o 13 (.load 6 true (t 3)), o 14 (.load 6 true (t 4)), o 15 (.call false (c (.fn 24 [] [])) [(t 13), (t 14)]), o 12 (.mov (t 15)), o 16 (.ext 0 (t 12)), o 17 (.ext 1 (t 12)), o 7 (.alloc [(.bool false), (.bool false), (.bool false), (.sl 1 true []), (.int .i64 0), (.int .i64 0)]), w (.store 6 (t 7) (t 16)), o 8 (.mov (t 17))])
 (.seq (.seq (.ops [o 18 (.mov (t 8)), o 19 (.bin .neq (t 18) (c (.int .i64 0)))])
 (.cond (t 19) (.seq (.ops [o 20 (.call false (c (.fn 14 [] [])) []), o 21 (.mov (t 20)), ⟨some 22, .mov (t 8), some (21, true)⟩, ⟨some 23, .bin .eql (t 22) (c (.int .i64 3)), some (21, true)⟩, ⟨some 24, .mov (t 23), some (21, true)⟩, ⟨some 25, .load 6 true (t 3), some (24, false)⟩, ⟨some 26, .call false (c (.fn 23 [] [])) [(t 25)], some (24, false)⟩, ⟨some 27, .bin .neq (t 26) (c (.int .i64 0)), some (24, false)⟩, ⟨some 28, .pick (t 24) (c (.bool true)) (t 27), some (21, true)⟩, ⟨some 29, .mov (t 28), some (21, true)⟩, ⟨some 30, .load 6 true (t 4), some (29, false)⟩, ⟨some 31, .call false (c (.fn 23 [] [])) [(t 30)], some (29, false)⟩, ⟨some 32, .bin .neq (t 31) (c (.int .i64 0)), some (29, false)⟩, ⟨some 33, .pick (t 29) (c (.bool true)) (t 32), some (21, true)⟩, o 34 (.pick (t 21) (t 33) (c (.bool false))), o 6 (.mov (t 34))])
 .ret) .skip))
 (.seq (.ops [o 35 (.load 6 true (t 7)), o 36 (.mov (t 2)), o 37 (.call true (c (.fn 26 [] [])) [(t 35), (t 36)]), o 38 (.load 6 true (t 3)), o 39 (.mov (t 2)), o 40 (.call true (c (.fn 26 [] [])) [(t 38), (t 39)]), o 41 (.mov (t 40)), ⟨some 42, .load 6 true (t 4), some (41, true)⟩, ⟨some 43, .mov (t 2), some (41, true)⟩, ⟨some 44, .call true (c (.fn 26 [] [])) [(t 42), (t 43)], some (41, true)⟩, o 45 (.pick (t 41) (t 44) (c (.bool false))), o 46 (.eqb false (t 37) (t 45)), o 9 (.mov (t 46))])
 (.seq (.ops [o 47 (.mkSlF 1 9 (.str ⟨#[]⟩)), o 48 (.fAddrP 3 (t 3)), o 49 (.loadP 1 false (t 48)), o 50 (.appD 1 9 16 (t 47) (t 49)), o 51 (.fAddrP 3 (t 4)), o 52 (.loadP 1 false (t 51)), o 53 (.appD 1 9 16 (t 50) (t 52)), o 54 (.fAddrP 3 (t 7)), o 55 (.loadP 1 false (t 54)), o 56 (.appD 1 9 16 (t 53) (t 55)), o 10 (.mov (t 56))])
 (.seq (.seq (.ops [o 11 (.mov (c (.int .i64 0)))])
 (.block 0 (.loop (.seq (.seq (.ops [o 57 (.mov (t 11)), o 58 (.mov (t 10)), o 59 (.lenSl (t 58)), o 60 (.bin .lss (t 57) (t 59))])
 (.cond (t 60) .skip (.exit 0)))
 (.seq (.block 1 (.seq (.ops [o 63 (.load 6 true (t 7)), o 64 (.mov (t 10)), o 65 (.mov (t 11)), o 66 (.iAddrS 1 (t 64) (t 65)), o 67 (.load 1 false (t 66)), o 68 (.call true (c (.fn 26 [] [])) [(t 63), (t 67)]), o 69 (.load 6 true (t 3)), o 70 (.mov (t 10)), o 71 (.mov (t 11)), o 72 (.iAddrS 1 (t 70) (t 71)), o 73 (.load 1 false (t 72)), o 74 (.call true (c (.fn 26 [] [])) [(t 69), (t 73)]), o 75 (.mov (t 74)), ⟨some 76, .load 6 true (t 4), some (75, true)⟩, ⟨some 77, .mov (t 10), some (75, true)⟩, ⟨some 78, .mov (t 11), some (75, true)⟩, ⟨some 79, .iAddrS 1 (t 77) (t 78), some (75, true)⟩, ⟨some 80, .load 1 false (t 79), some (75, true)⟩, ⟨some 81, .call true (c (.fn 26 [] [])) [(t 76), (t 80)], some (75, true)⟩, o 82 (.pick (t 75) (t 81) (c (.bool false))), o 83 (.eqb true (t 68) (t 82))])
 (.cond (t 83) (.seq (.ops [o 6 (.mov (c (.bool false)))])
 .ret) .skip)))
 (.ops [o 61 (.mov (t 11)), o 62 (.bin .add (t 61) (c (.int .i64 1))), o 11 (.mov (t 62))]))))))
 (.seq (.ops [o 84 (.call false (c (.fn 14 [] [])) []), o 85 (.mov (t 84)), ⟨some 86, .mov (t 9), some (85, true)⟩, o 87 (.pick (t 85) (t 86) (c (.bool false))), o 88 (.mov (t 87)), ⟨some 89, .load 6 true (t 7), some (88, true)⟩, ⟨some 90, .call false (c (.fn 23 [] [])) [(t 89)], some (88, true)⟩, ⟨some 91, .bin .eql (t 90) (c (.int .i64 0)), some (88, true)⟩, o 92 (.pick (t 88) (t 91) (c (.bool false))), o 93 (.mov (t 92)), ⟨some 94, .fAddr 0 (t 7), some (93, true)⟩, ⟨some 95, .load 1 false (t 94), some (93, true)⟩, ⟨some 96, .fAddr 0 (t 3), some (93, true)⟩, ⟨some 97, .load 1 false (t 96), some (93, true)⟩, ⟨some 98, .mov (t 97), some (93, true)⟩, ⟨some 99, .fAddr 0 (t 4), some (98, true)⟩, ⟨some 100, .load 1 false (t 99), some (98, true)⟩, ⟨some 101, .pick (t 98) (t 100) (c (.bool false)), some (93, true)⟩, ⟨some 102, .eqb false (t 95) (t 101), some (93, true)⟩, o 103 (.pick (t 93) (t 102) (c (.bool false))), o 104 (.mov (t 103)), ⟨some 105, .load 6 true (t 7), some (104, true)⟩, ⟨some 106, .call false (c (.fn 27 [] [])) [(t 105)], some (104, true)⟩, ⟨some 107, .un .not (t 106), some (104, true)⟩, ⟨some 108, .mov (t 107), some (104, true)⟩, ⟨some 109, .fAddr 3 (t 7), some (108, false)⟩, ⟨some 110, .load 1 false (t 109), some (108, false)⟩, ⟨some 111, .lenSl (t 110), some (108, false)⟩, ⟨some 112, .bin .eql (t 111) (c (.int .i64 0)), some (108, false)⟩, ⟨some 113, .pick (t 108) (c (.bool true)) (t 112), some (104, true)⟩, o 114 (.pick (t 104) (t 113) (c (.bool false))), o 6 (.mov (t 114))])
 .ret)))))))⟩
def c11 : Func :=
⟨3, 44, [.tmp 6],
 (.seq (.ops [o 3 (.box (t 0)), o 4 (.box (t 1)), o 6 (.mov (c (.bool false)))])
 (.seq (.ops [o 10 (.load 6 true (t 3)), o 11 (.mov (t 2)), o 12 (.call false (c (.fn 28 [] [])) [(t 10), (t 11)]), o 7 (.mov (t 12))])
 (.seq (.ops [o 13 (.load 6 true (t 3)), o 14 (.call false (c (.fn 29 [] [])) [(t 13)]), o 8 (.mov (t 14))])
 (.seq (.ops [o 15 (.load 6 true (t 3)), o 16 (.load 6 true (t 4)), o 17 (.call false (c (.fn 21 [] [])) [(t 15), (t 16)]), o 9 (.mov (t 17))])
 (.seq (.ops [o 18 (.call false (c (.fn 14 [] [])) []), o 19 (.mov (t 18)), ⟨some 20, .load 6 true (t 3), some (19, true)⟩, ⟨some 21, .mov (t 2), some (19, true)⟩, ⟨some 22, .call false (c (.fn 26 [] [])) [(t 20), (t 21)], some (19, true)⟩, ⟨some 23, .mov (t 7), some (19, true)⟩, ⟨some 24, .eqb false (t 22) (t 23), some (19, true)⟩, o 25 (.pick (t 19) (t 24) (c (.bool false))), o 26 (.mov (t 25)), ⟨some 27, .load 6 true (t 3), some (26, true)⟩, ⟨some 28, .call false (c (.fn 27 [] [])) [(t 27)], some (26, true)⟩, ⟨some 29, .mov (t 8), some (26, true)⟩, ⟨some 30, .eqb false (t 28) (t 29), some (26, true)⟩, o 31 (.pick (t 26) (t 30) (c (.bool false))), o 32 (.mov (t 31)), ⟨some 33, .load 6 true (t 3), some (32, true)⟩, ⟨some 34, .load 6 true (t 4), some (32, true)⟩, ⟨some 35, .call false (c (.fn 30 [] [])) [(t 33), (t 34)], some (32, true)⟩, ⟨some 36, .mov (t 9), some (32, true)⟩, ⟨some 37, .eqb false (t 35) (t 36), some (32, true)⟩, o 38 (.pick (t 32) (t 37) (c (.bool false))), o 39 (.mov (t 38)), ⟨some 40, .load 6 true (t 3), some (39, true)⟩, ⟨some 41, .load 6 true (t 3), some (39, true)⟩, ⟨some 42, .call false (c (.fn 30 [] [])) [(t 40), (t 41)], some (39, true)⟩, o 43 (.pick (t 39) (t 42) (c (.bool false))), o 6 (.mov (t 43))])
 .ret)))))⟩
def c14 : Func :=
⟨0, 86, [.tmp 0],
 (.seq (.ops [o 0 (.mov (c (.bool false)))])
 (.seq (.ops [o 13 (.mkSl false 1 9 (.str ⟨#[]⟩) 2 [(0, (c (.str ⟨#[98]⟩))), (1, (c (.str ⟨#[97]⟩)))]), o 14 (.build [(.str ⟨#[]⟩), (.int .i64 0), (.sl 1 true []), (.int .i64 0)] [(0, 1, (c (.str ⟨#[122, 111, 110, 101]⟩))), (1, 1, (c (.int .i64 1))), (2, 1, (t 13))]), o 15 (.call false (c (.fn 12 [] [])) [(t 14)]), o 12 (.mov (t 15)), o 16 (.ext 0 (t 12)), o 17 (.ext 1 (t 12)), o 1 (.alloc [(.bool false), (.bool false), (.bool false), (.sl 1 true []), (.int .i64 0), (.int .i64 0)]), w (.store 6 (t 1) (t 16)), o 2 (.mov (t 17))])
 (.seq (.ops [o 19 (.build [(.str ⟨#[]⟩), (.int .i64 0), (.sl 1 true []), (.int .i64 0)] [(0, 1, (c (.str ⟨#[103, 101, 110]⟩))), (1, 1, (c (.int .i64 5))), (3, 1, (c (.int .i64 3)))]), o 20 (.call false (c (.fn 12 [] [])) [(t 19)]), o 18 (.mov (t 20)), o 21 (.ext 0 (t 18)), o 22 (.ext 1 (t 18)), o 3 (.alloc [(.bool false), (.bool false), (.bool false), (.sl 1 true []), (.int .i64 0), (.int .i64 0)]), w (.store 6 (t 3) (t 21)), o 4 (.mov (t 22))])
 (.seq (.ops [o 24 (.build [(.str ⟨#[]⟩), (.int .i64 0), (.sl 1 true []), (.int .i64 0)] [(0, 1, (c (.str ⟨#[103, 101, 110]⟩))), (1, 1, (c (.int .i64 6))), (3, 1, (c (.int .i64 6)))]), o 25 (.call false (c (.fn 12 [] [])) [(t 24)]), o 23 (.mov (t 25)), o 26 (.ext 0 (t 23)), o 27 (.ext 1 (t 23)), o 5 (.alloc [(.bool false), (.bool false), (.bool false), (.sl 1 true []), (.int .i64 0), (.int .i64 0)]), w (.store 6 (t 5) (t 26)), o 6 (.mov (t 27))])
 (.seq (.ops [o 29 (.load 6 true (t 3)), o 30 (.load 6 true (t 5)), o 31 (.call false (c (.fn 24 [] [])) [(t 29), (t 30)]), o 28 (.mov (t 31)), o 32 (.ext 0 (t 28)), o 33 (.ext 1 (t 28)), o 7 (.alloc [(.bool false), (.bool false), (.bool false), (.sl 1 true []), (.int .i64 0), (.int .i64 0)]), w (.store 6 (t 7) (t 32)), o 8 (.mov (t 33))])
 (.seq (.ops [o 35 (.build [(.str ⟨#[]⟩), (.int .i64 0), (.sl 1 true []), (.int .i64 0)] [(0, 1, (c (.str ⟨#[122, 111, 110, 101]⟩))), (1, 1, (c (.int .i64 1)))]), o 36 (.call false (c (.fn 12 [] [])) [(t 35)]), o 34 (.mov (t 36)), o 37 (.ext 0 (t 34)), o 38 (.ext 1 (t 34)), o 9 (.alloc [(.bool false), (.bool false), (.bool false), (.sl 1 true []), (.int .i64 0), (.int .i64 0)]), w (.store 6 (t 9) (t 37)), o 10 (.mov (t 38))])
 (.seq (.ops [o 39 (.mov (t 2)), o 40 (.bin .eql (t 39) (c (.int .i64 0))), o 41 (.mov (t 40)), ⟨some 42, .mov (t 4), some (41, true)⟩, ⟨some 43, .bin .eql (t 42) (c (.int .i64 0)), some (41, true)⟩, o 44 (.pick (t 41) (t 43) (c (.bool false))), o 45 (.mov (t 44)), ⟨some 46, .mov (t 6), some (45, true)⟩, ⟨some 47, .bin .eql (t 46) (c (.int .i64 0)), some (45, true)⟩, o 48 (.pick (t 45) (t 47) (c (.bool false))), o 49 (.mov (t 48)), ⟨some 50, .mov (t 8), some (49, true)⟩, ⟨some 51, .bin .eql (t 50) (c (.int .i64 0)), some (49, true)⟩, o 52 (.pick (t 49) (t 51) (c (.bool false))), o 53 (.mov (t 52)), ⟨some 54, .mov (t 10), some (53, true)⟩, ⟨some 55, .bin .eql (t 54) (c (.int .i64 30)), some (53, true)⟩, o 56 (.pick (t 53) (t 55) (c (.bool false))), o 11 (.mov (t 56))])
 (.seq (.ops [o 57 (.mov (t 11)), o 58 (.mov (t 57)), ⟨some 59, .load 6 true (t 1), some (58, true)⟩, ⟨some 60, .mkSl false 1 9 (.str ⟨#[]⟩) 2 [(0, (c (.str ⟨#[97]⟩))), (1, (c (.str ⟨#[98]⟩)))], some (58, true)⟩, ⟨some 61, .build [(.bool false), (.bool false), (.bool false), (.sl 1 true []), (.int .i64 0), (.int .i64 0)] [(3, 1, (t 60))], some (58, true)⟩, ⟨some 62, .call false (c (.fn 21 [] [])) [(t 59), (t 61)], some (58, true)⟩, o 63 (.pick (t 58) (t 62) (c (.bool false))), o 64 (.mov (t 63)), ⟨some 65, .load 6 true (t 7), some (64, true)⟩, ⟨some 66, .mkSl false 1 9 (.str ⟨#[]⟩) 2 [(0, (c (.str ⟨#[52]⟩))), (1, (c (.str ⟨#[53]⟩)))], some (64, true)⟩, ⟨some 67, .build [(.bool false), (.bool false), (.bool false), (.sl 1 true []), (.int .i64 0), (.int .i64 0)] [(3, 1, (t 66))], some (64, true)⟩, ⟨some 68, .call false (c (.fn 21 [] [])) [(t 65), (t 67)], some (64, true)⟩, o 69 (.pick (t 64) (t 68) (c (.bool false))), o 70 (.mov (t 69)), ⟨some 71, .load 6 true (t 3), some (70, true)⟩, ⟨some 72, .call false (c (.fn 26 [] [])) [(t 71), (c (.str ⟨#[52]⟩))], some (70, true)⟩, o 73 (.pick (t 70) (t 72) (c (.bool false))), o 74 (.mov (t 73)), ⟨some 75, .load 6 true (t 3), some (74, true)⟩, ⟨some 76, .call false (c (.fn 26 [] [])) [(t 75), (c (.str ⟨#[48, 52]⟩))], some (74, true)⟩, ⟨some 77, .un .not (t 76), some (74, true)⟩, o 78 (.pick (t 74) (t 77) (c (.bool false))), o 79 (.mov (t 78)), ⟨some 80, .call false (c (.fn 19 [] [])) [(c (.str ⟨#[120, 45, 49]⟩))], some (79, true)⟩, o 81 (.pick (t 79) (t 80) (c (.bool false))), o 82 (.mov (t 81)), ⟨some 83, .call false (c (.fn 18 [] [])) [(c (.str ⟨#[53]⟩))], some (82, true)⟩, ⟨some 84, .un .not (t 83), some (82, true)⟩, o 85 (.pick (t 82) (t 84) (c (.bool false))), o 0 (.mov (t 85))])
 .ret))))))))⟩
end Go.Proofs.AM
namespace Go.Proofs.AM
open Go Go.Lib Cd
theorem dec_len {n : Int} (h : FI n) : (decDigits n.natAbs).length ≤ 19 := by
  have := decDigits_le 18 n.natAbs (by have : (10 : Nat) ^ 19 = 10000000000000000000 := by decide
                                       unfold FI at h
                                       omega)
  omega
theorem tdiv10 (q : Int) : (0 ≤ q → q.tdiv 10 = q / 10) ∧ (q < 0 → q.tdiv 10 = -((-q) / 10)) := by
  refine ⟨fun h => Int.tdiv_eq_ediv_of_nonneg h, fun h => ?_⟩
  have h1 : (-q).tdiv 10 = (-q) / 10 := Int.tdiv_eq_ediv_of_nonneg (by omega)
  rw [Int.neg_tdiv] at h1
  omega
theorem tmod10 (q : Int) : (0 ≤ q → q.tmod 10 = q % 10) ∧ (q < 0 → q.tmod 10 = -((-q) % 10)) := by
  refine ⟨fun h => Int.tmod_eq_emod_of_nonneg h, fun h => ?_⟩
  have h1 : (-q).tmod 10 = (-q) % 10 := Int.tmod_eq_emod_of_nonneg (by omega)
  rw [Int.neg_tmod] at h1
  omega
theorem decimal37_ok (R : Ans) (n0 : Int) (hn0 : FI n0) : AnsF R c37 [.int .i64 n0] (mkS (itoa n0)) := by
  obtain ⟨r, hr⟩ : ∃ r, r = itoa n0 := ⟨_, rfl⟩
  rw [← hr]
  have hd := dec_len hn0
  unfold FI at hn0
  refine wpF_sound ⟨rfl, by decide⟩ fun O hO V hV => ?_
  conv => cbv
  refine loop_of (fun c d => ∃ (q : Int) (acc : Str), d = ⟨[(0, .int .i64 n0), (3, mkS acc), (4, .int .i64 q)], [], false⟩ ∧ (-9223372036854775808 ≤ q ∧ q ≤ 9223372036854775807) ∧ c = q.natAbs + 1 ∧ decDigits n0.natAbs = decDigits q.natAbs ++ acc) ⟨_, _, ⟨_, [], rfl, hn0, rfl, by simp⟩, ⟨⟨rfl, rfl, rfl, trivial⟩, trivial, rfl⟩⟩ ?_
  rintro J up c d ⟨q, acc, rfl, hq, rfl, hacc⟩
  have key : ∀ (e : Int), e = ((q.natAbs % 10 : Nat) : Int) → (∃ l : Str, strOf [.int .u8 (O .wrap .u8 (O .iop .add .i64 48 e))] = some l ∧ l = [UInt8.ofNat (48 + q.natAbs % 10)]) := by
    intro e he
    rw [o_add64 hO (by omega) (by omega), o_wrap hO, wrap_u8 (by omega) (by omega)]
    refine ⟨_, ?_, rfl⟩
    unfold strOf
    rw [if_pos (by omega)]
    simp only [strOf, Option.map_some]
    rw [show (48 + e).toNat = 48 + q.natAbs % 10 by omega]
  have hsl : acc.length ≤ 19 := by have := congrArg List.length hacc; simp at this; omega
  have hcat : O .cat ⟨[UInt8.ofNat (48 + q.natAbs % 10)].toArray⟩ ⟨⟨acc⟩⟩ = ⟨⟨UInt8.ofNat (48 + q.natAbs % 10) :: acc⟩⟩ := o_cat hO [_] acc
  have hlen1 : O .slen ⟨[UInt8.ofNat (48 + q.natAbs % 10)].toArray⟩ = 1 := o_slen hO [_]
  have hlen2 : O .slen ⟨⟨acc⟩⟩ = acc.length := o_slen hO acc
  obtain ⟨td1, td2⟩ := tdiv10 q
  obtain ⟨tm1, tm2⟩ := tmod10 q
  have hrem : O .iop .rem .i64 q 10 = q.tmod 10 := o_rem hO _ _ _ (by decide)
  have hquo : O .iop .quo .i64 q 10 = q.tdiv 10 := by
    rw [o_quo hO _ _ _ (by decide), wrap_i64 (by omega) (by omega)]
  have hneg : O .neg .neg .i64 (q.tmod 10) = - q.tmod 10 := by rw [o_neg hO, wrap_i64 (by omega) (by omega)]; omega
  have fin0 : q.tdiv 10 = 0 → UInt8.ofNat (48 + q.natAbs % 10) :: acc = decDigits n0.natAbs := by
    intro h
    rw [hacc, decDigits_small (by omega)]
    rw [show q.natAbs % 10 = q.natAbs by omega]
    rfl
  have fin1 : q.tdiv 10 ≠ 0 → decDigits n0.natAbs = decDigits (q.tdiv 10).natAbs ++ (UInt8.ofNat (48 + q.natAbs % 10) :: acc) := by
    intro h
    rw [hacc, decDigits_big (u := q.natAbs) (by omega)]
    rw [show (q.tdiv 10).natAbs = q.natAbs / 10 by omega]
    simp
  obtain ⟨ds, hds⟩ : ∃ ds : Str, ds = [UInt8.ofNat (48 + q.natAbs % 10)] := ⟨_, rfl⟩
  obtain ⟨acc', hacc'⟩ : ∃ acc' : Str, acc' = UInt8.ofNat (48 + q.natAbs % 10) :: acc := ⟨_, rfl⟩
  rw [← hacc'] at fin0 fin1 hcat
  have hl' : acc'.length ≤ 20 := by rw [hacc']; simp; omega
  rw [← hds] at hcat hlen1
  conv => cbv
  rw [hrem]
  have rest : ∀ e : Int, e = ((q.natAbs % 10 : Nat) : Int) → ∃ l : Str, strOf [.int .u8 (O .wrap .u8 (O .iop .add .i64 48 e))] = some l ∧ l = ds := by
    intro e he; obtain ⟨l, h1, h2⟩ := key e he; exact ⟨l, h1, by rw [h2, hds]⟩
  obtain ⟨e0, he0⟩ : ∃ e0 : Int, e0 = q.tmod 10 := ⟨_, rfl⟩
  rw [← he0] at hneg ⊢
  conv => cbv
  rintro (_ | _) h1
  · replace h1 := f_lss hO h1
    obtain ⟨l, hl1, rfl⟩ := rest e0 (by omega)
    conv => cbv
    intro g
    conv => cbv
    refine ⟨_, hl1, ?_⟩
    conv => cbv
    refine ⟨⟨by rw [hlen1, hlen2]; omega⟩, ?_⟩
    rw [hcat]
    conv => cbv
    rw [hquo]
    obtain ⟨q', hq'⟩ : ∃ q' : Int, q' = q.tdiv 10 := ⟨_, rfl⟩
    rw [← hq'] at fin0 fin1 ⊢
    conv => cbv
    rintro (_ | _) h2
    · replace h2 := f_eql hO h2
      conv => cbv
      exact ⟨_, _, up _ _ ⟨q', acc', rfl, by omega, rfl, fin1 h2⟩, ⟨⟨rfl, rfl, rfl, trivial⟩, trivial, rfl⟩, by omega⟩
    · replace h2 := t_eql hO h2
      have hf := fin0 h2
      conv => cbv
      rintro (_ | _) h3
      · replace h3 := f_lss hO h3
        conv => cbv
        rw [hr, hf, itoa_pos' h3]
      · replace h3 := t_lss hO h3
        have hc2 : O .cat ⟨#[45]⟩ ⟨⟨acc'⟩⟩ = ⟨⟨45 :: acc'⟩⟩ := o_cat hO [45] acc'
        have hl3 : O .slen ⟨#[45]⟩ = 1 := o_slen hO [45]
        have hl4 : O .slen ⟨⟨acc'⟩⟩ = acc'.length := o_slen hO acc'
        conv => cbv
        refine ⟨⟨by rw [hl3, hl4]; omega⟩, ?_⟩
        rw [hc2]
        conv => cbv
        rw [hr, hf, itoa_neg' h3]
  · replace h1 := t_lss hO h1
    conv => cbv
    rw [hneg]
    obtain ⟨e1, he1⟩ : ∃ e1 : Int, e1 = -e0 := ⟨_, rfl⟩
    rw [← he1]
    obtain ⟨l, hl1, rfl⟩ := rest e1 (by omega)
    conv => cbv
    intro g
    conv => cbv
    refine ⟨_, hl1, ?_⟩
    conv => cbv
    refine ⟨⟨by rw [hlen1, hlen2]; omega⟩, ?_⟩
    rw [hcat]
    conv => cbv
    rw [hquo]
    obtain ⟨q', hq'⟩ : ∃ q' : Int, q' = q.tdiv 10 := ⟨_, rfl⟩
    rw [← hq'] at fin0 fin1 ⊢
    conv => cbv
    rintro (_ | _) h2
    · replace h2 := f_eql hO h2
      conv => cbv
      exact ⟨_, _, up _ _ ⟨q', acc', rfl, by omega, rfl, fin1 h2⟩, ⟨⟨rfl, rfl, rfl, trivial⟩, trivial, rfl⟩, by omega⟩
    · replace h2 := t_eql hO h2
      have hf := fin0 h2
      conv => cbv
      rintro (_ | _) h3
      · replace h3 := f_lss hO h3
        conv => cbv
        rw [hr, hf, itoa_pos' h3]
      · replace h3 := t_lss hO h3
        have hc2 : O .cat ⟨#[45]⟩ ⟨⟨acc'⟩⟩ = ⟨⟨45 :: acc'⟩⟩ := o_cat hO [45] acc'
        have hl3 : O .slen ⟨#[45]⟩ = 1 := o_slen hO [45]
        have hl4 : O .slen ⟨⟨acc'⟩⟩ = acc'.length := o_slen hO acc'
        conv => cbv
        refine ⟨⟨by rw [hl3, hl4]; omega⟩, ?_⟩
        rw [hc2]
        conv => cbv
        rw [hr, hf, itoa_neg' h3]
end Go.Proofs.AM
