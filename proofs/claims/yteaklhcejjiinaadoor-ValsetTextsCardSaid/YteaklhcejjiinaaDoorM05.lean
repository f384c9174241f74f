/- Part 5 of the lemmas: PVc, VVf, VVg, VVn, PVg, VVy. -/
import Derived.Test.YteaklhcejjiinaaDoorM04
namespace Go.Proofs.AM
open Go Cd
def c12 : Func :=
⟨1, 51, [.cell 2 6 true, .tmp 3],
 (.seq (.ops [o 1 (.box (t 0)), o 2 (.alloc [(.bool false), (.bool false), (.bool false), (.sl 1 true []), (.int .i64 0), (.int .i64 0)]), o 3 (.mov (c (.int .i64 0)))])
 (.seq (.seq (.ops [o 6 (.load 4 true (t 1)), o 7 (.call false (c (.fn 31 [] [])) [(t 6)]), o 4 (.mov (t 7))])
 (.seq (.ops [o 8 (.mov (t 4)), o 9 (.bin .neq (t 8) (c (.int .i64 0)))])
 (.cond (t 9) (.seq (.ops [o 10 (.build [(.bool false), (.bool false), (.bool false), (.sl 1 true []), (.int .i64 0), (.int .i64 0)] []), o 11 (.mov (t 4)), w (.store 6 (t 2) (t 10)), o 3 (.mov (t 11))])
 .ret) .skip)))
 (.seq (.ops [o 12 (.fAddr 2 (t 1)), o 13 (.load 1 false (t 12)), o 14 (.mkSl false 1 22 (.sl 1 true []) 1 [(0, (t 13))]), o 15 (.call false (c (.fn 33 [] [])) [(t 14)]), o 16 (.call false (c (.fn 32 [] [])) [(t 15)]), o 17 (.build [(.bool false), (.bool false), (.bool false), (.sl 1 true []), (.int .i64 0), (.int .i64 0)] [(3, 1, (t 16))]), o 5 (.alloc [(.bool false), (.bool false), (.bool false), (.sl 1 true []), (.int .i64 0), (.int .i64 0)]), w (.store 6 (t 5) (t 17))])
 (.join (.seq (.ops [o 18 (.fAddr 1 (t 1)), o 19 (.load 1 false (t 18))])
 (.block 0 (.seq (.ops [o 21 (.bin .eql (t 19) (c (.int .i64 2))), o 20 (.mov (t 21))])
 (.cond (t 20) (.ops [o 22 (.fAddr 0 (t 5)), w (.store 1 (t 22) (c (.bool true))), o 23 (.fAddr 1 (t 5)), w (.store 1 (t 23) (c (.bool true)))]) (.seq (.ops [o 25 (.bin .eql (t 19) (c (.int .i64 3))), o 24 (.mov (t 25))])
 (.cond (t 24) (.ops [o 26 (.fAddr 1 (t 5)), w (.store 1 (t 26) (c (.bool true)))]) (.seq (.ops [o 28 (.bin .eql (t 19) (c (.int .i64 4))), o 27 (.mov (t 28))])
 (.cond (t 27) (.ops [o 29 (.fAddr 0 (t 5)), w (.store 1 (t 29) (c (.bool true)))]) (.seq (.ops [o 31 (.bin .eql (t 19) (c (.int .i64 5))), o 30 (.mov (t 31))])
 (.cond (t 30) (.ops [o 33 (.fAddr 3 (t 1)), o 34 (.load 1 false (t 33)), o 35 (.bin .add (t 34) (c (.int .i64 1))), o 36 (.call true (c (.fn 33 [] [])) [(c (.sl 1 true []))]), o 37 (.call true (c (.fn 34 [] [])) [(t 35), (c (.int .i64 2147483648)), (t 36)]), o 32 (.mov (t 37)), o 38 (.ext 0 (t 32)), o 39 (.ext 1 (t 32)), w (.store 6 (t 5) (t 38))]) (.seq (.ops [o 41 (.bin .eql (t 19) (c (.int .i64 6))), o 40 (.mov (t 41))])
 (.cond (t 40) (.ops [o 43 (.fAddr 3 (t 1)), o 44 (.load 1 false (t 43)), o 45 (.bin .sub (t 44) (c (.int .i64 1))), o 46 (.call true (c (.fn 33 [] [])) [(c (.sl 1 true []))]), o 47 (.call true (c (.fn 34 [] [])) [(c (.int .i64 (-2147483648))), (t 45), (t 46)]), o 42 (.mov (t 47)), o 48 (.ext 0 (t 42)), o 49 (.ext 1 (t 42)), w (.store 6 (t 5) (t 48))]) .skip))))))))))))
 (.seq (.ops [o 50 (.load 6 true (t 5)), w (.store 6 (t 2) (t 50)), o 3 (.mov (c (.int .i64 0)))])
 .ret)))))⟩
def c13 : Func :=
⟨1, 28, [.tmp 2, .tmp 3],
 (.seq (.ops [o 2 (.mov (c (.int .i64 0))), o 3 (.mov (c (.bool false)))])
 (.seq (.ops [o 7 (.mov (t 0)), o 8 (.call false (c (.fn 35 [] [])) [(t 7), (c (.int .i64 10)), (c (.int .i64 64))]), o 6 (.mov (t 8)), o 9 (.ext 0 (t 6)), o 10 (.ext 1 (t 6)), o 4 (.mov (t 9)), o 5 (.mov (t 10))])
 (.seq (.seq (.ops [o 11 (.mov (t 5)), o 12 (.eqn true (t 11) (c .nili)), o 13 (.mov (t 12)), ⟨some 14, .mov (t 4), some (13, false)⟩, ⟨some 15, .bin .lss (t 14) (c (.int .i64 (-2147483648))), some (13, false)⟩, o 16 (.pick (t 13) (c (.bool true)) (t 15)), o 17 (.mov (t 16)), ⟨some 18, .mov (t 4), some (17, false)⟩, ⟨some 19, .bin .gtr (t 18) (c (.int .i64 2147483648)), some (17, false)⟩, o 20 (.pick (t 17) (c (.bool true)) (t 19)), o 21 (.mov (t 20)), ⟨some 22, .mov (t 4), some (21, false)⟩, ⟨some 23, .call false (c (.fn 36 [] [])) [(t 22), (c (.int .i64 10))], some (21, false)⟩, ⟨some 24, .mov (t 0), some (21, false)⟩, ⟨some 25, .bin .neq (t 23) (t 24), some (21, false)⟩, o 26 (.pick (t 21) (c (.bool true)) (t 25))])
 (.cond (t 26) (.seq (.ops [o 2 (.mov (c (.int .i64 0))), o 3 (.mov (c (.bool false)))])
 .ret) .skip))
 (.seq (.ops [o 27 (.mov (t 4)), o 2 (.mov (t 27)), o 3 (.mov (c (.bool true)))])
 .ret))))⟩
def c15 : Func :=
⟨1, 58, [.tmp 2, .tmp 3],
 (.seq (.ops [o 2 (.mov (c (.int .i64 0))), o 3 (.mov (c (.bool false)))])
 (.seq (.seq (.ops [o 7 (.mov (t 0)), o 8 (.lenStr (t 7)), o 9 (.bin .gtr (t 8) (c (.int .i64 11)))])
 (.cond (t 9) (.seq (.ops [o 2 (.mov (c (.int .i64 0))), o 3 (.mov (c (.bool false)))])
 .ret) .skip))
 (.seq (.ops [o 4 (.mov (c (.int .i64 0)))])
 (.seq (.seq (.ops [o 5 (.mov (c (.int .i64 0)))])
 (.block 0 (.loop (.seq (.seq (.ops [o 10 (.mov (t 5)), o 11 (.mov (t 0)), o 12 (.lenStr (t 11)), o 13 (.bin .lss (t 10) (t 12))])
 (.cond (t 13) .skip (.exit 0)))
 (.seq (.block 1 (.seq (.ops [o 16 (.mov (t 0)), o 17 (.mov (t 5)), o 18 (.idxStr (t 16) (t 17)), o 19 (.bin .geq (t 18) (c (.int .u8 48))), o 20 (.mov (t 19)), ⟨some 21, .mov (t 0), some (20, true)⟩, ⟨some 22, .mov (t 5), some (20, true)⟩, ⟨some 23, .idxStr (t 21) (t 22), some (20, true)⟩, ⟨some 24, .bin .leq (t 23) (c (.int .u8 57)), some (20, true)⟩, o 25 (.pick (t 20) (t 24) (c (.bool false)))])
 (.cond (t 25) (.ops [o 26 (.mov (t 4)), o 27 (.bin .mul (t 26) (c (.int .i64 10))), o 28 (.mov (t 0)), o 29 (.mov (t 5)), o 30 (.idxStr (t 28) (t 29)), o 31 (.bin .sub (t 30) (c (.int .u8 48))), o 32 (.cvInt .i64 (t 31)), o 33 (.bin .add (t 27) (t 32)), o 4 (.mov (t 33))]) .skip)))
 (.ops [o 14 (.mov (t 5)), o 15 (.bin .add (t 14) (c (.int .i64 1))), o 5 (.mov (t 15))]))))))
 (.seq (.seq (.ops [o 34 (.mov (t 0)), o 35 (.lenStr (t 34)), o 36 (.bin .gtr (t 35) (c (.int .i64 0))), o 37 (.mov (t 36)), ⟨some 38, .mov (t 0), some (37, true)⟩, ⟨some 39, .idxStr (t 38) (c (.int .i64 0)), some (37, true)⟩, ⟨some 40, .bin .eql (t 39) (c (.int .u8 45)), some (37, true)⟩, o 41 (.pick (t 37) (t 40) (c (.bool false)))])
 (.cond (t 41) (.ops [o 42 (.mov (t 4)), o 43 (.un .neg (t 42)), o 4 (.mov (t 43))]) .skip))
 (.seq (.ops [o 44 (.mov (t 4)), o 45 (.call false (c (.fn 37 [] [])) [(t 44)]), o 6 (.mov (t 45))])
 (.seq (.seq (.ops [o 46 (.mov (t 6)), o 47 (.mov (t 0)), o 48 (.bin .neq (t 46) (t 47)), o 49 (.mov (t 48)), ⟨some 50, .mov (t 4), some (49, false)⟩, ⟨some 51, .bin .lss (t 50) (c (.int .i64 (-2147483648))), some (49, false)⟩, o 52 (.pick (t 49) (c (.bool true)) (t 51)), o 53 (.mov (t 52)), ⟨some 54, .mov (t 4), some (53, false)⟩, ⟨some 55, .bin .gtr (t 54) (c (.int .i64 2147483648)), some (53, false)⟩, o 56 (.pick (t 53) (c (.bool true)) (t 55))])
 (.cond (t 56) (.seq (.ops [o 2 (.mov (c (.int .i64 0))), o 3 (.mov (c (.bool false)))])
 .ret) .skip))
 (.seq (.ops [o 57 (.mov (t 4)), o 2 (.mov (t 57)), o 3 (.mov (c (.bool true)))])
 .ret))))))))⟩
def c16 : Func :=
⟨1, 54, [.tmp 2],
 (.seq (.ops [o 2 (.mov (c (.bool false)))])
 (.seq (.seq (.ops [o 5 (.mov (t 0)), o 6 (.lenStr (t 5)), o 7 (.bin .lss (t 6) (c (.int .i64 1))), o 8 (.mov (t 7)), ⟨some 9, .mov (t 0), some (8, false)⟩, ⟨some 10, .lenStr (t 9), some (8, false)⟩, ⟨some 11, .bin .gtr (t 10) (c (.int .i64 16)), some (8, false)⟩, o 12 (.pick (t 8) (c (.bool true)) (t 11)), o 13 (.mov (t 12)), ⟨some 14, .mov (t 0), some (13, false)⟩, ⟨some 15, .idxStr (t 14) (c (.int .i64 0)), some (13, false)⟩, ⟨some 16, .bin .lss (t 15) (c (.int .u8 97)), some (13, false)⟩, o 17 (.pick (t 13) (c (.bool true)) (t 16)), o 18 (.mov (t 17)), ⟨some 19, .mov (t 0), some (18, false)⟩, ⟨some 20, .idxStr (t 19) (c (.int .i64 0)), some (18, false)⟩, ⟨some 21, .bin .gtr (t 20) (c (.int .u8 122)), some (18, false)⟩, o 22 (.pick (t 18) (c (.bool true)) (t 21))])
 (.cond (t 22) (.seq (.ops [o 2 (.mov (c (.bool false)))])
 .ret) .skip))
 (.seq (.seq (.ops [o 3 (.mov (c (.int .i64 0)))])
 (.block 0 (.loop (.seq (.seq (.ops [o 23 (.mov (t 3)), o 24 (.mov (t 0)), o 25 (.lenStr (t 24)), o 26 (.bin .lss (t 23) (t 25))])
 (.cond (t 26) .skip (.exit 0)))
 (.seq (.block 1 (.seq (.ops [o 29 (.mov (t 0)), o 30 (.mov (t 3)), o 31 (.idxStr (t 29) (t 30)), o 4 (.mov (t 31))])
 (.seq (.ops [o 32 (.mov (t 4)), o 33 (.bin .lss (t 32) (c (.int .u8 97))), o 34 (.mov (t 33)), ⟨some 35, .mov (t 4), some (34, false)⟩, ⟨some 36, .bin .gtr (t 35) (c (.int .u8 122)), some (34, false)⟩, o 37 (.pick (t 34) (c (.bool true)) (t 36)), o 38 (.mov (t 37)), ⟨some 39, .mov (t 4), some (38, true)⟩, ⟨some 40, .bin .lss (t 39) (c (.int .u8 48)), some (38, true)⟩, ⟨some 41, .mov (t 40), some (38, true)⟩, ⟨some 42, .mov (t 4), some (41, false)⟩, ⟨some 43, .bin .gtr (t 42) (c (.int .u8 57)), some (41, false)⟩, ⟨some 44, .pick (t 41) (c (.bool true)) (t 43), some (38, true)⟩, o 45 (.pick (t 38) (t 44) (c (.bool false))), o 46 (.mov (t 45)), ⟨some 47, .mov (t 4), some (46, true)⟩, ⟨some 48, .bin .neq (t 47) (c (.int .u8 46)), some (46, true)⟩, o 49 (.pick (t 46) (t 48) (c (.bool false))), o 50 (.mov (t 49)), ⟨some 51, .mov (t 4), some (50, true)⟩, ⟨some 52, .bin .neq (t 51) (c (.int .u8 45)), some (50, true)⟩, o 53 (.pick (t 50) (t 52) (c (.bool false)))])
 (.cond (t 53) (.seq (.ops [o 2 (.mov (c (.bool false)))])
 .ret) .skip))))
 (.ops [o 27 (.mov (t 3)), o 28 (.bin .add (t 27) (c (.int .i64 1))), o 3 (.mov (t 28))]))))))
 (.seq (.ops [o 2 (.mov (c (.bool true)))])
 .ret))))⟩
def c17 : Func :=
⟨1, 17, [.tmp 2],
 (.seq (.ops [o 2 (.mov (c (.bool false)))])
 (.seq (.ops [o 6 (.mov (t 0)), o 7 (.call false (c (.fn 16 [] [])) [(t 6)]), o 3 (.mov (t 7))])
 (.seq (.ops [o 9 (.mov (t 0)), o 10 (.call false (c (.fn 15 [] [])) [(t 9)]), o 8 (.mov (t 10)), o 11 (.ext 0 (t 8)), o 12 (.ext 1 (t 8)), o 4 (.mov (t 11)), o 5 (.mov (t 12))])
 (.seq (.ops [o 13 (.mov (t 3)), o 14 (.mov (t 13)), ⟨some 15, .mov (t 5), some (14, false)⟩, o 16 (.pick (t 14) (c (.bool true)) (t 15)), o 2 (.mov (t 16))])
 .ret))))⟩
def c18 : Func :=
⟨1, 50, [.tmp 2],
 (.seq (.ops [o 2 (.mov (c (.bool false)))])
 (.seq (.seq (.ops [o 6 (.mov (t 0)), o 7 (.cvSB (t 6)), o 8 (.lenSl (t 7)), o 9 (.mov (c (.int .i64 0)))])
 (.block 0 (.loop (.seq (.ops [o 10 (.bin .lss (t 9) (t 8))])
 (.seq (.cond (t 10) .skip (.exit 0))
 (.seq (.block 1 (.seq (.ops [o 11 (.mov (t 9)), o 12 (.iAddrS 1 (t 7) (t 9)), o 13 (.load 1 false (t 12)), o 3 (.mov (t 11)), o 4 (.mov (t 13))])
 (.seq (.ops [o 14 (.mov (t 4)), o 15 (.bin .geq (t 14) (c (.int .u8 97))), o 16 (.mov (t 15)), ⟨some 17, .mov (t 4), some (16, true)⟩, ⟨some 18, .bin .leq (t 17) (c (.int .u8 122)), some (16, true)⟩, o 19 (.pick (t 16) (t 18) (c (.bool false))), o 5 (.mov (t 19))])
 (.seq (.ops [o 20 (.mov (t 5)), o 21 (.un .not (t 20)), o 22 (.mov (t 21)), ⟨some 23, .mov (t 3), some (22, true)⟩, ⟨some 24, .bin .eql (t 23) (c (.int .i64 0)), some (22, true)⟩, ⟨some 25, .mov (t 24), some (22, true)⟩, ⟨some 26, .mov (t 4), some (25, false)⟩, ⟨some 27, .bin .neq (t 26) (c (.int .u8 46)), some (25, false)⟩, ⟨some 28, .mov (t 27), some (25, false)⟩, ⟨some 29, .mov (t 4), some (28, true)⟩, ⟨some 30, .bin .neq (t 29) (c (.int .u8 45)), some (28, true)⟩, ⟨some 31, .pick (t 28) (t 30) (c (.bool false)), some (25, false)⟩, ⟨some 32, .mov (t 31), some (25, false)⟩, ⟨some 33, .mov (t 4), some (32, true)⟩, ⟨some 34, .bin .lss (t 33) (c (.int .u8 48)), some (32, true)⟩, ⟨some 35, .mov (t 34), some (32, true)⟩, ⟨some 36, .mov (t 4), some (35, false)⟩, ⟨some 37, .bin .gtr (t 36) (c (.int .u8 57)), some (35, false)⟩, ⟨some 38, .pick (t 35) (c (.bool true)) (t 37), some (32, true)⟩, ⟨some 39, .pick (t 32) (t 38) (c (.bool false)), some (25, false)⟩, ⟨some 40, .pick (t 25) (c (.bool true)) (t 39), some (22, true)⟩, o 41 (.pick (t 22) (t 40) (c (.bool false)))])
 (.cond (t 41) (.seq (.ops [o 2 (.mov (c (.bool false)))])
 .ret) .skip)))))
 (.ops [o 42 (.bin .add (t 9) (c (.int .i64 1))), o 9 (.mov (t 42))])))))))
 (.seq (.ops [o 43 (.mov (t 0)), o 44 (.bin .neq (t 43) (c (.str ⟨#[]⟩))), o 45 (.mov (t 44)), ⟨some 46, .mov (t 0), some (45, true)⟩, ⟨some 47, .lenStr (t 46), some (45, true)⟩, ⟨some 48, .bin .leq (t 47) (c (.int .i64 16)), some (45, true)⟩, o 49 (.pick (t 45) (t 48) (c (.bool false))), o 2 (.mov (t 49))])
 .ret)))⟩
def c19 : Func :=
⟨1, 15, [.tmp 2],
 (.seq (.ops [o 2 (.mov (c (.bool false)))])
 (.seq (.ops [o 6 (.mov (t 0)), o 7 (.call false (c (.fn 13 [] [])) [(t 6)]), o 5 (.mov (t 7)), o 8 (.ext 0 (t 5)), o 9 (.ext 1 (t 5)), o 3 (.mov (t 8)), o 4 (.mov (t 9))])
 (.seq (.ops [o 10 (.mov (t 4)), o 11 (.mov (t 10)), ⟨some 12, .mov (t 0), some (11, false)⟩, ⟨some 13, .call false (c (.fn 18 [] [])) [(t 12)], some (11, false)⟩, o 14 (.pick (t 11) (c (.bool true)) (t 13)), o 2 (.mov (t 14))])
 .ret)))⟩
def c20 : Func :=
⟨1, 53, [.cell 2 6 true, .tmp 3],
 (.seq (.ops [o 1 (.box (t 0)), o 2 (.alloc [(.bool false), (.bool false), (.bool false), (.sl 1 true []), (.int .i64 0), (.int .i64 0)]), o 3 (.mov (c (.int .i64 0)))])
 (.seq (.ops [o 9 (.load 4 true (t 1)), o 10 (.call false (c (.fn 38 [] [])) [(t 9)]), o 4 (.mov (t 10))])
 (.seq (.seq (.ops [o 11 (.mov (t 4)), o 12 (.bin .neq (t 11) (c (.int .i64 0)))])
 (.cond (t 12) (.seq (.ops [o 13 (.build [(.bool false), (.bool false), (.bool false), (.sl 1 true []), (.int .i64 0), (.int .i64 0)] []), o 14 (.mov (t 4)), w (.store 6 (t 2) (t 13)), o 3 (.mov (t 14))])
 .ret) .skip))
 (.seq (.seq (.ops [o 15 (.fAddr 1 (t 1)), o 16 (.load 1 false (t 15))])
 (.block 0 (.seq (.ops [o 18 (.bin .eql (t 16) (c (.int .i64 1))), o 17 (.mov (t 18))])
 (.cond (t 17) (.seq (.ops [o 19 (.fAddr 2 (t 1)), o 20 (.load 1 false (t 19)), o 21 (.call false (c (.fn 39 [] [])) [(t 20)]), o 22 (.build [(.bool false), (.bool false), (.bool false), (.sl 1 true []), (.int .i64 0), (.int .i64 0)] [(3, 1, (t 21))]), w (.store 6 (t 2) (t 22)), o 3 (.mov (c (.int .i64 0)))])
 .ret) (.seq (.ops [o 24 (.bin .eql (t 16) (c (.int .i64 2))), o 23 (.mov (t 24))])
 (.cond (t 23) (.seq (.ops [o 25 (.fAddr 2 (t 1)), o 26 (.load 1 false (t 25)), o 27 (.call false (c (.fn 39 [] [])) [(t 26)]), o 28 (.build [(.bool false), (.bool false), (.bool false), (.sl 1 true []), (.int .i64 0), (.int .i64 0)] [(0, 1, (c (.bool true))), (1, 1, (c (.bool true))), (3, 1, (t 27))]), w (.store 6 (t 2) (t 28)), o 3 (.mov (c (.int .i64 0)))])
 .ret) (.seq (.ops [o 30 (.bin .eql (t 16) (c (.int .i64 3))), o 29 (.mov (t 30))])
 (.cond (t 29) (.seq (.ops [o 31 (.build [(.bool false), (.bool false), (.bool false), (.sl 1 true []), (.int .i64 0), (.int .i64 0)] [(1, 1, (c (.bool true)))]), w (.store 6 (t 2) (t 31)), o 3 (.mov (c (.int .i64 0)))])
 .ret) (.seq (.ops [o 33 (.bin .eql (t 16) (c (.int .i64 4))), o 32 (.mov (t 33))])
 (.cond (t 32) (.seq (.ops [o 34 (.build [(.bool false), (.bool false), (.bool false), (.sl 1 true []), (.int .i64 0), (.int .i64 0)] [(0, 1, (c (.bool true)))]), w (.store 6 (t 2) (t 34)), o 3 (.mov (c (.int .i64 0)))])
 .ret) (.seq (.ops [o 36 (.bin .eql (t 16) (c (.int .i64 5))), o 35 (.mov (t 36))])
 (.cond (t 35) (.seq (.ops [o 38 (.fAddr 3 (t 1)), o 39 (.load 1 false (t 38)), o 40 (.bin .add (t 39) (c (.int .i64 1))), o 41 (.call false (c (.fn 40 [] [])) [(t 40), (c (.int .i64 2147483648)), (c (.sl 1 true []))]), o 37 (.mov (t 41)), o 42 (.ext 0 (t 37)), o 43 (.ext 1 (t 37)), o 5 (.alloc [(.bool false), (.bool false), (.bool false), (.sl 1 true []), (.int .i64 0), (.int .i64 0)]), w (.store 6 (t 5) (t 42)), o 6 (.mov (t 43))])
 (.seq (.ops [o 44 (.load 6 true (t 5)), w (.store 6 (t 2) (t 44)), o 3 (.mov (c (.int .i64 0)))])
 .ret)) .skip))))))))))))
 (.seq (.ops [o 46 (.fAddr 3 (t 1)), o 47 (.load 1 false (t 46)), o 48 (.bin .sub (t 47) (c (.int .i64 1))), o 49 (.call false (c (.fn 40 [] [])) [(c (.int .i64 (-2147483648))), (t 48), (c (.sl 1 true []))]), o 45 (.mov (t 49)), o 50 (.ext 0 (t 45)), o 51 (.ext 1 (t 45)), o 7 (.alloc [(.bool false), (.bool false), (.bool false), (.sl 1 true []), (.int .i64 0), (.int .i64 0)]), w (.store 6 (t 7) (t 50)), o 8 (.mov (t 51))])
 (.seq (.ops [o 52 (.load 6 true (t 7)), w (.store 6 (t 2) (t 52)), o 3 (.mov (c (.int .i64 0)))])
 .ret))))))⟩
def c21 : Func :=
⟨2, 8, [.tmp 4],
 (.seq (.ops [o 2 (.box (t 0)), o 3 (.box (t 1)), o 4 (.mov (c (.bool false)))])
 (.seq (.ops [o 5 (.load 6 true (t 2)), o 6 (.load 6 true (t 3)), o 7 (.call false (c (.fn 41 [] [])) [(t 5), (t 6)]), o 4 (.mov (t 7))])
 .ret))⟩
def c22 : Func :=
⟨1, 97, [.tmp 2],
 (.seq (.ops [o 1 (.box (t 0)), o 2 (.mov (c (.int .i64 0)))])
 (.seq (.ops [o 7 (.fAddr 3 (t 1)), o 8 (.load 1 false (t 7)), o 9 (.call false (c (.fn 42 [] [])) [(t 8)]), o 3 (.mov (t 9))])
 (.seq (.seq (.ops [o 10 (.mov (t 3)), o 11 (.un .not (t 10)), o 12 (.mov (t 11)), ⟨some 13, .fAddr 2 (t 1), some (12, false)⟩, ⟨some 14, .load 1 false (t 13), some (12, false)⟩, ⟨some 15, .mov (t 14), some (12, false)⟩, ⟨some 16, .fAddr 1 (t 1), some (15, true)⟩, ⟨some 17, .load 1 false (t 16), some (15, true)⟩, ⟨some 18, .un .not (t 17), some (15, true)⟩, ⟨some 19, .pick (t 15) (t 18) (c (.bool false)), some (12, false)⟩, o 20 (.pick (t 12) (c (.bool true)) (t 19)), o 21 (.mov (t 20)), ⟨some 22, .fAddr 2 (t 1), some (21, false)⟩, ⟨some 23, .load 1 false (t 22), some (21, false)⟩, ⟨some 24, .un .not (t 23), some (21, false)⟩, ⟨some 25, .mov (t 24), some (21, false)⟩, ⟨some 26, .fAddr 4 (t 1), some (25, true)⟩, ⟨some 27, .load 1 false (t 26), some (25, true)⟩, ⟨some 28, .bin .neq (t 27) (c (.int .i64 0)), some (25, true)⟩, ⟨some 29, .mov (t 28), some (25, true)⟩, ⟨some 30, .fAddr 5 (t 1), some (29, false)⟩, ⟨some 31, .load 1 false (t 30), some (29, false)⟩, ⟨some 32, .bin .neq (t 31) (c (.int .i64 0)), some (29, false)⟩, ⟨some 33, .pick (t 29) (c (.bool true)) (t 32), some (25, true)⟩, ⟨some 34, .pick (t 25) (t 33) (c (.bool false)), some (21, false)⟩, o 35 (.pick (t 21) (c (.bool true)) (t 34))])
 (.cond (t 35) (.seq (.ops [o 2 (.mov (c (.int .i64 1)))])
 .ret) .skip))
 (.seq (.seq (.ops [o 36 (.fAddr 2 (t 1)), o 37 (.load 1 false (t 36)), o 38 (.un .not (t 37))])
 (.cond (t 38) (.seq (.ops [o 2 (.mov (c (.int .i64 0)))])
 .ret) .skip))
 (.seq (.seq (.ops [o 39 (.fAddr 4 (t 1)), o 40 (.load 1 false (t 39)), o 41 (.bin .lss (t 40) (c (.int .i64 (-2147483648)))), o 42 (.mov (t 41)), ⟨some 43, .fAddr 5 (t 1), some (42, false)⟩, ⟨some 44, .load 1 false (t 43), some (42, false)⟩, ⟨some 45, .bin .gtr (t 44) (c (.int .i64 2147483648)), some (42, false)⟩, o 46 (.pick (t 42) (c (.bool true)) (t 45)), o 47 (.mov (t 46)), ⟨some 48, .fAddr 4 (t 1), some (47, false)⟩, ⟨some 49, .load 1 false (t 48), some (47, false)⟩, ⟨some 50, .fAddr 5 (t 1), some (47, false)⟩, ⟨some 51, .load 1 false (t 50), some (47, false)⟩, ⟨some 52, .bin .gtr (t 49) (t 51), some (47, false)⟩, o 53 (.pick (t 47) (c (.bool true)) (t 52)), o 54 (.mov (t 53)), ⟨some 55, .fAddr 5 (t 1), some (54, false)⟩, ⟨some 56, .load 1 false (t 55), some (54, false)⟩, ⟨some 57, .fAddr 4 (t 1), some (54, false)⟩, ⟨some 58, .load 1 false (t 57), some (54, false)⟩, ⟨some 59, .bin .sub (t 56) (t 58), some (54, false)⟩, ⟨some 60, .bin .add (t 59) (c (.int .i64 1)), some (54, false)⟩, ⟨some 61, .fAddr 3 (t 1), some (54, false)⟩, ⟨some 62, .load 1 false (t 61), some (54, false)⟩, ⟨some 63, .lenSl (t 62), some (54, false)⟩, ⟨some 64, .bin .sub (t 60) (t 63), some (54, false)⟩, ⟨some 65, .bin .leq (t 64) (c (.int .i64 64)), some (54, false)⟩, o 66 (.pick (t 54) (c (.bool true)) (t 65))])
 (.cond (t 66) (.seq (.ops [o 2 (.mov (c (.int .i64 1)))])
 .ret) .skip))
 (.seq (.seq (.ops [o 4 (.mov (c (.int .i64 0)))])
 (.block 0 (.loop (.seq (.seq (.ops [o 67 (.mov (t 4)), o 68 (.fAddr 3 (t 1)), o 69 (.load 1 false (t 68)), o 70 (.lenSl (t 69)), o 71 (.bin .lss (t 67) (t 70))])
 (.cond (t 71) .skip (.exit 0)))
 (.seq (.block 1 (.seq (.ops [o 75 (.fAddr 3 (t 1)), o 76 (.load 1 false (t 75)), o 77 (.mov (t 4)), o 78 (.iAddrS 1 (t 76) (t 77)), o 79 (.load 1 false (t 78)), o 80 (.call false (c (.fn 15 [] [])) [(t 79)]), o 74 (.mov (t 80)), o 81 (.ext 0 (t 74)), o 82 (.ext 1 (t 74)), o 5 (.mov (t 81)), o 6 (.mov (t 82))])
 (.seq (.ops [o 83 (.mov (t 6)), o 84 (.un .not (t 83)), o 85 (.mov (t 84)), ⟨some 86, .mov (t 5), some (85, false)⟩, ⟨some 87, .fAddr 4 (t 1), some (85, false)⟩, ⟨some 88, .load 1 false (t 87), some (85, false)⟩, ⟨some 89, .bin .leq (t 86) (t 88), some (85, false)⟩, o 90 (.pick (t 85) (c (.bool true)) (t 89)), o 91 (.mov (t 90)), ⟨some 92, .mov (t 5), some (91, false)⟩, ⟨some 93, .fAddr 5 (t 1), some (91, false)⟩, ⟨some 94, .load 1 false (t 93), some (91, false)⟩, ⟨some 95, .bin .geq (t 92) (t 94), some (91, false)⟩, o 96 (.pick (t 91) (c (.bool true)) (t 95))])
 (.cond (t 96) (.seq (.ops [o 2 (.mov (c (.int .i64 1)))])
 .ret) .skip))))
 (.ops [o 72 (.mov (t 4)), o 73 (.bin .add (t 72) (c (.int .i64 1))), o 4 (.mov (t 73))]))))))
 (.seq (.ops [o 2 (.mov (c (.int .i64 0)))])
 .ret)))))))⟩
def c23 : Func :=
⟨1, 125, [.tmp 2],
 (.seq (.ops [o 1 (.box (t 0)), o 2 (.mov (c (.int .i64 0)))])
 (.join (.ops [o 8 (.fAddr 3 (t 1)), o 9 (.load 1 false (t 8)), o 10 (.lenSl (t 9)), o 11 (.bin .gtr (t 10) (c (.int .i64 64))), o 12 (.mov (t 11)), ⟨some 13, .fAddr 2 (t 1), some (12, false)⟩, ⟨some 14, .load 1 false (t 13), some (12, false)⟩, ⟨some 15, .mov (t 14), some (12, false)⟩, ⟨some 16, .fAddr 1 (t 1), some (15, true)⟩, ⟨some 17, .load 1 false (t 16), some (15, true)⟩, ⟨some 18, .un .not (t 17), some (15, true)⟩, ⟨some 19, .pick (t 15) (t 18) (c (.bool false)), some (12, false)⟩, o 20 (.pick (t 12) (c (.bool true)) (t 19)), o 21 (.mov (t 20)), ⟨some 22, .fAddr 2 (t 1), some (21, false)⟩, ⟨some 23, .load 1 false (t 22), some (21, false)⟩, ⟨some 24, .un .not (t 23), some (21, false)⟩, ⟨some 25, .mov (t 24), some (21, false)⟩, ⟨some 26, .fAddr 4 (t 1), some (25, true)⟩, ⟨some 27, .load 1 false (t 26), some (25, true)⟩, ⟨some 28, .bin .neq (t 27) (c (.int .i64 0)), some (25, true)⟩, ⟨some 29, .mov (t 28), some (25, true)⟩, ⟨some 30, .fAddr 5 (t 1), some (29, false)⟩, ⟨some 31, .load 1 false (t 30), some (29, false)⟩, ⟨some 32, .bin .neq (t 31) (c (.int .i64 0)), some (29, false)⟩, ⟨some 33, .pick (t 29) (c (.bool true)) (t 32), some (25, true)⟩, ⟨some 34, .pick (t 25) (t 33) (c (.bool false)), some (21, false)⟩, o 35 (.pick (t 21) (c (.bool true)) (t 34)), o 3 (.mov (t 35))])
 (.seq (.seq (.ops [o 36 (.fAddr 3 (t 1)), o 37 (.load 1 false (t 36)), o 38 (.lenSl (t 37)), o 39 (.mov (c (.int .i64 0)))])
 (.block 0 (.loop (.seq (.ops [o 40 (.bin .lss (t 39) (t 38))])
 (.seq (.cond (t 40) .skip (.exit 0))
 (.seq (.block 1 (.seq (.ops [o 41 (.mov (t 39)), o 42 (.iAddrS 1 (t 37) (t 39)), o 43 (.load 1 false (t 42)), o 4 (.mov (t 41)), o 5 (.mov (t 43))])
 (.join (.ops [o 44 (.mov (t 3)), o 45 (.mov (t 44)), ⟨some 46, .mov (t 5), some (45, false)⟩, ⟨some 47, .call false (c (.fn 19 [] [])) [(t 46)], some (45, false)⟩, ⟨some 48, .un .not (t 47), some (45, false)⟩, o 49 (.pick (t 45) (c (.bool true)) (t 48)), o 50 (.mov (t 49)), ⟨some 51, .mov (t 4), some (50, false)⟩, ⟨some 52, .bin .gtr (t 51) (c (.int .i64 0)), some (50, false)⟩, ⟨some 53, .mov (t 52), some (50, false)⟩, ⟨some 54, .fAddr 3 (t 1), some (53, true)⟩, ⟨some 55, .load 1 false (t 54), some (53, true)⟩, ⟨some 56, .mov (t 4), some (53, true)⟩, ⟨some 57, .bin .sub (t 56) (c (.int .i64 1)), some (53, true)⟩, ⟨some 58, .iAddrS 1 (t 55) (t 57), some (53, true)⟩, ⟨some 59, .load 1 false (t 58), some (53, true)⟩, ⟨some 60, .mov (t 5), some (53, true)⟩, ⟨some 61, .bin .geq (t 59) (t 60), some (53, true)⟩, ⟨some 62, .pick (t 53) (t 61) (c (.bool false)), some (50, false)⟩, o 63 (.pick (t 50) (c (.bool true)) (t 62)), o 3 (.mov (t 63))])
 (.seq (.ops [o 64 (.fAddr 2 (t 1)), o 65 (.load 1 false (t 64)), o 66 (.mov (t 65)), ⟨some 67, .mov (t 3), some (66, true)⟩, ⟨some 68, .un .not (t 67), some (66, true)⟩, o 69 (.pick (t 66) (t 68) (c (.bool false)))])
 (.cond (t 69) (.seq (.ops [o 71 (.mov (t 5)), o 72 (.call false (c (.fn 13 [] [])) [(t 71)]), o 70 (.mov (t 72)), o 73 (.ext 0 (t 70)), o 74 (.ext 1 (t 70)), o 6 (.mov (t 73)), o 7 (.mov (t 74))])
 (.ops [o 75 (.mov (t 7)), o 76 (.un .not (t 75)), o 77 (.mov (t 76)), ⟨some 78, .mov (t 6), some (77, false)⟩, ⟨some 79, .fAddr 4 (t 1), some (77, false)⟩, ⟨some 80, .load 1 false (t 79), some (77, false)⟩, ⟨some 81, .bin .leq (t 78) (t 80), some (77, false)⟩, o 82 (.pick (t 77) (c (.bool true)) (t 81)), o 83 (.mov (t 82)), ⟨some 84, .mov (t 6), some (83, false)⟩, ⟨some 85, .fAddr 5 (t 1), some (83, false)⟩, ⟨some 86, .load 1 false (t 85), some (83, false)⟩, ⟨some 87, .bin .geq (t 84) (t 86), some (83, false)⟩, o 88 (.pick (t 83) (c (.bool true)) (t 87)), o 3 (.mov (t 88))])) .skip)))))
 (.ops [o 89 (.bin .add (t 39) (c (.int .i64 1))), o 39 (.mov (t 89))])))))))
 (.join (.seq (.ops [o 90 (.fAddr 2 (t 1)), o 91 (.load 1 false (t 90)), o 92 (.mov (t 91)), ⟨some 93, .mov (t 3), some (92, true)⟩, ⟨some 94, .un .not (t 93), some (92, true)⟩, o 95 (.pick (t 92) (t 94) (c (.bool false)))])
 (.cond (t 95) (.ops [o 96 (.fAddr 4 (t 1)), o 97 (.load 1 false (t 96)), o 98 (.bin .lss (t 97) (c (.int .i64 (-2147483648)))), o 99 (.mov (t 98)), ⟨some 100, .fAddr 5 (t 1), some (99, false)⟩, ⟨some 101, .load 1 false (t 100), some (99, false)⟩, ⟨some 102, .bin .gtr (t 101) (c (.int .i64 2147483648)), some (99, false)⟩, o 103 (.pick (t 99) (c (.bool true)) (t 102)), o 104 (.mov (t 103)), ⟨some 105, .fAddr 4 (t 1), some (104, false)⟩, ⟨some 106, .load 1 false (t 105), some (104, false)⟩, ⟨some 107, .fAddr 5 (t 1), some (104, false)⟩, ⟨some 108, .load 1 false (t 107), some (104, false)⟩, ⟨some 109, .bin .gtr (t 106) (t 108), some (104, false)⟩, o 110 (.pick (t 104) (c (.bool true)) (t 109)), o 111 (.mov (t 110)), ⟨some 112, .fAddr 5 (t 1), some (111, false)⟩, ⟨some 113, .load 1 false (t 112), some (111, false)⟩, ⟨some 114, .fAddr 4 (t 1), some (111, false)⟩, ⟨some 115, .load 1 false (t 114), some (111, false)⟩, ⟨some 116, .bin .sub (t 113) (t 115), some (111, false)⟩, ⟨some 117, .bin .add (t 116) (c (.int .i64 1)), some (111, false)⟩, ⟨some 118, .fAddr 3 (t 1), some (111, false)⟩, ⟨some 119, .load 1 false (t 118), some (111, false)⟩, ⟨some 120, .lenSl (t 119), some (111, false)⟩, ⟨some 121, .bin .sub (t 117) (t 120), some (111, false)⟩, ⟨some 122, .bin .leq (t 121) (c (.int .i64 64)), some (111, false)⟩, o 123 (.pick (t 111) (c (.bool true)) (t 122)), o 3 (.mov (t 123))]) .skip))
 (.seq (.seq (.ops [o 124 (.mov (t 3))])
 (.cond (t 124) (.seq (.ops [o 2 (.mov (c (.int .i64 1)))])
 .ret) .skip))
 (.seq (.ops [o 2 (.mov (c (.int .i64 0)))])
 .ret))))))⟩
def c24 : Func :=
⟨2, 123, [.cell 4 6 true, .tmp 5],
 (.seq (.ops [o 2 (.box (t 0)), o 3 (.box (t 1)), o 4 (.alloc [(.bool false), (.bool false), (.bool false), (.sl 1 true []), (.int .i64 0), (.int .i64 0)]), o 5 (.mov (c (.int .i64 0)))])
 (.seq (.seq (.ops [o 13 (.load 6 true (t 2)), o 14 (.call false (c (.fn 23 [] [])) [(t 13)]), o 6 (.mov (t 14))])
 (.seq (.ops [o 15 (.mov (t 6)), o 16 (.bin .neq (t 15) (c (.int .i64 0)))])
 (.cond (t 16) (.seq (.ops [o 17 (.build [(.bool false), (.bool false), (.bool false), (.sl 1 true []), (.int .i64 0), (.int .i64 0)] []), o 18 (.mov (t 6)), w (.store 6 (t 4) (t 17)), o 5 (.mov (t 18))])
 .ret) .skip)))
 (.seq (.seq (.ops [o 19 (.load 6 true (t 3)), o 20 (.call false (c (.fn 23 [] [])) [(t 19)]), o 7 (.mov (t 20))])
 (.seq (.ops [o 21 (.mov (t 7)), o 22 (.bin .neq (t 21) (c (.int .i64 0)))])
 (.cond (t 22) (.seq (.ops [o 23 (.build [(.bool false), (.bool false), (.bool false), (.sl 1 true []), (.int .i64 0), (.int .i64 0)] []), o 24 (.mov (t 7)), w (.store 6 (t 4) (t 23)), o 5 (.mov (t 24))])
 .ret) .skip)))
 (.join (.seq (.ops [o 25 (.fAddr 1 (t 2)), o 26 (.load 1 false (t 25)), o 27 (.mov (t 26)), ⟨some 28, .fAddr 1 (t 3), some (27, true)⟩, ⟨some 29, .load 1 false (t 28), some (27, true)⟩, ⟨some 30, .un .not (t 29), some (27, true)⟩, o 31 (.pick (t 27) (t 30) (c (.bool false))), o 32 (.mov (t 31)), ⟨some 33, .fAddr 2 (t 2), some (32, false)⟩, ⟨some 34, .load 1 false (t 33), some (32, false)⟩, ⟨some 35, .mov (t 34), some (32, false)⟩, ⟨some 36, .fAddr 1 (t 3), some (35, true)⟩, ⟨some 37, .load 1 false (t 36), some (35, true)⟩, ⟨some 38, .pick (t 35) (t 37) (c (.bool false)), some (32, false)⟩, ⟨some 39, .mov (t 38), some (32, false)⟩, ⟨some 40, .fAddr 2 (t 3), some (39, true)⟩, ⟨some 41, .load 1 false (t 40), some (39, true)⟩, ⟨some 42, .un .not (t 41), some (39, true)⟩, ⟨some 43, .pick (t 39) (t 42) (c (.bool false)), some (32, false)⟩, o 44 (.pick (t 32) (c (.bool true)) (t 43))])
 (.cond (t 44) (.ops [o 45 (.load 6 true (t 3)), o 46 (.load 6 true (t 2)), w (.store 6 (t 2) (t 45)), w (.store 6 (t 3) (t 46))]) .skip))
 (.seq (.ops [o 8 (.alloc [(.bool false), (.bool false), (.bool false), (.sl 1 true []), (.int .i64 0), (.int .i64 0)])])
 (.seq (.ops [o 9 (.mov (c (.bool true)))])
 (.join (.seq (.ops [o 47 (.fAddr 3 (t 2)), o 48 (.load 1 false (t 47)), o 49 (.fAddr 3 (t 3)), o 50 (.load 1 false (t 49)), o 51 (.mkSl true 1 22 (.sl 1 true []) 2 [(0, (t 48)), (1, (t 50))]), o 52 (.icall (c (.fn 33 [] [])) [(t 51)]), o 10 (.mov (t 52))])
 (.block 0 (.seq (.ops [o 69 (.fAddr 1 (t 2)), o 70 (.load 1 false (t 69)), o 71 (.un .not (t 70)), o 68 (.mov (t 71))])
 (.cond (t 68) (.seq (.ops [o 72 (.fAddr 3 (t 2)), o 73 (.load 1 false (t 72)), o 74 (.lenSl (t 73)), o 75 (.mov (c (.int .i64 0)))])
 (.gh (.cell 8 150 3 1 9) (.block 1 (.loop (.seq (.ops [o 76 (.bin .lss (t 75) (t 74))])
 (.seq (.cond (t 76) .skip (.exit 1))
 (.seq (.block 2 (.seq (.ops [o 77 (.iAddrS 1 (t 73) (t 75)), o 78 (.load 1 false (t 77)), o 12 (.mov (t 78))])
 (.seq (.ops [o 79 (.load 6 true (t 3)), o 80 (.mov (t 12)), o 81 (.call false (c (.fn 43 [] [])) [(t 79), (t 80)])])
 (.cond (t 81) (.ops [o 82 (.fAddr 3 (t 8)), o 83 (.load 1 false (t 82)), o 84 (.mov (t 12)), o 85 (.mkSl false 1 9 (.str ⟨#[]⟩) 1 [(0, (t 84))]), o 86 (.app 1 9 16 (t 83) (t 85)), o 87 (.fAddr 3 (t 8)), w (.store 1 (t 87) (t 86))]) .skip))))
 (.ops [o 88 (.bin .add (t 75) (c (.int .i64 1))), o 75 (.mov (t 88))])))))))) (.seq (.ops [o 90 (.fAddr 2 (t 3)), o 91 (.load 1 false (t 90)), o 92 (.un .not (t 91)), o 89 (.mov (t 92))])
 (.cond (t 89) (.seq (.ops [o 93 (.mov (t 10)), o 94 (.call false (c (.fn 32 [] [])) [(t 93)]), o 95 (.build [(.bool false), (.bool false), (.bool false), (.sl 1 true []), (.int .i64 0), (.int .i64 0)] [(1, 1, (c (.bool true))), (3, 1, (t 94))]), w (.store 6 (t 8) (t 95))])
 (.ops [o 96 (.mov (t 10)), o 97 (.lenMap (t 96)), o 98 (.bin .leq (t 97) (c (.int .i64 64))), o 9 (.mov (t 98))])) (.seq (.ops [o 100 (.fAddr 2 (t 2)), o 101 (.load 1 false (t 100)), o 102 (.un .not (t 101)), o 99 (.mov (t 102))])
 (.cond (t 99) (.ops [o 104 (.fAddr 4 (t 3)), o 105 (.load 1 false (t 104)), o 106 (.fAddr 5 (t 3)), o 107 (.load 1 false (t 106)), o 108 (.mov (t 10)), o 109 (.icall (c (.fn 34 [] [])) [(t 105), (t 107), (t 108)]), o 103 (.mov (t 109)), o 110 (.ext 0 (t 103)), o 111 (.ext 1 (t 103)), w (.store 6 (t 8) (t 110)), o 9 (.mov (t 111))]) (.ops [o 54 (.fAddr 4 (t 2)), o 55 (.load 1 false (t 54)), o 56 (.fAddr 4 (t 3)), o 57 (.load 1 false (t 56)), o 58 (.mm true .i64 (t 55) [(t 57)]), o 59 (.fAddr 5 (t 2)), o 60 (.load 1 false (t 59)), o 61 (.fAddr 5 (t 3)), o 62 (.load 1 false (t 61)), o 63 (.mm false .i64 (t 60) [(t 62)]), o 64 (.mov (t 10)), o 65 (.icall (c (.fn 34 [] [])) [(t 58), (t 63), (t 64)]), o 53 (.mov (t 65)), o 66 (.ext 0 (t 53)), o 67 (.ext 1 (t 53)), w (.store 6 (t 8) (t 66)), o 9 (.mov (t 67))])))))))))
 (.seq (.seq (.ops [o 112 (.mov (t 9)), o 113 (.un .not (t 112))])
 (.cond (t 113) (.seq (.ops [o 114 (.build [(.bool false), (.bool false), (.bool false), (.sl 1 true []), (.int .i64 0), (.int .i64 0)] []), w (.store 6 (t 4) (t 114)), o 5 (.mov (c (.int .i64 3)))])
 .ret) .skip))
 (.seq (.ops [o 115 (.fAddr 0 (t 2)), o 116 (.load 1 false (t 115)), o 117 (.mov (t 116)), ⟨some 118, .fAddr 0 (t 3), some (117, true)⟩, ⟨some 119, .load 1 false (t 118), some (117, true)⟩, o 120 (.pick (t 117) (t 119) (c (.bool false))), o 121 (.fAddr 0 (t 8)), w (.store 1 (t 121) (t 120))])
 (.seq (.ops [o 122 (.load 6 true (t 8)), w (.store 6 (t 4) (t 122)), o 5 (.mov (c (.int .i64 0)))])
 .ret))))))))))⟩
def c25 : Func :=
⟨2, 126, [.cell 4 6 true, .tmp 5],
 (.seq (.ops [o 2 (.box (t 0)), o 3 (.box (t 1)), o 4 (.alloc [(.bool false), (.bool false), (.bool false), (.sl 1 true []), (.int .i64 0), (.int .i64 0)]), o 5 (.mov (c (.int .i64 0)))])
 (.seq (.ops [o 13 (.load 6 true (t 2)), o 14 (.call false (c (.fn 22 [] [])) [(t 13)]), o 6 (.mov (t 14))])
 (.seq (.seq (.ops [o 15 (.mov (t 6)), o 16 (.bin .neq (t 15) (c (.int .i64 0)))])
 (.cond (t 16) (.seq (.ops [o 17 (.build [(.bool false), (.bool false), (.bool false), (.sl 1 true []), (.int .i64 0), (.int .i64 0)] []), o 18 (.mov (t 6)), w (.store 6 (t 4) (t 17)), o 5 (.mov (t 18))])
 .ret) .skip))
 (.seq (.ops [o 19 (.load 6 true (t 3)), o 20 (.call false (c (.fn 22 [] [])) [(t 19)]), o 7 (.mov (t 20))])
 (.seq (.seq (.ops [o 21 (.mov (t 7)), o 22 (.bin .neq (t 21) (c (.int .i64 0)))])
 (.cond (t 22) (.seq (.ops [o 23 (.build [(.bool false), (.bool false), (.bool false), (.sl 1 true []), (.int .i64 0), (.int .i64 0)] []), o 24 (.mov (t 7)), w (.store 6 (t 4) (t 23)), o 5 (.mov (t 24))])
 .ret) .skip))
 (.seq (.ops [o 25 (.build [(.bool false), (.bool false), (.bool false), (.sl 1 true []), (.int .i64 0), (.int .i64 0)] []), o 8 (.alloc [(.bool false), (.bool false), (.bool false), (.sl 1 true []), (.int .i64 0), (.int .i64 0)]), w (.store 6 (t 8) (t 25))])
 (.seq (.ops [o 9 (.mov (c (.bool true)))])
 (.seq (.ops [o 10 (.mov (c (.sl 1 true [])))])
 (.seq (.ops [o 26 (.mov (t 10)), o 27 (.fAddr 3 (t 2)), o 28 (.load 1 false (t 27)), o 29 (.app 1 9 16 (t 26) (t 28)), o 10 (.mov (t 29))])
 (.seq (.ops [o 30 (.mov (t 10)), o 31 (.fAddr 3 (t 3)), o 32 (.load 1 false (t 31)), o 33 (.app 1 9 16 (t 30) (t 32)), o 10 (.mov (t 33))])
 (.seq (.ops [o 34 (.mov (t 10)), o 35 (.call false (c (.fn 39 [] [])) [(t 34)]), o 10 (.mov (t 35))])
 (.join (.block 0 (.seq (.ops [o 60 (.fAddr 1 (t 2)), o 61 (.load 1 false (t 60)), o 62 (.un .not (t 61)), o 59 (.mov (t 62))])
 (.cond (t 59) (.ops [o 63 (.fAddr 3 (t 2)), o 64 (.load 1 false (t 63)), o 65 (.load 6 true (t 3)), o 66 (.call false (c (.fn 44 [] [])) [(t 64), (t 65)]), w (.store 6 (t 8) (t 66))]) (.seq (.ops [o 68 (.fAddr 1 (t 3)), o 69 (.load 1 false (t 68)), o 70 (.un .not (t 69)), o 67 (.mov (t 70))])
 (.cond (t 67) (.ops [o 71 (.fAddr 3 (t 3)), o 72 (.load 1 false (t 71)), o 73 (.load 6 true (t 2)), o 74 (.call false (c (.fn 44 [] [])) [(t 72), (t 73)]), w (.store 6 (t 8) (t 74))]) (.seq (.ops [o 76 (.fAddr 2 (t 2)), o 77 (.load 1 false (t 76)), o 78 (.un .not (t 77)), o 79 (.mov (t 78)), ⟨some 80, .fAddr 2 (t 3), some (79, true)⟩, ⟨some 81, .load 1 false (t 80), some (79, true)⟩, ⟨some 82, .un .not (t 81), some (79, true)⟩, o 83 (.pick (t 79) (t 82) (c (.bool false))), o 75 (.mov (t 83))])
 (.cond (t 75) (.seq (.ops [o 84 (.mov (t 10)), o 85 (.build [(.bool false), (.bool false), (.bool false), (.sl 1 true []), (.int .i64 0), (.int .i64 0)] [(1, 1, (c (.bool true))), (3, 1, (t 84))]), w (.store 6 (t 8) (t 85))])
 (.ops [o 86 (.mov (t 10)), o 87 (.lenSl (t 86)), o 88 (.bin .leq (t 87) (c (.int .i64 64))), o 9 (.mov (t 88))])) (.seq (.ops [o 90 (.fAddr 2 (t 2)), o 91 (.load 1 false (t 90)), o 92 (.un .not (t 91)), o 89 (.mov (t 92))])
 (.cond (t 89) (.ops [o 94 (.fAddr 4 (t 3)), o 95 (.load 1 false (t 94)), o 96 (.fAddr 5 (t 3)), o 97 (.load 1 false (t 96)), o 98 (.mov (t 10)), o 99 (.call false (c (.fn 40 [] [])) [(t 95), (t 97), (t 98)]), o 93 (.mov (t 99)), o 100 (.ext 0 (t 93)), o 101 (.ext 1 (t 93)), w (.store 6 (t 8) (t 100)), o 9 (.mov (t 101))]) (.seq (.ops [o 103 (.fAddr 2 (t 3)), o 104 (.load 1 false (t 103)), o 105 (.un .not (t 104)), o 102 (.mov (t 105))])
 (.cond (t 102) (.ops [o 107 (.fAddr 4 (t 2)), o 108 (.load 1 false (t 107)), o 109 (.fAddr 5 (t 2)), o 110 (.load 1 false (t 109)), o 111 (.mov (t 10)), o 112 (.call false (c (.fn 40 [] [])) [(t 108), (t 110), (t 111)]), o 106 (.mov (t 112)), o 113 (.ext 0 (t 106)), o 114 (.ext 1 (t 106)), w (.store 6 (t 8) (t 113)), o 9 (.mov (t 114))]) (.seq (.ops [o 36 (.fAddr 4 (t 2)), o 37 (.load 1 false (t 36)), o 11 (.mov (t 37))])
 (.seq (.seq (.ops [o 38 (.fAddr 4 (t 3)), o 39 (.load 1 false (t 38)), o 40 (.mov (t 11)), o 41 (.bin .gtr (t 39) (t 40))])
 (.cond (t 41) (.ops [o 42 (.fAddr 4 (t 3)), o 43 (.load 1 false (t 42)), o 11 (.mov (t 43))]) .skip))
 (.seq (.ops [o 44 (.fAddr 5 (t 2)), o 45 (.load 1 false (t 44)), o 12 (.mov (t 45))])
 (.seq (.seq (.ops [o 46 (.fAddr 5 (t 3)), o 47 (.load 1 false (t 46)), o 48 (.mov (t 12)), o 49 (.bin .lss (t 47) (t 48))])
 (.cond (t 49) (.ops [o 50 (.fAddr 5 (t 3)), o 51 (.load 1 false (t 50)), o 12 (.mov (t 51))]) .skip))
 (.ops [o 53 (.mov (t 11)), o 54 (.mov (t 12)), o 55 (.mov (t 10)), o 56 (.call false (c (.fn 40 [] [])) [(t 53), (t 54), (t 55)]), o 52 (.mov (t 56)), o 57 (.ext 0 (t 52)), o 58 (.ext 1 (t 52)), w (.store 6 (t 8) (t 57)), o 9 (.mov (t 58))]))))))))))))))))
 (.seq (.seq (.ops [o 115 (.mov (t 9)), o 116 (.un .not (t 115))])
 (.cond (t 116) (.seq (.ops [o 117 (.build [(.bool false), (.bool false), (.bool false), (.sl 1 true []), (.int .i64 0), (.int .i64 0)] []), w (.store 6 (t 4) (t 117)), o 5 (.mov (c (.int .i64 3)))])
 .ret) .skip))
 (.seq (.ops [o 118 (.fAddr 0 (t 2)), o 119 (.load 1 false (t 118)), o 120 (.mov (t 119)), ⟨some 121, .fAddr 0 (t 3), some (120, true)⟩, ⟨some 122, .load 1 false (t 121), some (120, true)⟩, o 123 (.pick (t 120) (t 122) (c (.bool false))), o 124 (.fAddr 0 (t 8)), w (.store 1 (t 124) (t 123))])
 (.seq (.ops [o 125 (.load 6 true (t 8)), w (.store 6 (t 4) (t 125)), o 5 (.mov (c (.int .i64 0)))])
 .ret)))))))))))))))⟩
def c26 : Func :=
⟨2, 17, [.tmp 4],
 (.seq (.ops [o 2 (.box (t 0)), o 4 (.mov (c (.bool false)))])
 (.seq (.ops [o 5 (.load 6 true (t 2)), o 6 (.call false (c (.fn 23 [] [])) [(t 5)]), o 7 (.bin .eql (t 6) (c (.int .i64 0))), o 8 (.mov (t 7)), ⟨some 9, .mov (t 1), some (8, true)⟩, ⟨some 10, .call false (c (.fn 19 [] [])) [(t 9)], some (8, true)⟩, o 11 (.pick (t 8) (t 10) (c (.bool false))), o 12 (.mov (t 11)), ⟨some 13, .load 6 true (t 2), some (12, true)⟩, ⟨some 14, .mov (t 1), some (12, true)⟩, ⟨some 15, .call false (c (.fn 43 [] [])) [(t 13), (t 14)], some (12, true)⟩, o 16 (.pick (t 12) (t 15) (c (.bool false))), o 4 (.mov (t 16))])
 .ret))⟩
def c27 : Func :=
⟨1, 22, [.tmp 2],
 (.seq (.ops [o 1 (.box (t 0)), o 2 (.mov (c (.bool false)))])
 (.seq (.ops [o 3 (.load 6 true (t 1)), o 4 (.call false (c (.fn 23 [] [])) [(t 3)]), o 5 (.bin .eql (t 4) (c (.int .i64 0))), o 6 (.mov (t 5)), ⟨some 7, .fAddr 1 (t 1), some (6, true)⟩, ⟨some 8, .load 1 false (t 7), some (6, true)⟩, ⟨some 9, .un .not (t 8), some (6, true)⟩, o 10 (.pick (t 6) (t 9) (c (.bool false))), o 11 (.mov (t 10)), ⟨some 12, .fAddr 0 (t 1), some (11, true)⟩, ⟨some 13, .load 1 false (t 12), some (11, true)⟩, ⟨some 14, .un .not (t 13), some (11, true)⟩, o 15 (.pick (t 11) (t 14) (c (.bool false))), o 16 (.mov (t 15)), ⟨some 17, .fAddr 3 (t 1), some (16, true)⟩, ⟨some 18, .load 1 false (t 17), some (16, true)⟩, ⟨some 19, .lenSl (t 18), some (16, true)⟩, ⟨some 20, .bin .eql (t 19) (c (.int .i64 0)), some (16, true)⟩, o 21 (.pick (t 16) (t 20) (c (.bool false))), o 2 (.mov (t 21))])
 .ret))⟩
def c28 : Func :=
⟨2, 55, [.tmp 4],
 (.seq (.ops [o 2 (.box (t 0)), o 4 (.mov (c (.bool false)))])
 (.seq (.ops [o 10 (.load 6 true (t 2)), o 11 (.call false (c (.fn 22 [] [])) [(t 10)]), o 5 (.mov (t 11))])
 (.seq (.ops [o 12 (.mov (t 1)), o 13 (.call false (c (.fn 17 [] [])) [(t 12)]), o 6 (.mov (t 13))])
 (.seq (.seq (.ops [o 14 (.mov (t 5)), o 15 (.bin .neq (t 14) (c (.int .i64 0))), o 16 (.mov (t 15)), ⟨some 17, .mov (t 6), some (16, false)⟩, ⟨some 18, .un .not (t 17), some (16, false)⟩, o 19 (.pick (t 16) (c (.bool true)) (t 18))])
 (.cond (t 19) (.seq (.ops [o 4 (.mov (c (.bool false)))])
 .ret) .skip))
 (.seq (.ops [o 20 (.fAddr 3 (t 2)), o 21 (.load 1 false (t 20)), o 22 (.mov (t 1)), o 23 (.call false (c (.fn 45 [] [])) [(t 21), (t 22)]), o 7 (.mov (t 23))])
 (.seq (.seq (.ops [o 24 (.fAddr 1 (t 2)), o 25 (.load 1 false (t 24)), o 26 (.un .not (t 25))])
 (.cond (t 26) (.seq (.ops [o 27 (.mov (t 7)), o 4 (.mov (t 27))])
 .ret) .skip))
 (.seq (.ops [o 29 (.mov (t 1)), o 30 (.call false (c (.fn 15 [] [])) [(t 29)]), o 28 (.mov (t 30)), o 31 (.ext 0 (t 28)), o 32 (.ext 1 (t 28)), o 8 (.mov (t 31)), o 9 (.mov (t 32))])
 (.seq (.ops [o 33 (.mov (t 7)), o 34 (.un .not (t 33)), o 35 (.mov (t 34)), ⟨some 36, .fAddr 2 (t 2), some (35, true)⟩, ⟨some 37, .load 1 false (t 36), some (35, true)⟩, ⟨some 38, .un .not (t 37), some (35, true)⟩, ⟨some 39, .mov (t 38), some (35, true)⟩, ⟨some 40, .mov (t 9), some (39, false)⟩, ⟨some 41, .mov (t 40), some (39, false)⟩, ⟨some 42, .mov (t 8), some (41, true)⟩, ⟨some 43, .fAddr 4 (t 2), some (41, true)⟩, ⟨some 44, .load 1 false (t 43), some (41, true)⟩, ⟨some 45, .bin .geq (t 42) (t 44), some (41, true)⟩, ⟨some 46, .pick (t 41) (t 45) (c (.bool false)), some (39, false)⟩, ⟨some 47, .mov (t 46), some (39, false)⟩, ⟨some 48, .mov (t 8), some (47, true)⟩, ⟨some 49, .fAddr 5 (t 2), some (47, true)⟩, ⟨some 50, .load 1 false (t 49), some (47, true)⟩, ⟨some 51, .bin .leq (t 48) (t 50), some (47, true)⟩, ⟨some 52, .pick (t 47) (t 51) (c (.bool false)), some (39, false)⟩, ⟨some 53, .pick (t 39) (c (.bool true)) (t 52), some (35, true)⟩, o 54 (.pick (t 35) (t 53) (c (.bool false))), o 4 (.mov (t 54))])
 .ret))))))))⟩
def c29 : Func :=
⟨1, 24, [.tmp 2],
 (.seq (.ops [o 1 (.box (t 0)), o 2 (.mov (c (.bool false)))])
 (.seq (.ops [o 4 (.load 6 true (t 1)), o 5 (.call false (c (.fn 22 [] [])) [(t 4)]), o 3 (.mov (t 5))])
 (.seq (.ops [o 6 (.mov (t 3)), o 7 (.bin .eql (t 6) (c (.int .i64 0))), o 8 (.mov (t 7)), ⟨some 9, .fAddr 1 (t 1), some (8, true)⟩, ⟨some 10, .load 1 false (t 9), some (8, true)⟩, ⟨some 11, .un .not (t 10), some (8, true)⟩, o 12 (.pick (t 8) (t 11) (c (.bool false))), o 13 (.mov (t 12)), ⟨some 14, .fAddr 0 (t 1), some (13, true)⟩, ⟨some 15, .load 1 false (t 14), some (13, true)⟩, ⟨some 16, .un .not (t 15), some (13, true)⟩, o 17 (.pick (t 13) (t 16) (c (.bool false))), o 18 (.mov (t 17)), ⟨some 19, .fAddr 3 (t 1), some (18, true)⟩, ⟨some 20, .load 1 false (t 19), some (18, true)⟩, ⟨some 21, .lenSl (t 20), some (18, true)⟩, ⟨some 22, .bin .eql (t 21) (c (.int .i64 0)), some (18, true)⟩, o 23 (.pick (t 18) (t 22) (c (.bool false))), o 2 (.mov (t 23))])
 .ret)))⟩
def c30 : Func :=
⟨2, 45, [.tmp 4],
 (.seq (.ops [o 2 (.box (t 0)), o 3 (.box (t 1)), o 4 (.mov (c (.bool false)))])
 (.seq (.ops [o 5 (.fAddr 0 (t 2)), o 6 (.load 1 false (t 5)), o 7 (.fAddr 0 (t 3)), o 8 (.load 1 false (t 7)), o 9 (.eqb false (t 6) (t 8)), o 10 (.mov (t 9)), ⟨some 11, .fAddr 1 (t 2), some (10, true)⟩, ⟨some 12, .load 1 false (t 11), some (10, true)⟩, ⟨some 13, .fAddr 1 (t 3), some (10, true)⟩, ⟨some 14, .load 1 false (t 13), some (10, true)⟩, ⟨some 15, .eqb false (t 12) (t 14), some (10, true)⟩, o 16 (.pick (t 10) (t 15) (c (.bool false))), o 17 (.mov (t 16)), ⟨some 18, .fAddr 2 (t 2), some (17, true)⟩, ⟨some 19, .load 1 false (t 18), some (17, true)⟩, ⟨some 20, .fAddr 2 (t 3), some (17, true)⟩, ⟨some 21, .load 1 false (t 20), some (17, true)⟩, ⟨some 22, .eqb false (t 19) (t 21), some (17, true)⟩, o 23 (.pick (t 17) (t 22) (c (.bool false))), o 24 (.mov (t 23)), ⟨some 25, .fAddr 4 (t 2), some (24, true)⟩, ⟨some 26, .load 1 false (t 25), some (24, true)⟩, ⟨some 27, .fAddr 4 (t 3), some (24, true)⟩, ⟨some 28, .load 1 false (t 27), some (24, true)⟩, ⟨some 29, .bin .eql (t 26) (t 28), some (24, true)⟩, o 30 (.pick (t 24) (t 29) (c (.bool false))), o 31 (.mov (t 30)), ⟨some 32, .fAddr 5 (t 2), some (31, true)⟩, ⟨some 33, .load 1 false (t 32), some (31, true)⟩, ⟨some 34, .fAddr 5 (t 3), some (31, true)⟩, ⟨some 35, .load 1 false (t 34), some (31, true)⟩, ⟨some 36, .bin .eql (t 33) (t 35), some (31, true)⟩, o 37 (.pick (t 31) (t 36) (c (.bool false))), o 38 (.mov (t 37)), ⟨some 39, .fAddr 3 (t 2), some (38, true)⟩, ⟨some 40, .load 1 false (t 39), some (38, true)⟩, ⟨some 41, .fAddr 3 (t 3), some (38, true)⟩, ⟨some 42, .load 1 false (t 41), some (38, true)⟩, ⟨some 43, .call false (c (.fn 46 [] [])) [(t 40), (t 42)], some (38, true)⟩, o 44 (.pick (t 38) (t 43) (c (.bool false))), o 4 (.mov (t 44))])
 .ret))⟩
def c31 : Func :=
⟨1, 73, [.tmp 2],
 (.seq (.ops [o 1 (.box (t 0)), o 2 (.mov (c (.int .i64 0)))])
 (.join (.ops [o 5 (.fAddr 1 (t 1)), o 6 (.load 1 false (t 5)), o 7 (.bin .eql (t 6) (c (.int .i64 1))), o 8 (.mov (t 7)), ⟨some 9, .fAddr 1 (t 1), some (8, false)⟩, ⟨some 10, .load 1 false (t 9), some (8, false)⟩, ⟨some 11, .bin .eql (t 10) (c (.int .i64 2)), some (8, false)⟩, o 12 (.pick (t 8) (c (.bool true)) (t 11)), o 3 (.mov (t 12))])
 (.join (.ops [o 13 (.fAddr 1 (t 1)), o 14 (.load 1 false (t 13)), o 15 (.bin .eql (t 14) (c (.int .i64 5))), o 16 (.mov (t 15)), ⟨some 17, .fAddr 1 (t 1), some (16, false)⟩, ⟨some 18, .load 1 false (t 17), some (16, false)⟩, ⟨some 19, .bin .eql (t 18) (c (.int .i64 6)), some (16, false)⟩, o 20 (.pick (t 16) (c (.bool true)) (t 19)), o 4 (.mov (t 20))])
 (.seq (.block 0 (.seq (.ops [o 22 (.fAddr 0 (t 1)), o 23 (.load 1 false (t 22)), o 24 (.call false (c (.fn 18 [] [])) [(t 23)]), o 25 (.un .not (t 24)), o 21 (.mov (t 25))])
 (.cond (t 21) (.seq (.ops [o 2 (.mov (c (.int .i64 7)))])
 .ret) (.join (.seq (.ops [o 27 (.fAddr 1 (t 1)), o 28 (.load 1 false (t 27)), o 29 (.bin .lss (t 28) (c (.int .i64 1))), o 30 (.mov (t 29)), ⟨some 31, .fAddr 1 (t 1), some (30, false)⟩, ⟨some 32, .load 1 false (t 31), some (30, false)⟩, ⟨some 33, .bin .gtr (t 32) (c (.int .i64 6)), some (30, false)⟩, o 34 (.pick (t 30) (c (.bool true)) (t 33)), o 26 (.mov (t 34))])
 (.cond (t 26) .skip (.seq (.ops [o 35 (.mov (t 3)), o 36 (.fAddr 2 (t 1)), o 37 (.load 1 false (t 36)), o 38 (.lenSl (t 37)), o 39 (.bin .gtr (t 38) (c (.int .i64 0))), o 40 (.eqb true (t 35) (t 39)), o 26 (.mov (t 40))])
 (.cond (t 26) .skip (.seq (.ops [o 41 (.mov (t 4)), o 42 (.un .not (t 41)), o 43 (.mov (t 42)), ⟨some 44, .fAddr 3 (t 1), some (43, true)⟩, ⟨some 45, .load 1 false (t 44), some (43, true)⟩, ⟨some 46, .bin .neq (t 45) (c (.int .i64 0)), some (43, true)⟩, o 47 (.pick (t 43) (t 46) (c (.bool false))), o 26 (.mov (t 47))])
 (.cond (t 26) .skip (.seq (.ops [o 48 (.fAddr 3 (t 1)), o 49 (.load 1 false (t 48)), o 50 (.bin .lss (t 49) (c (.int .i64 (-2147483648)))), o 26 (.mov (t 50))])
 (.cond (t 26) .skip (.ops [o 51 (.fAddr 3 (t 1)), o 52 (.load 1 false (t 51)), o 53 (.bin .gtr (t 52) (c (.int .i64 2147483648))), o 26 (.mov (t 53))])))))))))
 (.cond (t 26) (.seq (.ops [o 2 (.mov (c (.int .i64 30)))])
 .ret) (.seq (.ops [o 55 (.fAddr 2 (t 1)), o 56 (.load 1 false (t 55)), o 57 (.lenSl (t 56)), o 58 (.bin .gtr (t 57) (c (.int .i64 8))), o 54 (.mov (t 58))])
 (.cond (t 54) (.seq (.ops [o 2 (.mov (c (.int .i64 3)))])
 .ret) (.seq (.ops [o 60 (.fAddr 2 (t 1)), o 61 (.load 1 false (t 60)), o 62 (.call false (c (.fn 47 [] [])) [(t 61), (c (.fn 48 [] []))]), o 59 (.mov (t 62))])
 (.cond (t 59) (.seq (.ops [o 2 (.mov (c (.int .i64 20)))])
 .ret) (.seq (.ops [o 64 (.fAddr 2 (t 1)), o 65 (.load 1 false (t 64)), o 66 (.mkSl true 1 22 (.sl 1 true []) 1 [(0, (t 65))]), o 67 (.call true (c (.fn 33 [] [])) [(t 66)]), o 68 (.lenMap (t 67)), o 69 (.fAddr 2 (t 1)), o 70 (.load 1 false (t 69)), o 71 (.lenSl (t 70)), o 72 (.bin .lss (t 68) (t 71)), o 63 (.mov (t 72))])
 (.cond (t 63) (.seq (.ops [o 2 (.mov (c (.int .i64 6)))])
 .ret) .skip)))))))))))
 (.seq (.ops [o 2 (.mov (c (.int .i64 0)))])
 .ret)))))⟩
def c32 : Func :=
⟨1, 6, [.tmp 2],
 (.seq (.ops [o 2 (.mov (c (.sl 1 true [])))])
 (.seq (.ops [o 3 (.mov (t 0)), o 4 (.call false (c (.fn 50 [] [])) [(t 3)]), o 5 (.call false (c (.fn 49 [] [])) [(t 4)]), o 2 (.mov (t 5))])
 .ret))⟩
def c33 : Func :=
⟨1, 26, [.tmp 2],
 (.seq (.ops [o 2 (.mov (c .nilm))])
 (.seq (.ops [o 8 (.mkMap), o 3 (.mov (t 8))])
 (.seq (.seq (.ops [o 9 (.mov (t 0)), o 10 (.lenSl (t 9)), o 11 (.mov (c (.int .i64 0)))])
 (.block 0 (.loop (.seq (.ops [o 12 (.bin .lss (t 11) (t 10))])
 (.seq (.cond (t 12) .skip (.exit 0))
 (.seq (.block 1 (.seq (.ops [o 13 (.iAddrS 1 (t 9) (t 11)), o 14 (.load 1 false (t 13)), o 5 (.mov (t 14))])
 (.seq (.ops [o 15 (.mov (t 5)), o 16 (.lenSl (t 15)), o 17 (.mov (c (.int .i64 0)))])
 (.block 2 (.loop (.seq (.ops [o 18 (.bin .lss (t 17) (t 16))])
 (.seq (.cond (t 18) .skip (.exit 2))
 (.seq (.block 3 (.seq (.ops [o 19 (.iAddrS 1 (t 15) (t 17)), o 20 (.load 1 false (t 19)), o 7 (.mov (t 20))])
 (.ops [o 21 (.mov (t 3)), o 22 (.mov (t 7)), w (.mput (false, [(0, .str)]) (t 21) (t 22) (c (.bool true)))])))
 (.ops [o 23 (.bin .add (t 17) (c (.int .i64 1))), o 17 (.mov (t 23))])))))))))
 (.ops [o 24 (.bin .add (t 11) (c (.int .i64 1))), o 11 (.mov (t 24))])))))))
 (.seq (.ops [o 25 (.mov (t 3)), o 2 (.mov (t 25))])
 .ret))))⟩
def c34 : Func :=
⟨3, 95, [.cell 6 6 true, .tmp 7],
 (.seq (.ops [o 6 (.alloc [(.bool false), (.bool false), (.bool false), (.sl 1 true []), (.int .i64 0), (.int .i64 0)]), o 7 (.mov (c (.bool false)))])
 (.join (.block 0 (.loop (.seq (.seq (.ops [o 14 (.mov (t 0)), o 15 (.mov (t 1)), o 16 (.bin .leq (t 14) (t 15)), o 17 (.mov (t 16)), ⟨some 18, .mov (t 2), some (17, true)⟩, ⟨some 19, .mov (t 0), some (17, true)⟩, ⟨some 20, .call false (c (.fn 36 [] [])) [(t 19), (c (.int .i64 10))], some (17, true)⟩, ⟨some 21, .look (false, [(0, .str)]) (.bool false) false (t 18) (t 20), some (17, true)⟩, o 22 (.pick (t 17) (t 21) (c (.bool false)))])
 (.cond (t 22) .skip (.exit 0)))
 (.block 1 (.ops [o 23 (.mov (t 0)), o 24 (.bin .add (t 23) (c (.int .i64 1))), o 0 (.mov (t 24))])))))
 (.join (.block 2 (.loop (.seq (.seq (.ops [o 25 (.mov (t 0)), o 26 (.mov (t 1)), o 27 (.bin .leq (t 25) (t 26)), o 28 (.mov (t 27)), ⟨some 29, .mov (t 2), some (28, true)⟩, ⟨some 30, .mov (t 1), some (28, true)⟩, ⟨some 31, .call false (c (.fn 36 [] [])) [(t 30), (c (.int .i64 10))], some (28, true)⟩, ⟨some 32, .look (false, [(0, .str)]) (.bool false) false (t 29) (t 31), some (28, true)⟩, o 33 (.pick (t 28) (t 32) (c (.bool false)))])
 (.cond (t 33) .skip (.exit 2)))
 (.block 3 (.ops [o 34 (.mov (t 1)), o 35 (.bin .sub (t 34) (c (.int .i64 1))), o 1 (.mov (t 35))])))))
 (.join (.seq (.ops [o 36 (.mov (t 2)), o 37 (.mkIter (t 36))])
 (.block 4 (.loop (.seq (.ops [o 38 (.next (t 37)), o 39 (.ext 0 (t 38))])
 (.seq (.cond (t 39) .skip (.exit 4))
 (.block 5 (.seq (.ops [o 40 (.entry (t 37)), o 41 (.ext 0 (t 40)), o 8 (.mov (t 41))])
 (.seq (.ops [o 43 (.mov (t 8)), o 44 (.call false (c (.fn 13 [] [])) [(t 43)]), o 42 (.mov (t 44)), o 45 (.ext 0 (t 42)), o 46 (.ext 1 (t 42)), o 9 (.mov (t 45)), o 10 (.mov (t 46))])
 (.seq (.ops [o 47 (.mov (t 10)), o 48 (.un .not (t 47)), o 49 (.mov (t 48)), ⟨some 50, .mov (t 9), some (49, false)⟩, ⟨some 51, .mov (t 0), some (49, false)⟩, ⟨some 52, .bin .leq (t 50) (t 51), some (49, false)⟩, o 53 (.pick (t 49) (c (.bool true)) (t 52)), o 54 (.mov (t 53)), ⟨some 55, .mov (t 9), some (54, false)⟩, ⟨some 56, .mov (t 1), some (54, false)⟩, ⟨some 57, .bin .geq (t 55) (t 56), some (54, false)⟩, o 58 (.pick (t 54) (c (.bool true)) (t 57))])
 (.cond (t 58) (.ops [o 59 (.mov (t 2)), o 60 (.mov (t 8)), w (.mdel (false, [(0, .str)]) (t 59) (t 60))]) .skip))))))))))
 (.seq (.seq (.ops [o 61 (.mov (t 1)), o 62 (.mov (t 0)), o 63 (.bin .sub (t 61) (t 62)), o 64 (.bin .add (t 63) (c (.int .i64 1))), o 65 (.mov (t 2)), o 66 (.lenMap (t 65)), o 67 (.bin .sub (t 64) (t 66)), o 68 (.bin .gtr (t 67) (c (.int .i64 64)))])
 (.cond (t 68) (.seq (.ops [o 69 (.mov (t 2)), o 70 (.call false (c (.fn 32 [] [])) [(t 69)]), o 71 (.mov (t 0)), o 72 (.mov (t 1)), o 73 (.build [(.bool false), (.bool false), (.bool false), (.sl 1 true []), (.int .i64 0), (.int .i64 0)] [(1, 1, (c (.bool true))), (2, 1, (c (.bool true))), (3, 1, (t 70)), (4, 1, (t 71)), (5, 1, (t 72))]), o 74 (.mov (t 2)), o 75 (.lenMap (t 74)), o 76 (.bin .leq (t 75) (c (.int .i64 64))), w (.store 6 (t 6) (t 73)), o 7 (.mov (t 76))])
 .ret) .skip))
 (.seq (.ops [o 77 (.mkMap), o 11 (.mov (t 77))])
 (.seq (.seq (.ops [o 78 (.mov (t 0)), o 12 (.mov (t 78))])
 (.block 6 (.loop (.seq (.seq (.ops [o 79 (.mov (t 12)), o 80 (.mov (t 1)), o 81 (.bin .leq (t 79) (t 80))])
 (.cond (t 81) .skip (.exit 6)))
 (.seq (.block 7 (.seq (.ops [o 84 (.mov (t 12)), o 85 (.call false (c (.fn 36 [] [])) [(t 84), (c (.int .i64 10))]), o 13 (.mov (t 85))])
 (.seq (.ops [o 86 (.mov (t 2)), o 87 (.mov (t 13)), o 88 (.look (false, [(0, .str)]) (.bool false) false (t 86) (t 87)), o 89 (.un .not (t 88))])
 (.cond (t 89) (.ops [o 90 (.mov (t 11)), o 91 (.mov (t 13)), w (.mput (false, [(0, .str)]) (t 90) (t 91) (c (.bool true)))]) .skip))))
 (.ops [o 82 (.mov (t 12)), o 83 (.bin .add (t 82) (c (.int .i64 1))), o 12 (.mov (t 83))]))))))
 (.seq (.ops [o 92 (.mov (t 11)), o 93 (.call false (c (.fn 32 [] [])) [(t 92)]), o 94 (.build [(.bool false), (.bool false), (.bool false), (.sl 1 true []), (.int .i64 0), (.int .i64 0)] [(3, 1, (t 93))]), w (.store 6 (t 6) (t 94)), o 7 (.mov (c (.bool true)))])
 .ret))))))))⟩
def c37 : Func :=
⟨1, 29, [.tmp 2],
 (.seq (.ops [o 2 (.mov (c (.str ⟨#[]⟩)))])
 (.seq (.ops [o 3 (.mov (c (.str ⟨#[]⟩)))])
 (.seq (.ops [o 6 (.mov (t 0)), o 4 (.mov (t 6))])
 (.seq (.block 0 (.loop (.block 1 (.seq (.ops [o 7 (.mov (t 4)), o 8 (.bin .rem (t 7) (c (.int .i64 10))), o 5 (.mov (t 8))])
 (.seq (.seq (.ops [o 9 (.mov (t 5)), o 10 (.bin .lss (t 9) (c (.int .i64 0)))])
 (.cond (t 10) (.ops [o 11 (.mov (t 5)), o 12 (.un .neg (t 11)), o 5 (.mov (t 12))]) .skip))
 (.seq (.ops [o 13 (.mov (t 5)), o 14 (.bin .add (c (.int .i64 48)) (t 13)), o 15 (.cvInt .u8 (t 14)), o 16 (.mkSl false 1 5 (.int .u8 0) 1 [(0, (t 15))]), o 17 (.cvBS (t 16)), o 18 (.mov (t 3)), o 19 (.bin .add (t 17) (t 18)), o 3 (.mov (t 19))])
 (.seq (.ops [o 20 (.mov (t 4)), o 21 (.bin .quo (t 20) (c (.int .i64 10))), o 4 (.mov (t 21))])
 (.seq (.ops [o 22 (.mov (t 4)), o 23 (.bin .eql (t 22) (c (.int .i64 0)))])
 (.cond (t 23) (.exit 0) .skip)))))))))
 (.seq (.seq (.ops [o 24 (.mov (t 0)), o 25 (.bin .lss (t 24) (c (.int .i64 0)))])
 (.cond (t 25) (.seq (.ops [o 26 (.mov (t 3)), o 27 (.bin .add (c (.str ⟨#[45]⟩)) (t 26)), o 2 (.mov (t 27))])
 .ret) .skip))
 (.seq (.ops [o 28 (.mov (t 3)), o 2 (.mov (t 28))])
 .ret))))))⟩
def c38 : Func :=
⟨1, 103, [.tmp 2],
 (.seq (.ops [o 1 (.box (t 0)), o 2 (.mov (c (.int .i64 0)))])
 (.seq (.ops [o 10 (.fAddr 0 (t 1)), o 11 (.load 1 false (t 10)), o 12 (.call false (c (.fn 16 [] [])) [(t 11)]), o 3 (.mov (t 12))])
 (.seq (.seq (.ops [o 13 (.mov (t 3)), o 14 (.un .not (t 13))])
 (.cond (t 14) (.seq (.ops [o 2 (.mov (c (.int .i64 7)))])
 .ret) .skip))
 (.join (.ops [o 15 (.fAddr 1 (t 1)), o 16 (.load 1 false (t 15)), o 17 (.bin .eql (t 16) (c (.int .i64 1))), o 18 (.mov (t 17)), ⟨some 19, .fAddr 1 (t 1), some (18, false)⟩, ⟨some 20, .load 1 false (t 19), some (18, false)⟩, ⟨some 21, .bin .eql (t 20) (c (.int .i64 2)), some (18, false)⟩, o 22 (.pick (t 18) (c (.bool true)) (t 21)), o 4 (.mov (t 22))])
 (.join (.ops [o 23 (.fAddr 1 (t 1)), o 24 (.load 1 false (t 23)), o 25 (.bin .eql (t 24) (c (.int .i64 5))), o 26 (.mov (t 25)), ⟨some 27, .fAddr 1 (t 1), some (26, false)⟩, ⟨some 28, .load 1 false (t 27), some (26, false)⟩, ⟨some 29, .bin .eql (t 28) (c (.int .i64 6)), some (26, false)⟩, o 30 (.pick (t 26) (c (.bool true)) (t 29)), o 5 (.mov (t 30))])
 (.join (.seq (.ops [o 31 (.fAddr 1 (t 1)), o 32 (.load 1 false (t 31)), o 33 (.bin .lss (t 32) (c (.int .i64 1))), o 34 (.mov (t 33)), ⟨some 35, .fAddr 1 (t 1), some (34, false)⟩, ⟨some 36, .load 1 false (t 35), some (34, false)⟩, ⟨some 37, .bin .gtr (t 36) (c (.int .i64 6)), some (34, false)⟩, o 38 (.pick (t 34) (c (.bool true)) (t 37)), o 39 (.mov (t 38)), ⟨some 40, .mov (t 4), some (39, false)⟩, ⟨some 41, .fAddr 2 (t 1), some (39, false)⟩, ⟨some 42, .load 1 false (t 41), some (39, false)⟩, ⟨some 43, .lenSl (t 42), some (39, false)⟩, ⟨some 44, .bin .gtr (t 43) (c (.int .i64 0)), some (39, false)⟩, ⟨some 45, .eqb true (t 40) (t 44), some (39, false)⟩, o 46 (.pick (t 39) (c (.bool true)) (t 45)), o 47 (.mov (t 46)), ⟨some 48, .mov (t 5), some (47, false)⟩, ⟨some 49, .un .not (t 48), some (47, false)⟩, ⟨some 50, .mov (t 49), some (47, false)⟩, ⟨some 51, .fAddr 3 (t 1), some (50, true)⟩, ⟨some 52, .load 1 false (t 51), some (50, true)⟩, ⟨some 53, .bin .neq (t 52) (c (.int .i64 0)), some (50, true)⟩, ⟨some 54, .pick (t 50) (t 53) (c (.bool false)), some (47, false)⟩, o 55 (.pick (t 47) (c (.bool true)) (t 54)), o 56 (.mov (t 55)), ⟨some 57, .fAddr 3 (t 1), some (56, false)⟩, ⟨some 58, .load 1 false (t 57), some (56, false)⟩, ⟨some 59, .bin .lss (t 58) (c (.int .i64 (-2147483648))), some (56, false)⟩, o 60 (.pick (t 56) (c (.bool true)) (t 59)), o 61 (.mov (t 60)), ⟨some 62, .fAddr 3 (t 1), some (61, false)⟩, ⟨some 63, .load 1 false (t 62), some (61, false)⟩, ⟨some 64, .bin .gtr (t 63) (c (.int .i64 2147483648)), some (61, false)⟩, o 65 (.pick (t 61) (c (.bool true)) (t 64))])
 (.cond (t 65) (.seq (.ops [o 2 (.mov (c (.int .i64 30)))])
 .ret) .skip))
 (.seq (.seq (.ops [o 66 (.fAddr 2 (t 1)), o 67 (.load 1 false (t 66)), o 68 (.lenSl (t 67)), o 69 (.bin .gtr (t 68) (c (.int .i64 8)))])
 (.cond (t 69) (.seq (.ops [o 2 (.mov (c (.int .i64 3)))])
 .ret) .skip))
 (.seq (.seq (.ops [o 6 (.mov (c (.int .i64 0)))])
 (.block 0 (.loop (.seq (.seq (.ops [o 70 (.mov (t 6)), o 71 (.fAddr 2 (t 1)), o 72 (.load 1 false (t 71)), o 73 (.lenSl (t 72)), o 74 (.bin .lss (t 70) (t 73))])
 (.cond (t 74) .skip (.exit 0)))
 (.seq (.block 1 (.seq (.ops [o 77 (.fAddr 2 (t 1)), o 78 (.load 1 false (t 77)), o 79 (.mov (t 6)), o 80 (.iAddrS 1 (t 78) (t 79)), o 81 (.load 1 false (t 80)), o 82 (.call false (c (.fn 17 [] [])) [(t 81)]), o 7 (.mov (t 82))])
 (.seq (.ops [o 83 (.mov (t 7)), o 84 (.un .not (t 83))])
 (.cond (t 84) (.seq (.ops [o 2 (.mov (c (.int .i64 20)))])
 .ret) .skip))))
 (.ops [o 75 (.mov (t 6)), o 76 (.bin .add (t 75) (c (.int .i64 1))), o 6 (.mov (t 76))]))))))
 (.seq (.seq (.ops [o 8 (.mov (c (.int .i64 0)))])
 (.block 2 (.loop (.seq (.seq (.ops [o 85 (.mov (t 8)), o 86 (.fAddr 2 (t 1)), o 87 (.load 1 false (t 86)), o 88 (.lenSl (t 87)), o 89 (.bin .lss (t 85) (t 88))])
 (.cond (t 89) .skip (.exit 2)))
 (.seq (.block 3 (.seq (.ops [o 92 (.fAddr 2 (t 1)), o 93 (.load 1 false (t 92)), o 94 (.mov (t 8)), o 95 (.slc 1 (t 93) none (some (t 94))), o 96 (.fAddr 2 (t 1)), o 97 (.load 1 false (t 96)), o 98 (.mov (t 8)), o 99 (.iAddrS 1 (t 97) (t 98)), o 100 (.load 1 false (t 99)), o 101 (.call true (c (.fn 45 [] [])) [(t 95), (t 100)]), o 9 (.mov (t 101))])
 (.seq (.ops [o 102 (.mov (t 9))])
 (.cond (t 102) (.seq (.ops [o 2 (.mov (c (.int .i64 6)))])
 .ret) .skip))))
 (.ops [o 90 (.mov (t 8)), o 91 (.bin .add (t 90) (c (.int .i64 1))), o 8 (.mov (t 91))]))))))
 (.seq (.ops [o 2 (.mov (c (.int .i64 0)))])
 .ret))))))))))⟩
def c39 : Func :=
⟨1, 18, [.tmp 2],
 (.seq (.ops [o 2 (.mov (c (.sl 1 true [])))])
 (.seq (.ops [o 3 (.mov (c (.sl 1 true [])))])
 (.seq (.seq (.ops [o 4 (.mov (c (.int .i64 0)))])
 (.block 0 (.loop (.seq (.seq (.ops [o 5 (.mov (t 4)), o 6 (.mov (t 0)), o 7 (.lenSl (t 6)), o 8 (.bin .lss (t 5) (t 7))])
 (.cond (t 8) .skip (.exit 0)))
 (.seq (.block 1 (.ops [o 11 (.mov (t 3)), o 12 (.mov (t 0)), o 13 (.mov (t 4)), o 14 (.iAddrS 1 (t 12) (t 13)), o 15 (.load 1 false (t 14)), o 16 (.call false (c (.fn 54 [] [])) [(t 11), (t 15)]), o 3 (.mov (t 16))]))
 (.ops [o 9 (.mov (t 4)), o 10 (.bin .add (t 9) (c (.int .i64 1))), o 4 (.mov (t 10))]))))))
 (.seq (.ops [o 17 (.mov (t 3)), o 2 (.mov (t 17))])
 .ret))))⟩
def c40 : Func :=
⟨3, 109, [.cell 6 6 true, .tmp 7],
 (.seq (.ops [o 6 (.alloc [(.bool false), (.bool false), (.bool false), (.sl 1 true []), (.int .i64 0), (.int .i64 0)]), o 7 (.mov (c (.bool false)))])
 (.join (.block 0 (.loop (.seq (.seq (.ops [o 20 (.mov (t 0)), o 21 (.mov (t 1)), o 22 (.bin .leq (t 20) (t 21))])
 (.cond (t 22) .skip (.exit 0)))
 (.block 1 (.seq (.ops [o 23 (.mov (t 0)), o 24 (.call false (c (.fn 37 [] [])) [(t 23)]), o 8 (.mov (t 24))])
 (.seq (.ops [o 25 (.mov (t 2)), o 26 (.mov (t 8)), o 27 (.call false (c (.fn 45 [] [])) [(t 25), (t 26)]), o 9 (.mov (t 27))])
 (.seq (.seq (.ops [o 28 (.mov (t 9)), o 29 (.un .not (t 28))])
 (.cond (t 29) (.exit 0) .skip))
 (.ops [o 30 (.mov (t 0)), o 31 (.bin .add (t 30) (c (.int .i64 1))), o 0 (.mov (t 31))]))))))))
 (.join (.block 2 (.loop (.seq (.seq (.ops [o 32 (.mov (t 0)), o 33 (.mov (t 1)), o 34 (.bin .leq (t 32) (t 33))])
 (.cond (t 34) .skip (.exit 2)))
 (.block 3 (.seq (.ops [o 35 (.mov (t 1)), o 36 (.call false (c (.fn 37 [] [])) [(t 35)]), o 10 (.mov (t 36))])
 (.seq (.ops [o 37 (.mov (t 2)), o 38 (.mov (t 10)), o 39 (.call false (c (.fn 45 [] [])) [(t 37), (t 38)]), o 11 (.mov (t 39))])
 (.seq (.seq (.ops [o 40 (.mov (t 11)), o 41 (.un .not (t 40))])
 (.cond (t 41) (.exit 2) .skip))
 (.ops [o 42 (.mov (t 1)), o 43 (.bin .sub (t 42) (c (.int .i64 1))), o 1 (.mov (t 43))]))))))))
 (.seq (.ops [o 12 (.mov (c (.sl 1 true [])))])
 (.join (.seq (.ops [o 13 (.mov (c (.int .i64 0)))])
 (.block 4 (.loop (.seq (.seq (.ops [o 44 (.mov (t 13)), o 45 (.mov (t 2)), o 46 (.lenSl (t 45)), o 47 (.bin .lss (t 44) (t 46))])
 (.cond (t 47) .skip (.exit 4)))
 (.seq (.block 5 (.seq (.ops [o 51 (.mov (t 2)), o 52 (.mov (t 13)), o 53 (.iAddrS 1 (t 51) (t 52)), o 54 (.load 1 false (t 53)), o 55 (.call false (c (.fn 15 [] [])) [(t 54)]), o 50 (.mov (t 55)), o 56 (.ext 0 (t 50)), o 57 (.ext 1 (t 50)), o 14 (.mov (t 56)), o 15 (.mov (t 57))])
 (.seq (.ops [o 58 (.mov (t 15)), o 59 (.mov (t 58)), ⟨some 60, .mov (t 14), some (59, true)⟩, ⟨some 61, .mov (t 0), some (59, true)⟩, ⟨some 62, .bin .gtr (t 60) (t 61), some (59, true)⟩, o 63 (.pick (t 59) (t 62) (c (.bool false))), o 64 (.mov (t 63)), ⟨some 65, .mov (t 14), some (64, true)⟩, ⟨some 66, .mov (t 1), some (64, true)⟩, ⟨some 67, .bin .lss (t 65) (t 66), some (64, true)⟩, o 68 (.pick (t 64) (t 67) (c (.bool false)))])
 (.cond (t 68) (.ops [o 69 (.mov (t 12)), o 70 (.mov (t 2)), o 71 (.mov (t 13)), o 72 (.iAddrS 1 (t 70) (t 71)), o 73 (.load 1 false (t 72)), o 74 (.call false (c (.fn 54 [] [])) [(t 69), (t 73)]), o 12 (.mov (t 74))]) .skip))))
 (.ops [o 48 (.mov (t 13)), o 49 (.bin .add (t 48) (c (.int .i64 1))), o 13 (.mov (t 49))]))))))
 (.seq (.seq (.ops [o 75 (.mov (t 1)), o 76 (.mov (t 0)), o 77 (.bin .sub (t 75) (t 76)), o 78 (.bin .add (t 77) (c (.int .i64 1))), o 79 (.mov (t 12)), o 80 (.lenSl (t 79)), o 81 (.bin .sub (t 78) (t 80)), o 82 (.bin .leq (t 81) (c (.int .i64 64)))])
 (.cond (t 82) (.seq (.ops [o 16 (.mov (c (.sl 1 true [])))])
 (.seq (.seq (.ops [o 83 (.mov (t 0)), o 17 (.mov (t 83))])
 (.block 6 (.loop (.seq (.seq (.ops [o 84 (.mov (t 17)), o 85 (.mov (t 1)), o 86 (.bin .leq (t 84) (t 85))])
 (.cond (t 86) .skip (.exit 6)))
 (.seq (.block 7 (.seq (.ops [o 89 (.mov (t 17)), o 90 (.call false (c (.fn 37 [] [])) [(t 89)]), o 18 (.mov (t 90))])
 (.seq (.ops [o 91 (.mov (t 12)), o 92 (.mov (t 18)), o 93 (.call false (c (.fn 45 [] [])) [(t 91), (t 92)]), o 19 (.mov (t 93))])
 (.seq (.ops [o 94 (.mov (t 19)), o 95 (.un .not (t 94))])
 (.cond (t 95) (.ops [o 96 (.mov (t 16)), o 97 (.mov (t 18)), o 98 (.call false (c (.fn 54 [] [])) [(t 96), (t 97)]), o 16 (.mov (t 98))]) .skip)))))
 (.ops [o 87 (.mov (t 17)), o 88 (.bin .add (t 87) (c (.int .i64 1))), o 17 (.mov (t 88))]))))))
 (.seq (.ops [o 99 (.mov (t 16)), o 100 (.build [(.bool false), (.bool false), (.bool false), (.sl 1 true []), (.int .i64 0), (.int .i64 0)] [(3, 1, (t 99))]), w (.store 6 (t 6) (t 100)), o 7 (.mov (c (.bool true)))])
 .ret))) .skip))
 (.seq (.seq (.ops [o 101 (.mov (t 12)), o 102 (.lenSl (t 101)), o 103 (.bin .gtr (t 102) (c (.int .i64 64)))])
 (.cond (t 103) (.seq (.ops [o 104 (.build [(.bool false), (.bool false), (.bool false), (.sl 1 true []), (.int .i64 0), (.int .i64 0)] []), w (.store 6 (t 6) (t 104)), o 7 (.mov (c (.bool false)))])
 .ret) .skip))
 (.seq (.ops [o 105 (.mov (t 12)), o 106 (.mov (t 0)), o 107 (.mov (t 1)), o 108 (.build [(.bool false), (.bool false), (.bool false), (.sl 1 true []), (.int .i64 0), (.int .i64 0)] [(1, 1, (c (.bool true))), (2, 1, (c (.bool true))), (3, 1, (t 105)), (4, 1, (t 106)), (5, 1, (t 107))]), w (.store 6 (t 6) (t 108)), o 7 (.mov (c (.bool true)))])
 .ret))))))))⟩
def c41 : Func :=
⟨2, 66, [.tmp 4],
 (.seq (.ops [o 2 (.box (t 0)), o 3 (.box (t 1)), o 4 (.mov (c (.bool false)))])
 (.seq (.seq (.ops [o 6 (.fAddr 0 (t 2)), o 7 (.load 1 false (t 6)), o 8 (.fAddr 0 (t 3)), o 9 (.load 1 false (t 8)), o 10 (.eqb true (t 7) (t 9)), o 11 (.mov (t 10)), ⟨some 12, .fAddr 1 (t 2), some (11, false)⟩, ⟨some 13, .load 1 false (t 12), some (11, false)⟩, ⟨some 14, .fAddr 1 (t 3), some (11, false)⟩, ⟨some 15, .load 1 false (t 14), some (11, false)⟩, ⟨some 16, .eqb true (t 13) (t 15), some (11, false)⟩, o 17 (.pick (t 11) (c (.bool true)) (t 16)), o 18 (.mov (t 17)), ⟨some 19, .fAddr 2 (t 2), some (18, false)⟩, ⟨some 20, .load 1 false (t 19), some (18, false)⟩, ⟨some 21, .fAddr 2 (t 3), some (18, false)⟩, ⟨some 22, .load 1 false (t 21), some (18, false)⟩, ⟨some 23, .eqb true (t 20) (t 22), some (18, false)⟩, o 24 (.pick (t 18) (c (.bool true)) (t 23)), o 25 (.mov (t 24)), ⟨some 26, .fAddr 4 (t 2), some (25, false)⟩, ⟨some 27, .load 1 false (t 26), some (25, false)⟩, ⟨some 28, .fAddr 4 (t 3), some (25, false)⟩, ⟨some 29, .load 1 false (t 28), some (25, false)⟩, ⟨some 30, .bin .neq (t 27) (t 29), some (25, false)⟩, o 31 (.pick (t 25) (c (.bool true)) (t 30)), o 32 (.mov (t 31)), ⟨some 33, .fAddr 5 (t 2), some (32, false)⟩, ⟨some 34, .load 1 false (t 33), some (32, false)⟩, ⟨some 35, .fAddr 5 (t 3), some (32, false)⟩, ⟨some 36, .load 1 false (t 35), some (32, false)⟩, ⟨some 37, .bin .neq (t 34) (t 36), some (32, false)⟩, o 38 (.pick (t 32) (c (.bool true)) (t 37)), o 39 (.mov (t 38)), ⟨some 40, .fAddr 3 (t 2), some (39, false)⟩, ⟨some 41, .load 1 false (t 40), some (39, false)⟩, ⟨some 42, .lenSl (t 41), some (39, false)⟩, ⟨some 43, .fAddr 3 (t 3), some (39, false)⟩, ⟨some 44, .load 1 false (t 43), some (39, false)⟩, ⟨some 45, .lenSl (t 44), some (39, false)⟩, ⟨some 46, .bin .neq (t 42) (t 45), some (39, false)⟩, o 47 (.pick (t 39) (c (.bool true)) (t 46))])
 (.cond (t 47) (.seq (.ops [o 4 (.mov (c (.bool false)))])
 .ret) .skip))
 (.seq (.seq (.ops [o 5 (.mov (c (.int .i64 0)))])
 (.block 0 (.loop (.seq (.seq (.ops [o 48 (.mov (t 5)), o 49 (.fAddr 3 (t 2)), o 50 (.load 1 false (t 49)), o 51 (.lenSl (t 50)), o 52 (.bin .lss (t 48) (t 51))])
 (.cond (t 52) .skip (.exit 0)))
 (.seq (.block 1 (.seq (.ops [o 55 (.fAddr 3 (t 2)), o 56 (.load 1 false (t 55)), o 57 (.mov (t 5)), o 58 (.iAddrS 1 (t 56) (t 57)), o 59 (.load 1 false (t 58)), o 60 (.fAddr 3 (t 3)), o 61 (.load 1 false (t 60)), o 62 (.mov (t 5)), o 63 (.iAddrS 1 (t 61) (t 62)), o 64 (.load 1 false (t 63)), o 65 (.bin .neq (t 59) (t 64))])
 (.cond (t 65) (.seq (.ops [o 4 (.mov (c (.bool false)))])
 .ret) .skip)))
 (.ops [o 53 (.mov (t 5)), o 54 (.bin .add (t 53) (c (.int .i64 1))), o 5 (.mov (t 54))]))))))
 (.seq (.ops [o 4 (.mov (c (.bool true)))])
 .ret))))⟩
def c42 : Func :=
⟨1, 37, [.tmp 2],
 (.seq (.ops [o 2 (.mov (c (.bool false)))])
 (.seq (.seq (.ops [o 5 (.mov (t 0)), o 6 (.lenSl (t 5)), o 7 (.bin .gtr (t 6) (c (.int .i64 64)))])
 (.cond (t 7) (.seq (.ops [o 2 (.mov (c (.bool false)))])
 .ret) .skip))
 (.seq (.seq (.ops [o 3 (.mov (c (.int .i64 0)))])
 (.block 0 (.loop (.seq (.seq (.ops [o 8 (.mov (t 3)), o 9 (.mov (t 0)), o 10 (.lenSl (t 9)), o 11 (.bin .lss (t 8) (t 10))])
 (.cond (t 11) .skip (.exit 0)))
 (.seq (.block 1 (.seq (.ops [o 14 (.mov (t 0)), o 15 (.mov (t 3)), o 16 (.iAddrS 1 (t 14) (t 15)), o 17 (.load 1 false (t 16)), o 18 (.call false (c (.fn 17 [] [])) [(t 17)]), o 4 (.mov (t 18))])
 (.seq (.ops [o 19 (.mov (t 4)), o 20 (.un .not (t 19)), o 21 (.mov (t 20)), ⟨some 22, .mov (t 3), some (21, false)⟩, ⟨some 23, .bin .gtr (t 22) (c (.int .i64 0)), some (21, false)⟩, ⟨some 24, .mov (t 23), some (21, false)⟩, ⟨some 25, .mov (t 0), some (24, true)⟩, ⟨some 26, .mov (t 3), some (24, true)⟩, ⟨some 27, .bin .sub (t 26) (c (.int .i64 1)), some (24, true)⟩, ⟨some 28, .iAddrS 1 (t 25) (t 27), some (24, true)⟩, ⟨some 29, .load 1 false (t 28), some (24, true)⟩, ⟨some 30, .mov (t 0), some (24, true)⟩, ⟨some 31, .mov (t 3), some (24, true)⟩, ⟨some 32, .iAddrS 1 (t 30) (t 31), some (24, true)⟩, ⟨some 33, .load 1 false (t 32), some (24, true)⟩, ⟨some 34, .bin .geq (t 29) (t 33), some (24, true)⟩, ⟨some 35, .pick (t 24) (t 34) (c (.bool false)), some (21, false)⟩, o 36 (.pick (t 21) (c (.bool true)) (t 35))])
 (.cond (t 36) (.seq (.ops [o 2 (.mov (c (.bool false)))])
 .ret) .skip))))
 (.ops [o 12 (.mov (t 3)), o 13 (.bin .add (t 12) (c (.int .i64 1))), o 3 (.mov (t 13))]))))))
 (.seq (.ops [o 2 (.mov (c (.bool true)))])
 .ret))))⟩
def c43 : Func :=
⟨2, 37, [.tmp 4],
 (.seq (.ops [o 2 (.box (t 0)), o 4 (.mov (c (.bool false)))])
 (.seq (.ops [o 8 (.fAddr 3 (t 2)), o 9 (.load 1 false (t 8)), o 10 (.mov (t 1)), o 11 (.call false (c (.fn 55 [] [])) [(t 9), (t 10)]), o 5 (.mov (t 11))])
 (.seq (.seq (.ops [o 12 (.fAddr 1 (t 2)), o 13 (.load 1 false (t 12)), o 14 (.mov (t 5)), o 15 (.eqb true (t 13) (t 14))])
 (.cond (t 15) (.seq (.seq (.ops [o 16 (.fAddr 2 (t 2)), o 17 (.load 1 false (t 16)), o 18 (.un .not (t 17))])
 (.cond (t 18) (.seq (.ops [o 4 (.mov (c (.bool true)))])
 .ret) .skip))
 (.seq (.ops [o 20 (.mov (t 1)), o 21 (.call false (c (.fn 13 [] [])) [(t 20)]), o 19 (.mov (t 21)), o 22 (.ext 0 (t 19)), o 23 (.ext 1 (t 19)), o 6 (.mov (t 22)), o 7 (.mov (t 23))])
 (.seq (.ops [o 24 (.mov (t 7)), o 25 (.mov (t 24)), ⟨some 26, .mov (t 6), some (25, true)⟩, ⟨some 27, .fAddr 4 (t 2), some (25, true)⟩, ⟨some 28, .load 1 false (t 27), some (25, true)⟩, ⟨some 29, .bin .geq (t 26) (t 28), some (25, true)⟩, o 30 (.pick (t 25) (t 29) (c (.bool false))), o 31 (.mov (t 30)), ⟨some 32, .mov (t 6), some (31, true)⟩, ⟨some 33, .fAddr 5 (t 2), some (31, true)⟩, ⟨some 34, .load 1 false (t 33), some (31, true)⟩, ⟨some 35, .bin .leq (t 32) (t 34), some (31, true)⟩, o 36 (.pick (t 31) (t 35) (c (.bool false))), o 4 (.mov (t 36))])
 .ret))) .skip))
 (.seq (.ops [o 4 (.mov (c (.bool false)))])
 .ret))))⟩
def c44 : Func :=
⟨2, 32, [.cell 4 6 true],
 (.seq (.ops [o 3 (.box (t 1)), o 4 (.alloc [(.bool false), (.bool false), (.bool false), (.sl 1 true []), (.int .i64 0), (.int .i64 0)])])
 (.seq (.ops [o 8 (.build [(.bool false), (.bool false), (.bool false), (.sl 1 true []), (.int .i64 0), (.int .i64 0)] []), o 5 (.alloc [(.bool false), (.bool false), (.bool false), (.sl 1 true []), (.int .i64 0), (.int .i64 0)]), w (.store 6 (t 5) (t 8))])
 (.gh (.cell 5 99 3 1 9) (.seq (.seq (.ops [o 6 (.mov (c (.int .i64 0)))])
 (.block 0 (.loop (.seq (.seq (.ops [o 9 (.mov (t 6)), o 10 (.mov (t 0)), o 11 (.lenSl (t 10)), o 12 (.bin .lss (t 9) (t 11))])
 (.cond (t 12) .skip (.exit 0)))
 (.seq (.block 1 (.seq (.ops [o 15 (.load 6 true (t 3)), o 16 (.mov (t 0)), o 17 (.mov (t 6)), o 18 (.iAddrS 1 (t 16) (t 17)), o 19 (.load 1 false (t 18)), o 20 (.call true (c (.fn 28 [] [])) [(t 15), (t 19)]), o 7 (.mov (t 20))])
 (.seq (.ops [o 21 (.mov (t 7))])
 (.cond (t 21) (.ops [o 22 (.fAddrP 3 (t 5)), o 23 (.load 1 false (t 22)), o 24 (.mov (t 0)), o 25 (.mov (t 6)), o 26 (.iAddrS 1 (t 24) (t 25)), o 27 (.load 1 false (t 26)), o 28 (.mkSl true 1 9 (.str ⟨#[]⟩) 1 [(0, (t 27))]), o 29 (.appD 1 9 16 (t 23) (t 28)), o 30 (.fAddrP 3 (t 5)), w (.store 1 (t 30) (t 29))]) .skip))))
 (.ops [o 13 (.mov (t 6)), o 14 (.bin .add (t 13) (c (.int .i64 1))), o 6 (.mov (t 14))]))))))
 (.seq (.ops [o 31 (.load 6 true (t 5)), w (.store 6 (t 4) (t 31))])
 .ret)))))⟩
def c45 : Func :=
⟨2, 18, [.tmp 4],
 (.seq (.ops [o 4 (.mov (c (.bool false)))])
 (.seq (.seq (.ops [o 5 (.mov (c (.int .i64 0)))])
 (.block 0 (.loop (.seq (.seq (.ops [o 6 (.mov (t 5)), o 7 (.mov (t 0)), o 8 (.lenSl (t 7)), o 9 (.bin .lss (t 6) (t 8))])
 (.cond (t 9) .skip (.exit 0)))
 (.seq (.block 1 (.seq (.ops [o 12 (.mov (t 0)), o 13 (.mov (t 5)), o 14 (.iAddrS 1 (t 12) (t 13)), o 15 (.load 1 false (t 14)), o 16 (.mov (t 1)), o 17 (.bin .eql (t 15) (t 16))])
 (.cond (t 17) (.seq (.ops [o 4 (.mov (c (.bool true)))])
 .ret) .skip)))
 (.ops [o 10 (.mov (t 5)), o 11 (.bin .add (t 10) (c (.int .i64 1))), o 5 (.mov (t 11))]))))))
 (.seq (.ops [o 4 (.mov (c (.bool false)))])
 .ret)))⟩
def c46 : Func :=
⟨2, 26, [.tmp 4],
 (.seq (.ops [o 4 (.mov (c (.bool false)))])
 (.seq (.seq (.ops [o 6 (.mov (t 0)), o 7 (.lenSl (t 6)), o 8 (.mov (t 1)), o 9 (.lenSl (t 8)), o 10 (.bin .neq (t 7) (t 9))])
 (.cond (t 10) (.seq (.ops [o 4 (.mov (c (.bool false)))])
 .ret) .skip))
 (.seq (.seq (.ops [o 11 (.mov (t 0)), o 12 (.lenSl (t 11)), o 13 (.mov (c (.int .i64 0)))])
 (.block 0 (.loop (.seq (.ops [o 14 (.bin .lss (t 13) (t 12))])
 (.seq (.cond (t 14) .skip (.exit 0))
 (.seq (.block 1 (.seq (.ops [o 15 (.mov (t 13)), o 5 (.mov (t 15))])
 (.seq (.ops [o 16 (.mov (t 0)), o 17 (.mov (t 5)), o 18 (.iAddrS 1 (t 16) (t 17)), o 19 (.load 1 false (t 18)), o 20 (.mov (t 1)), o 21 (.mov (t 5)), o 22 (.iAddrS 1 (t 20) (t 21)), o 23 (.load 1 false (t 22)), o 24 (.bin .neq (t 19) (t 23))])
 (.cond (t 24) (.seq (.ops [o 4 (.mov (c (.bool false)))])
 .ret) .skip))))
 (.ops [o 25 (.bin .add (t 13) (c (.int .i64 1))), o 13 (.mov (t 25))])))))))
 (.seq (.ops [o 4 (.mov (c (.bool true)))])
 .ret))))⟩
def c47 : Func :=
⟨2, 9, [.tmp 4],
 (.seq (.ops [o 4 (.mov (c (.bool false)))])
 (.seq (.ops [o 5 (.mov (t 0)), o 6 (.mov (t 1)), o 7 (.call false (c (.fn 56 [] [])) [(t 5), (t 6)]), o 8 (.bin .geq (t 7) (c (.int .i64 0))), o 4 (.mov (t 8))])
 .ret))⟩
def c48 : Func :=
⟨1, 6, [.tmp 2],
 (.seq (.ops [o 2 (.mov (c (.bool false)))])
 (.seq (.ops [o 3 (.mov (t 0)), o 4 (.call false (c (.fn 19 [] [])) [(t 3)]), o 5 (.un .not (t 4)), o 2 (.mov (t 5))])
 .ret))⟩
def c54 : Func :=
⟨2, 48, [.tmp 4],
 (.seq (.ops [o 4 (.mov (c (.sl 1 true [])))])
 (.seq (.ops [o 5 (.mov (c (.int .i64 0)))])
 (.seq (.block 0 (.loop (.seq (.seq (.ops [o 7 (.mov (t 5)), o 8 (.mov (t 0)), o 9 (.lenSl (t 8)), o 10 (.bin .lss (t 7) (t 9)), o 11 (.mov (t 10)), ⟨some 12, .mov (t 0), some (11, true)⟩, ⟨some 13, .mov (t 5), some (11, true)⟩, ⟨some 14, .iAddrS 1 (t 12) (t 13), some (11, true)⟩, ⟨some 15, .load 1 false (t 14), some (11, true)⟩, ⟨some 16, .mov (t 1), some (11, true)⟩, ⟨some 17, .bin .lss (t 15) (t 16), some (11, true)⟩, o 18 (.pick (t 11) (t 17) (c (.bool false)))])
 (.cond (t 18) .skip (.exit 0)))
 (.block 1 (.ops [o 19 (.mov (t 5)), o 20 (.bin .add (t 19) (c (.int .i64 1))), o 5 (.mov (t 20))])))))
 (.seq (.seq (.ops [o 21 (.mov (t 5)), o 22 (.mov (t 0)), o 23 (.lenSl (t 22)), o 24 (.bin .lss (t 21) (t 23)), o 25 (.mov (t 24)), ⟨some 26, .mov (t 0), some (25, true)⟩, ⟨some 27, .mov (t 5), some (25, true)⟩, ⟨some 28, .iAddrS 1 (t 26) (t 27), some (25, true)⟩, ⟨some 29, .load 1 false (t 28), some (25, true)⟩, ⟨some 30, .mov (t 1), some (25, true)⟩, ⟨some 31, .bin .eql (t 29) (t 30), some (25, true)⟩, o 32 (.pick (t 25) (t 31) (c (.bool false)))])
 (.cond (t 32) (.seq (.ops [o 33 (.mov (t 0)), o 4 (.mov (t 33))])
 .ret) .skip))
 (.seq (.ops [o 6 (.mov (c (.sl 1 true [])))])
 (.seq (.ops [o 34 (.mov (t 6)), o 35 (.mov (t 0)), o 36 (.mov (t 5)), o 37 (.slc 1 (t 35) none (some (t 36))), o 38 (.app 1 9 16 (t 34) (t 37)), o 6 (.mov (t 38))])
 (.seq (.ops [o 39 (.mov (t 6)), o 40 (.mov (t 1)), o 41 (.mkSl false 1 9 (.str ⟨#[]⟩) 1 [(0, (t 40))]), o 42 (.app 1 9 16 (t 39) (t 41)), o 6 (.mov (t 42))])
 (.seq (.ops [o 43 (.mov (t 6)), o 44 (.mov (t 0)), o 45 (.mov (t 5)), o 46 (.slc 1 (t 44) (some (t 45)) none), o 47 (.app 1 9 16 (t 43) (t 46)), o 4 (.mov (t 47))])
 .ret))))))))⟩
def c55 : Func :=
⟨2, 9, [.tmp 4],
 (.seq (.ops [o 4 (.mov (c (.bool false)))])
 (.seq (.ops [o 5 (.mov (t 0)), o 6 (.mov (t 1)), o 7 (.call false (c (.fn 69 [] [])) [(t 5), (t 6)]), o 8 (.bin .geq (t 7) (c (.int .i64 0))), o 4 (.mov (t 8))])
 .ret))⟩
def c56 : Func :=
⟨2, 19, [.tmp 4],
 (.seq (.ops [o 4 (.mov (c (.int .i64 0)))])
 (.seq (.seq (.ops [o 6 (.mov (t 0)), o 7 (.lenSl (t 6)), o 8 (.mov (c (.int .i64 0)))])
 (.block 0 (.loop (.seq (.ops [o 9 (.bin .lss (t 8) (t 7))])
 (.seq (.cond (t 9) .skip (.exit 0))
 (.seq (.block 1 (.seq (.ops [o 10 (.mov (t 8)), o 5 (.mov (t 10))])
 (.seq (.ops [o 11 (.mov (t 1)), o 12 (.mov (t 0)), o 13 (.mov (t 5)), o 14 (.iAddrS 1 (t 12) (t 13)), o 15 (.load 1 false (t 14)), o 16 (.call false (t 11) [(t 15)])])
 (.cond (t 16) (.seq (.ops [o 17 (.mov (t 5)), o 4 (.mov (t 17))])
 .ret) .skip))))
 (.ops [o 18 (.bin .add (t 8) (c (.int .i64 1))), o 8 (.mov (t 18))])))))))
 (.seq (.ops [o 4 (.mov (c (.int .i64 (-1))))])
 .ret)))⟩
def c69 : Func :=
⟨2, 19, [.tmp 4],
 (.seq (.ops [o 4 (.mov (c (.int .i64 0)))])
 (.seq (.seq (.ops [o 6 (.mov (t 0)), o 7 (.lenSl (t 6)), o 8 (.mov (c (.int .i64 0)))])
 (.block 0 (.loop (.seq (.ops [o 9 (.bin .lss (t 8) (t 7))])
 (.seq (.cond (t 9) .skip (.exit 0))
 (.seq (.block 1 (.seq (.ops [o 10 (.mov (t 8)), o 5 (.mov (t 10))])
 (.seq (.ops [o 11 (.mov (t 1)), o 12 (.mov (t 0)), o 13 (.mov (t 5)), o 14 (.iAddrS 1 (t 12) (t 13)), o 15 (.load 1 false (t 14)), o 16 (.bin .eql (t 11) (t 15))])
 (.cond (t 16) (.seq (.ops [o 17 (.mov (t 5)), o 4 (.mov (t 17))])
 .ret) .skip))))
 (.ops [o 18 (.bin .add (t 8) (c (.int .i64 1))), o 8 (.mov (t 18))])))))))
 (.seq (.ops [o 4 (.mov (c (.int .i64 (-1))))])
 .ret)))⟩
def c3 : Func :=
⟨0, 75, [.tmp 0],
 (.seq (.ops [o 0 (.mov (c (.bool false)))])
 (.seq (.ops [o 1 (.mov (c (.bool true)))])
 (.seq (.ops [o 2 (.mov (c (.bool true)))])
 (.seq (.ops [o 12 (.build [(.str ⟨#[]⟩), (.int .i64 0), (.sl 1 true []), (.int .i64 0)] [(0, 1, (c (.str ⟨#[107]⟩))), (1, 1, (c (.int .i64 5))), (3, 1, (c (.int .i64 2147483584)))]), o 13 (.call false (c (.fn 12 [] [])) [(t 12)]), o 11 (.mov (t 13)), o 14 (.ext 0 (t 11)), o 15 (.ext 1 (t 11)), o 3 (.alloc [(.bool false), (.bool false), (.bool false), (.sl 1 true []), (.int .i64 0), (.int .i64 0)]), w (.store 6 (t 3) (t 14)), o 4 (.mov (t 15))])
 (.seq (.ops [o 17 (.build [(.str ⟨#[]⟩), (.int .i64 0), (.sl 1 true []), (.int .i64 0)] [(0, 1, (c (.str ⟨#[107]⟩))), (1, 1, (c (.int .i64 5))), (3, 1, (c (.int .i64 2147483583)))]), o 18 (.call false (c (.fn 12 [] [])) [(t 17)]), o 16 (.mov (t 18)), o 19 (.ext 0 (t 16)), o 20 (.ext 1 (t 16)), o 5 (.alloc [(.bool false), (.bool false), (.bool false), (.sl 1 true []), (.int .i64 0), (.int .i64 0)]), w (.store 6 (t 5) (t 19)), o 6 (.mov (t 20))])
 (.seq (.ops [o 22 (.call false (c (.fn 13 [] [])) [(c (.str ⟨#[45, 50, 49, 52, 55, 52, 56, 51, 54, 52, 56]⟩))]), o 21 (.mov (t 22)), o 23 (.ext 0 (t 21)), o 24 (.ext 1 (t 21)), o 7 (.mov (t 23)), o 8 (.mov (t 24))])
 (.seq (.ops [o 26 (.call false (c (.fn 13 [] [])) [(c (.str ⟨#[50, 49, 52, 55, 52, 56, 51, 54, 52, 57]⟩))]), o 25 (.mov (t 26)), o 27 (.ext 0 (t 25)), o 28 (.ext 1 (t 25)), o 9 (.mov (t 27)), o 10 (.mov (t 28))])
 (.seq (.ops [o 29 (.mov (t 1)), o 30 (.mov (t 29)), ⟨some 31, .mov (t 2), some (30, true)⟩, o 32 (.pick (t 30) (t 31) (c (.bool false))), o 33 (.mov (t 32)), ⟨some 34, .call false (c (.fn 14 [] [])) [], some (33, true)⟩, o 35 (.pick (t 33) (t 34) (c (.bool false))), o 36 (.mov (t 35)), ⟨some 37, .mov (t 4), some (36, true)⟩, ⟨some 38, .bin .eql (t 37) (c (.int .i64 0)), some (36, true)⟩, o 39 (.pick (t 36) (t 38) (c (.bool false))), o 40 (.mov (t 39)), ⟨some 41, .fAddr 3 (t 3), some (40, true)⟩, ⟨some 42, .load 1 false (t 41), some (40, true)⟩, ⟨some 43, .lenSl (t 42), some (40, true)⟩, ⟨some 44, .bin .eql (t 43) (c (.int .i64 64)), some (40, true)⟩, o 45 (.pick (t 40) (t 44) (c (.bool false))), o 46 (.mov (t 45)), ⟨some 47, .fAddr 2 (t 3), some (46, true)⟩, ⟨some 48, .load 1 false (t 47), some (46, true)⟩, ⟨some 49, .un .not (t 48), some (46, true)⟩, o 50 (.pick (t 46) (t 49) (c (.bool false))), o 51 (.mov (t 50)), ⟨some 52, .mov (t 6), some (51, true)⟩, ⟨some 53, .bin .eql (t 52) (c (.int .i64 0)), some (51, true)⟩, o 54 (.pick (t 51) (t 53) (c (.bool false))), o 55 (.mov (t 54)), ⟨some 56, .fAddr 2 (t 5), some (55, true)⟩, ⟨some 57, .load 1 false (t 56), some (55, true)⟩, o 58 (.pick (t 55) (t 57) (c (.bool false))), o 59 (.mov (t 58)), ⟨some 60, .fAddr 4 (t 5), some (59, true)⟩, ⟨some 61, .load 1 false (t 60), some (59, true)⟩, ⟨some 62, .bin .eql (t 61) (c (.int .i64 2147483584)), some (59, true)⟩, o 63 (.pick (t 59) (t 62) (c (.bool false))), o 64 (.mov (t 63)), ⟨some 65, .mov (t 7), some (64, true)⟩, ⟨some 66, .bin .eql (t 65) (c (.int .i64 (-2147483648))), some (64, true)⟩, o 67 (.pick (t 64) (t 66) (c (.bool false))), o 68 (.mov (t 67)), ⟨some 69, .mov (t 8), some (68, true)⟩, o 70 (.pick (t 68) (t 69) (c (.bool false))), o 71 (.mov (t 70)), ⟨some 72, .mov (t 10), some (71, true)⟩, ⟨some 73, .un .not (t 72), some (71, true)⟩, o 74 (.pick (t 71) (t 73) (c (.bool false))), o 0 (.mov (t 74))])
 .ret))))))))⟩
def c4 : Func :=
⟨1, 46, [.tmp 2],
 (.seq (.ops [o 2 (.mov (c (.bool false)))])
 (.seq (.ops [o 10 (.mov (t 0)), o 11 (.call false (c (.fn 13 [] [])) [(t 10)]), o 9 (.mov (t 11)), o 12 (.ext 0 (t 9)), o 13 (.ext 1 (t 9)), o 3 (.mov (t 12)), o 4 (.mov (t 13))])
 (.seq (.ops [o 15 (.mov (t 0)), o 16 (.call false (c (.fn 15 [] [])) [(t 15)]), o 14 (.mov (t 16)), o 17 (.ext 0 (t 14)), o 18 (.ext 1 (t 14)), o 5 (.mov (t 17)), o 6 (.mov (t 18))])
 (.seq (.ops [o 19 (.mov (t 0)), o 20 (.call false (c (.fn 16 [] [])) [(t 19)]), o 7 (.mov (t 20))])
 (.seq (.ops [o 21 (.mov (t 0)), o 22 (.call false (c (.fn 17 [] [])) [(t 21)]), o 8 (.mov (t 22))])
 (.seq (.ops [o 23 (.call false (c (.fn 14 [] [])) []), o 24 (.mov (t 23)), ⟨some 25, .mov (t 3), some (24, true)⟩, ⟨some 26, .mov (t 5), some (24, true)⟩, ⟨some 27, .bin .eql (t 25) (t 26), some (24, true)⟩, o 28 (.pick (t 24) (t 27) (c (.bool false))), o 29 (.mov (t 28)), ⟨some 30, .mov (t 4), some (29, true)⟩, ⟨some 31, .mov (t 6), some (29, true)⟩, ⟨some 32, .eqb false (t 30) (t 31), some (29, true)⟩, o 33 (.pick (t 29) (t 32) (c (.bool false))), o 34 (.mov (t 33)), ⟨some 35, .mov (t 0), some (34, true)⟩, ⟨some 36, .call false (c (.fn 18 [] [])) [(t 35)], some (34, true)⟩, ⟨some 37, .mov (t 7), some (34, true)⟩, ⟨some 38, .eqb false (t 36) (t 37), some (34, true)⟩, o 39 (.pick (t 34) (t 38) (c (.bool false))), o 40 (.mov (t 39)), ⟨some 41, .mov (t 0), some (40, true)⟩, ⟨some 42, .call false (c (.fn 19 [] [])) [(t 41)], some (40, true)⟩, ⟨some 43, .mov (t 8), some (40, true)⟩, ⟨some 44, .eqb false (t 42) (t 43), some (40, true)⟩, o 45 (.pick (t 40) (t 44) (c (.bool false))), o 2 (.mov (t 45))])
 .ret))))))⟩
def c5 : Func :=
⟨1, 71, [.tmp 2],
 (.seq (.ops [o 1 (.box (t 0)), o 2 (.mov (c (.bool false)))])
 (.seq (.ops [o 11 (.mkSl false 1 9 (.str ⟨#[]⟩) 0 []), o 12 (.fAddr 2 (t 1)), o 13 (.load 1 false (t 12)), o 14 (.app 1 9 16 (t 11) (t 13)), o 3 (.mov (t 14))])
 (.seq (.ops [o 16 (.load 4 true (t 1)), o 17 (.call false (c (.fn 12 [] [])) [(t 16)]), o 15 (.mov (t 17)), o 18 (.ext 0 (t 15)), o 19 (.ext 1 (t 15)), o 4 (.alloc [(.bool false), (.bool false), (.bool false), (.sl 1 true []), (.int .i64 0), (.int .i64 0)]), w (.store 6 (t 4) (t 18)), o 5 (.mov (t 19))])
 (.seq (.ops [o 21 (.fAddr 0 (t 1)), o 22 (.load 1 false (t 21)), o 23 (.fAddr 1 (t 1)), o 24 (.load 1 false (t 23)), o 25 (.mov (t 3)), o 26 (.fAddr 3 (t 1)), o 27 (.load 1 false (t 26)), o 28 (.build [(.str ⟨#[]⟩), (.int .i64 0), (.sl 1 true []), (.int .i64 0)] [(0, 1, (t 22)), (1, 1, (t 24)), (2, 1, (t 25)), (3, 1, (t 27))]), o 29 (.call false (c (.fn 20 [] [])) [(t 28)]), o 20 (.mov (t 29)), o 30 (.ext 0 (t 20)), o 31 (.ext 1 (t 20)), o 6 (.alloc [(.bool false), (.bool false), (.bool false), (.sl 1 true []), (.int .i64 0), (.int .i64 0)]), w (.store 6 (t 6) (t 30)), o 7 (.mov (t 31))])
 (.seq (.ops [o 32 (.mov (t 5)), o 33 (.mov (t 7)), o 34 (.bin .eql (t 32) (t 33)), o 35 (.mov (t 34)), ⟨some 36, .load 6 true (t 4), some (35, true)⟩, ⟨some 37, .load 6 true (t 6), some (35, true)⟩, ⟨some 38, .call false (c (.fn 21 [] [])) [(t 36), (t 37)], some (35, true)⟩, o 39 (.pick (t 35) (t 38) (c (.bool false))), o 8 (.mov (t 39))])
 (.seq (.seq (.ops [o 9 (.mov (c (.int .i64 0)))])
 (.block 0 (.loop (.seq (.seq (.ops [o 40 (.mov (t 9)), o 41 (.fAddr 3 (t 4)), o 42 (.load 1 false (t 41)), o 43 (.lenSl (t 42)), o 44 (.bin .lss (t 40) (t 43))])
 (.cond (t 44) .skip (.exit 0)))
 (.seq (.block 1 (.ops [o 47 (.fAddr 3 (t 4)), o 48 (.load 1 false (t 47)), o 49 (.mov (t 9)), o 50 (.iAddrS 1 (t 48) (t 49)), w (.store 1 (t 50) (c (.str ⟨#[64]⟩)))]))
 (.ops [o 45 (.mov (t 9)), o 46 (.bin .add (t 45) (c (.int .i64 1))), o 9 (.mov (t 46))]))))))
 (.seq (.seq (.ops [o 10 (.mov (c (.int .i64 0)))])
 (.block 2 (.loop (.seq (.seq (.ops [o 51 (.mov (t 10)), o 52 (.mov (t 3)), o 53 (.lenSl (t 52)), o 54 (.bin .lss (t 51) (t 53))])
 (.cond (t 54) .skip (.exit 2)))
 (.seq (.block 3 (.seq (.ops [o 57 (.mov (t 3)), o 58 (.mov (t 10)), o 59 (.iAddrS 1 (t 57) (t 58)), o 60 (.load 1 false (t 59)), o 61 (.fAddr 2 (t 1)), o 62 (.load 1 false (t 61)), o 63 (.mov (t 10)), o 64 (.iAddrS 1 (t 62) (t 63)), o 65 (.load 1 false (t 64)), o 66 (.bin .neq (t 60) (t 65))])
 (.cond (t 66) (.seq (.ops [o 2 (.mov (c (.bool false)))])
 .ret) .skip)))
 (.ops [o 55 (.mov (t 10)), o 56 (.bin .add (t 55) (c (.int .i64 1))), o 10 (.mov (t 56))]))))))
 (.seq (.ops [o 67 (.call false (c (.fn 14 [] [])) []), o 68 (.mov (t 67)), ⟨some 69, .mov (t 8), some (68, true)⟩, o 70 (.pick (t 68) (t 69) (c (.bool false))), o 2 (.mov (t 70))])
 .ret))))))))⟩
def c6 : Func :=
⟨1, 13, [.tmp 2],
 (.seq (.ops [o 1 (.box (t 0)), o 2 (.mov (c (.bool false)))])
 (.seq (.ops [o 4 (.load 6 true (t 1)), o 5 (.call false (c (.fn 22 [] [])) [(t 4)]), o 3 (.mov (t 5))])
 (.seq (.ops [o 6 (.call false (c (.fn 14 [] [])) []), o 7 (.mov (t 6)), ⟨some 8, .load 6 true (t 1), some (7, true)⟩, ⟨some 9, .call false (c (.fn 23 [] [])) [(t 8)], some (7, true)⟩, ⟨some 10, .mov (t 3), some (7, true)⟩, ⟨some 11, .bin .eql (t 9) (t 10), some (7, true)⟩, o 12 (.pick (t 7) (t 11) (c (.bool false))), o 2 (.mov (t 12))])
 .ret)))⟩
def c7 : Func :=
⟨2, 70, [.tmp 4],
 (.seq (.ops [o 2 (.box (t 0)), o 3 (.box (t 1)), o 4 (.mov (c (.bool false)))])
 (.seq (.ops [o 13 (.load 6 true (t 2)), o 5 (.alloc [(.bool false), (.bool false), (.bool false), (.sl 1 true []), (.int .i64 0), (.int .i64 0)]), w (.store 6 (t 5) (t 13))])
 (.seq (.ops [o 14 (.load 6 true (t 3)), o 6 (.alloc [(.bool false), (.bool false), (.bool false), (.sl 1 true []), (.int .i64 0), (.int .i64 0)]), w (.store 6 (t 6) (t 14))])
 (.seq (.ops [o 15 (.mkSl false 1 9 (.str ⟨#[]⟩) 0 []), o 16 (.fAddr 3 (t 2)), o 17 (.load 1 false (t 16)), o 18 (.app 1 9 16 (t 15) (t 17)), o 19 (.fAddr 3 (t 5)), w (.store 1 (t 19) (t 18))])
 (.seq (.ops [o 20 (.mkSl false 1 9 (.str ⟨#[]⟩) 0 []), o 21 (.fAddr 3 (t 3)), o 22 (.load 1 false (t 21)), o 23 (.app 1 9 16 (t 20) (t 22)), o 24 (.fAddr 3 (t 6)), w (.store 1 (t 24) (t 23))])
 (.seq (.ops [o 26 (.load 6 true (t 2)), o 27 (.load 6 true (t 3)), o 28 (.call false (c (.fn 24 [] [])) [(t 26), (t 27)]), o 25 (.mov (t 28)), o 29 (.ext 0 (t 25)), o 30 (.ext 1 (t 25)), o 7 (.alloc [(.bool false), (.bool false), (.bool false), (.sl 1 true []), (.int .i64 0), (.int .i64 0)]), w (.store 6 (t 7) (t 29)), o 8 (.mov (t 30))])
 (.seq (.ops [o 32 (.load 6 true (t 5)), o 33 (.load 6 true (t 6)), o 34 (.call false (c (.fn 25 [] [])) [(t 32), (t 33)]), o 31 (.mov (t 34)), o 35 (.ext 0 (t 31)), o 36 (.ext 1 (t 31)), o 9 (.alloc [(.bool false), (.bool false), (.bool false), (.sl 1 true []), (.int .i64 0), (.int .i64 0)]), w (.store 6 (t 9) (t 35)), o 10 (.mov (t 36))])
 (.seq (.ops [o 37 (.mov (t 8)), o 38 (.mov (t 10)), o 39 (.bin .eql (t 37) (t 38)), o 40 (.mov (t 39)), ⟨some 41, .load 6 true (t 7), some (40, true)⟩, ⟨some 42, .load 6 true (t 9), some (40, true)⟩, ⟨some 43, .call false (c (.fn 21 [] [])) [(t 41), (t 42)], some (40, true)⟩, o 44 (.pick (t 40) (t 43) (c (.bool false))), o 11 (.mov (t 44))])
 (.seq (.seq (.ops [o 12 (.mov (c (.int .i64 0)))])
 (.block 0 (.loop (.seq (.seq (.ops [o 45 (.mov (t 12)), o 46 (.fAddr 3 (t 7)), o 47 (.load 1 false (t 46)), o 48 (.lenSl (t 47)), o 49 (.bin .lss (t 45) (t 48))])
 (.cond (t 49) .skip (.exit 0)))
 (.seq (.block 1 (.ops [o 52 (.fAddr 3 (t 7)), o 53 (.load 1 false (t 52)), o 54 (.mov (t 12)), o 55 (.iAddrS 1 (t 53) (t 54)), w (.store 1 (t 55) (c (.str ⟨#[64]⟩)))]))
 (.ops [o 50 (.mov (t 12)), o 51 (.bin .add (t 50) (c (.int .i64 1))), o 12 (.mov (t 51))]))))))
 (.seq (.ops [o 56 (.call false (c (.fn 14 [] [])) []), o 57 (.mov (t 56)), ⟨some 58, .mov (t 11), some (57, true)⟩, o 59 (.pick (t 57) (t 58) (c (.bool false))), o 60 (.mov (t 59)), ⟨some 61, .load 6 true (t 2), some (60, true)⟩, ⟨some 62, .load 6 true (t 5), some (60, true)⟩, ⟨some 63, .call false (c (.fn 21 [] [])) [(t 61), (t 62)], some (60, true)⟩, o 64 (.pick (t 60) (t 63) (c (.bool false))), o 65 (.mov (t 64)), ⟨some 66, .load 6 true (t 3), some (65, true)⟩, ⟨some 67, .load 6 true (t 6), some (65, true)⟩, ⟨some 68, .call false (c (.fn 21 [] [])) [(t 66), (t 67)], some (65, true)⟩, o 69 (.pick (t 65) (t 68) (c (.bool false))), o 4 (.mov (t 69))])
 .ret))))))))))⟩
def c8 : Func :=
⟨2, 111, [.tmp 4],
 (.seq (.ops [o 2 (.box (t 0)), o 4 (.mov (c (.bool false)))])
 (.seq (.ops [o 15 (.load 4 true (t 2)), o 16 (.call false (c (.fn 12 [] [])) [(t 15)]), o 14 (.mov (t 16)), o 17 (.ext 0 (t 14)), o 18 (.ext 1 (t 14)), o 5 (.alloc [(.bool false), (.bool false), (.bool false), (.sl 1 true []), (.int .i64 0), (.int .i64 0)]), w (.store 6 (t 5) (t 17)), o 6 (.mov (t 18))])
 (.seq (.seq (.ops [o 19 (.mov (t 6)), o 20 (.bin .neq (t 19) (c (.int .i64 0)))])
 (.cond (t 20) (.seq (.ops [o 21 (.call false (c (.fn 14 [] [])) []), o 22 (.mov (t 21)), ⟨some 23, .load 6 true (t 5), some (22, true)⟩, ⟨some 24, .build [(.bool false), (.bool false), (.bool false), (.sl 1 true []), (.int .i64 0), (.int .i64 0)] [], some (22, true)⟩, ⟨some 25, .call false (c (.fn 21 [] [])) [(t 23), (t 24)], some (22, true)⟩, o 26 (.pick (t 22) (t 25) (c (.bool false))), o 4 (.mov (t 26))])
 .ret) .skip))
 (.seq (.ops [o 7 (.mov (c (.bool false)))])
 (.seq (.seq (.ops [o 8 (.mov (c (.int .i64 0)))])
 (.block 0 (.loop (.seq (.seq (.ops [o 27 (.mov (t 8)), o 28 (.fAddr 2 (t 2)), o 29 (.load 1 false (t 28)), o 30 (.lenSl (t 29)), o 31 (.bin .lss (t 27) (t 30))])
 (.cond (t 31) .skip (.exit 0)))
 (.seq (.block 1 (.ops [o 34 (.mov (t 7)), o 35 (.mov (t 34)), ⟨some 36, .fAddr 2 (t 2), some (35, false)⟩, ⟨some 37, .load 1 false (t 36), some (35, false)⟩, ⟨some 38, .mov (t 8), some (35, false)⟩, ⟨some 39, .iAddrS 1 (t 37) (t 38), some (35, false)⟩, ⟨some 40, .load 1 false (t 39), some (35, false)⟩, ⟨some 41, .mov (t 1), some (35, false)⟩, ⟨some 42, .bin .eql (t 40) (t 41), some (35, false)⟩, o 43 (.pick (t 35) (c (.bool true)) (t 42)), o 7 (.mov (t 43))]))
 (.ops [o 32 (.mov (t 8)), o 33 (.bin .add (t 32) (c (.int .i64 1))), o 8 (.mov (t 33))]))))))
 (.seq (.ops [o 45 (.mov (t 1)), o 46 (.call false (c (.fn 13 [] [])) [(t 45)]), o 44 (.mov (t 46)), o 47 (.ext 0 (t 44)), o 48 (.ext 1 (t 44)), o 9 (.mov (t 47)), o 10 (.mov (t 48))])
 (.seq (.ops [o 49 (.mov (t 1)), o 50 (.call false (c (.fn 19 [] [])) [(t 49)]), o 11 (.mov (t 50))])
 (.seq (.ops [o 12 (.mov (c (.bool false)))])
 (.seq (.seq (.ops [o 51 (.fAddr 1 (t 2)), o 52 (.load 1 false (t 51))])
 (.block 2 (.seq (.ops [o 54 (.bin .eql (t 52) (c (.int .i64 1))), o 53 (.mov (t 54))])
 (.cond (t 53) (.ops [o 55 (.mov (t 7)), o 12 (.mov (t 55))]) (.seq (.ops [o 57 (.bin .eql (t 52) (c (.int .i64 2))), o 56 (.mov (t 57))])
 (.cond (t 56) (.ops [o 58 (.mov (t 11)), o 59 (.mov (t 58)), ⟨some 60, .mov (t 7), some (59, true)⟩, ⟨some 61, .un .not (t 60), some (59, true)⟩, o 62 (.pick (t 59) (t 61) (c (.bool false))), o 12 (.mov (t 62))]) (.seq (.ops [o 64 (.bin .eql (t 52) (c (.int .i64 3))), o 63 (.mov (t 64))])
 (.cond (t 63) (.ops [o 65 (.mov (t 11)), o 12 (.mov (t 65))]) (.seq (.ops [o 67 (.bin .eql (t 52) (c (.int .i64 5))), o 66 (.mov (t 67))])
 (.cond (t 66) (.ops [o 68 (.mov (t 10)), o 69 (.mov (t 68)), ⟨some 70, .mov (t 9), some (69, true)⟩, ⟨some 71, .fAddr 3 (t 2), some (69, true)⟩, ⟨some 72, .load 1 false (t 71), some (69, true)⟩, ⟨some 73, .bin .gtr (t 70) (t 72), some (69, true)⟩, o 74 (.pick (t 69) (t 73) (c (.bool false))), o 12 (.mov (t 74))]) (.seq (.ops [o 76 (.bin .eql (t 52) (c (.int .i64 6))), o 75 (.mov (t 76))])
 (.cond (t 75) (.ops [o 77 (.mov (t 10)), o 78 (.mov (t 77)), ⟨some 79, .mov (t 9), some (78, true)⟩, ⟨some 80, .fAddr 3 (t 2), some (78, true)⟩, ⟨some 81, .load 1 false (t 80), some (78, true)⟩, ⟨some 82, .bin .lss (t 79) (t 81), some (78, true)⟩, o 83 (.pick (t 78) (t 82) (c (.bool false))), o 12 (.mov (t 83))]) .skip))))))))))))
 (.seq (.ops [o 84 (.fAddr 1 (t 2)), o 85 (.load 1 false (t 84)), o 86 (.bin .eql (t 85) (c (.int .i64 2))), o 87 (.mov (t 86)), ⟨some 88, .fAddr 1 (t 2), some (87, false)⟩, ⟨some 89, .load 1 false (t 88), some (87, false)⟩, ⟨some 90, .bin .eql (t 89) (c (.int .i64 4)), some (87, false)⟩, o 91 (.pick (t 87) (c (.bool true)) (t 90)), o 13 (.mov (t 91))])
 (.seq (.ops [o 92 (.call false (c (.fn 14 [] [])) []), o 93 (.mov (t 92)), ⟨some 94, .load 6 true (t 5), some (93, true)⟩, ⟨some 95, .mov (t 1), some (93, true)⟩, ⟨some 96, .call false (c (.fn 26 [] [])) [(t 94), (t 95)], some (93, true)⟩, ⟨some 97, .mov (t 12), some (93, true)⟩, ⟨some 98, .eqb false (t 96) (t 97), some (93, true)⟩, o 99 (.pick (t 93) (t 98) (c (.bool false))), o 100 (.mov (t 99)), ⟨some 101, .fAddr 0 (t 5), some (100, true)⟩, ⟨some 102, .load 1 false (t 101), some (100, true)⟩, ⟨some 103, .mov (t 13), some (100, true)⟩, ⟨some 104, .eqb false (t 102) (t 103), some (100, true)⟩, o 105 (.pick (t 100) (t 104) (c (.bool false))), o 106 (.mov (t 105)), ⟨some 107, .load 6 true (t 5), some (106, true)⟩, ⟨some 108, .call false (c (.fn 23 [] [])) [(t 107)], some (106, true)⟩, ⟨some 109, .bin .eql (t 108) (c (.int .i64 0)), some (106, true)⟩, o 110 (.pick (t 106) (t 109) (c (.bool false))), o 4 (.mov (t 110))])
 .ret)))))))))))⟩
def c9 : Func :=
⟨3, 109, [.tmp 6],
 (.seq (.ops [o 3 (.box (t 0)), o 4 (.box (t 1)), o 5 (.box (t 2)), o 6 (.mov (c (.bool false)))])
 (.seq (.seq (.ops [o 19 (.load 6 true (t 3)), o 20 (.call false (c (.fn 23 [] [])) [(t 19)]), o 21 (.bin .neq (t 20) (c (.int .i64 0))), o 22 (.mov (t 21)), ⟨some 23, .load 6 true (t 4), some (22, false)⟩, ⟨some 24, .call false (c (.fn 23 [] [])) [(t 23)], some (22, false)⟩, ⟨some 25, .bin .neq (t 24) (c (.int .i64 0)), some (22, false)⟩, o 26 (.pick (t 22) (c (.bool true)) (t 25)), o 27 (.mov (t 26)), ⟨some 28, .load 6 true (t 5), some (27, false)⟩, ⟨some 29, .call false (c (.fn 23 [] [])) [(t 28)], some (27, false)⟩, ⟨some 30, .bin .neq (t 29) (c (.int .i64 0)), some (27, false)⟩, o 31 (.pick (t 27) (c (.bool true)) (t 30))])
 (.cond (t 31) (.seq (.ops [o 32 (.call false (c (.fn 14 [] [])) []), o 6 (.mov (t 32))])
 .ret) .skip))
 (.seq (.ops [o 34 (.load 6 true (t 3)), o 35 (.load 6 true (t 4)), o 36 (.call false (c (.fn 24 [] [])) [(t 34), (t 35)]), o 33 (.mov (t 36)), o 37 (.ext 0 (t 33)), o 38 (.ext 1 (t 33)), o 7 (.alloc [(.bool false), (.bool false), (.bool false), (.sl 1 true []), (.int .i64 0), (.int .i64 0)]), w (.store 6 (t 7) (t 37)), o 8 (.mov (t 38))])
 (.seq (.ops [o 40 (.load 6 true (t 4)), o 41 (.load 6 true (t 3)), o 42 (.call false (c (.fn 24 [] [])) [(t 40), (t 41)]), o 39 (.mov (t 42)), o 43 (.ext 0 (t 39)), o 44 (.ext 1 (t 39)), o 9 (.alloc [(.bool false), (.bool false), (.bool false), (.sl 1 true []), (.int .i64 0), (.int .i64 0)]), w (.store 6 (t 9) (t 43)), o 10 (.mov (t 44))])
 (.seq (.ops [o 46 (.load 6 true (t 3)), o 47 (.load 6 true (t 3)), o 48 (.call false (c (.fn 24 [] [])) [(t 46), (t 47)]), o 45 (.mov (t 48)), o 49 (.ext 0 (t 45)), o 50 (.ext 1 (t 45)), o 11 (.alloc [(.bool false), (.bool false), (.bool false), (.sl 1 true []), (.int .i64 0), (.int .i64 0)]), w (.store 6 (t 11) (t 49)), o 12 (.mov (t 50))])
 (.seq (.seq (.ops [o 51 (.mov (t 8)), o 52 (.mov (t 10)), o 53 (.bin .neq (t 51) (t 52)), o 54 (.mov (t 53)), ⟨some 55, .load 6 true (t 7), some (54, false)⟩, ⟨some 56, .load 6 true (t 9), some (54, false)⟩, ⟨some 57, .call false (c (.fn 21 [] [])) [(t 55), (t 56)], some (54, false)⟩, ⟨some 58, .un .not (t 57), some (54, false)⟩, o 59 (.pick (t 54) (c (.bool true)) (t 58)), o 60 (.mov (t 59)), ⟨some 61, .mov (t 12), some (60, false)⟩, ⟨some 62, .bin .neq (t 61) (c (.int .i64 0)), some (60, false)⟩, o 63 (.pick (t 60) (c (.bool true)) (t 62)), o 64 (.mov (t 63)), ⟨some 65, .load 6 true (t 11), some (64, false)⟩, ⟨some 66, .load 6 true (t 3), some (64, false)⟩, ⟨some 67, .call false (c (.fn 21 [] [])) [(t 65), (t 66)], some (64, false)⟩, ⟨some 68, .un .not (t 67), some (64, false)⟩, o 69 (.pick (t 64) (c (.bool true)) (t 68))])
 (.cond (t 69) (.seq (.ops [o 6 (.mov (c (.bool false)))])
 .ret) .skip))
 (.seq (.ops [o 71 (.load 6 true (t 4)), o 72 (.load 6 true (t 5)), o 73 (.call false (c (.fn 24 [] [])) [(t 71), (t 72)]), o 70 (.mov (t 73)), o 74 (.ext 0 (t 70)), o 75 (.ext 1 (t 70)), o 13 (.alloc [(.bool false), (.bool false), (.bool false), (.sl 1 true []), (.int .i64 0), (.int .i64 0)]), w (.store 6 (t 13) (t 74)), o 14 (.mov (t 75))])
 (.seq (.seq (.ops [o 76 (.mov (t 8)), o 77 (.bin .neq (t 76) (c (.int .i64 0))), o 78 (.mov (t 77)), ⟨some 79, .mov (t 14), some (78, false)⟩, ⟨some 80, .bin .neq (t 79) (c (.int .i64 0)), some (78, false)⟩, o 81 (.pick (t 78) (c (.bool true)) (t 80))])
 (.cond (t 81) (.seq (.ops [o 82 (.call false (c (.fn 14 [] [])) []), o 6 (.mov (t 82))])
 .ret) .skip))
 (.seq (.ops [o 84 (.load 6 true (t 7)), o 85 (.load 6 true (t 5)), o 86 (.call false (c (.fn 24 [] [])) [(t 84), (t 85)]), o 83 (.mov (t 86)), o 87 (.ext 0 (t 83)), o 88 (.ext 1 (t 83)), o 15 (.alloc [(.bool false), (.bool false), (.bool false), (.sl 1 true []), (.int .i64 0), (.int .i64 0)]), w (.store 6 (t 15) (t 87)), o 16 (.mov (t 88))])
 (.seq (.ops [o 90 (.load 6 true (t 3)), o 91 (.load 6 true (t 13)), o 92 (.call false (c (.fn 24 [] [])) [(t 90), (t 91)]), o 89 (.mov (t 92)), o 93 (.ext 0 (t 89)), o 94 (.ext 1 (t 89)), o 17 (.alloc [(.bool false), (.bool false), (.bool false), (.sl 1 true []), (.int .i64 0), (.int .i64 0)]), w (.store 6 (t 17) (t 93)), o 18 (.mov (t 94))])
 (.seq (.ops [o 95 (.call false (c (.fn 14 [] [])) []), o 96 (.mov (t 95)), ⟨some 97, .mov (t 16), some (96, true)⟩, ⟨some 98, .bin .neq (t 97) (c (.int .i64 0)), some (96, true)⟩, ⟨some 99, .mov (t 98), some (96, true)⟩, ⟨some 100, .mov (t 18), some (99, false)⟩, ⟨some 101, .bin .neq (t 100) (c (.int .i64 0)), some (99, false)⟩, ⟨some 102, .pick (t 99) (c (.bool true)) (t 101), some (96, true)⟩, ⟨some 103, .mov (t 102), some (96, true)⟩, ⟨some 104, .load 6 true (t 15), some (103, false)⟩, ⟨some 105, .load 6 true (t 17), some (103, false)⟩, ⟨some 106, .call false (c (.fn 21 [] [])) [(t 104), (t 105)], some (103, false)⟩, ⟨some 107, .pick (t 103) (c (.bool true)) (t 106), some (96, true)⟩, o 108 (.pick (t 96) (t 107) (c (.bool false))), o 6 (.mov (t 108))])
 .ret)))))))))))⟩
def c10 : Func :=
⟨3, 115, [.tmp 6],
 (.seq (.ops [o 3 (.box (t 0)), o 4 (.box (t 1)), o 6 (.mov (c (.bool false)))])
 (.seq (.ops [o 13 (.load 6 true (t 3)), o 14 (.load 6 true (t 4)), o 15 (.call false (c (.fn 24 [] [])) [(t 13), (t 14)]), o 12 (.mov (t 15)), o 16 (.ext 0 (t 12)), o 17 (.ext 1 (t 12)), o 7 (.alloc [(.bool false), (.bool false), (.bool false), (.sl 1 true []), (.int .i64 0), (.int .i64 0)]), w (.store 6 (t 7) (t 16)), o 8 (.mov (t 17))])
 (.seq (.seq (.ops [o 18 (.mov (t 8)), o 19 (.bin .neq (t 18) (c (.int .i64 0)))])
 (.cond (t 19) (.seq (.ops [o 20 (.call false (c (.fn 14 [] [])) []), o 21 (.mov (t 20)), ⟨some 22, .mov (t 8), some (21, true)⟩, ⟨some 23, .bin .eql (t 22) (c (.int .i64 3)), some (21, true)⟩, ⟨some 24, .mov (t 23), some (21, true)⟩, ⟨some 25, .load 6 true (t 3), some (24, false)⟩, ⟨some 26, .call false (c (.fn 23 [] [])) [(t 25)], some (24, false)⟩, ⟨some 27, .bin .neq (t 26) (c (.int .i64 0)), some (24, false)⟩, ⟨some 28, .pick (t 24) (c (.bool true)) (t 27), some (21, true)⟩, ⟨some 29, .mov (t 28), some (21, true)⟩, ⟨some 30, .load 6 true (t 4), some (29, false)⟩, ⟨some 31, .call false (c (.fn 23 [] [])) [(t 30)], some (29, false)⟩, ⟨some 32, .bin .neq (t 31) (c (.int .i64 0)), some (29, false)⟩, ⟨some 33, .pick (t 29) (c (.bool true)) (t 32), some (21, true)⟩, o 34 (.pick (t 21) (t 33) (c (.bool false))), o 6 (.mov (t 34))])
 .ret) .skip))
 (.seq (.ops [o 35 (.load 6 true (t 7)), o 36 (.mov (t 2)), o 37 (.call true (c (.fn 26 [] [])) [(t 35), (t 36)]), o 38 (.load 6 true (t 3)), o 39 (.mov (t 2)), o 40 (.call true (c (.fn 26 [] [])) [(t 38), (t 39)]), o 41 (.mov (t 40)), ⟨some 42, .load 6 true (t 4), some (41, true)⟩, ⟨some 43, .mov (t 2), some (41, true)⟩, ⟨some 44, .call true (c (.fn 26 [] [])) [(t 42), (t 43)], some (41, true)⟩, o 45 (.pick (t 41) (t 44) (c (.bool false))), o 46 (.eqb false (t 37) (t 45)), o 9 (.mov (t 46))])
 (.seq (.ops [o 47 (.mkSl true 1 9 (.str ⟨#[]⟩) 0 []), o 48 (.fAddr 3 (t 3)), o 49 (.load 1 false (t 48)), o 50 (.appP 1 16 (t 47) (t 49)), o 51 (.fAddr 3 (t 4)), o 52 (.load 1 false (t 51)), o 53 (.appP 1 16 (t 50) (t 52)), o 54 (.fAddr 3 (t 7)), o 55 (.load 1 false (t 54)), o 56 (.appP 1 16 (t 53) (t 55)), o 10 (.mov (t 56))])
 (.seq (.seq (.ops [o 11 (.mov (c (.int .i64 0)))])
 (.block 0 (.loop (.seq (.seq (.ops [o 57 (.mov (t 11)), o 58 (.mov (t 10)), o 59 (.lenSl (t 58)), o 60 (.bin .lss (t 57) (t 59))])
 (.cond (t 60) .skip (.exit 0)))
 (.seq (.block 1 (.seq (.ops [o 63 (.load 6 true (t 7)), o 64 (.mov (t 10)), o 65 (.mov (t 11)), o 66 (.iAddrS 1 (t 64) (t 65)), o 67 (.load 1 false (t 66)), o 68 (.call true (c (.fn 26 [] [])) [(t 63), (t 67)]), o 69 (.load 6 true (t 3)), o 70 (.mov (t 10)), o 71 (.mov (t 11)), o 72 (.iAddrS 1 (t 70) (t 71)), o 73 (.load 1 false (t 72)), o 74 (.call true (c (.fn 26 [] [])) [(t 69), (t 73)]), o 75 (.mov (t 74)), ⟨some 76, .load 6 true (t 4), some (75, true)⟩, ⟨some 77, .mov (t 10), some (75, true)⟩, ⟨some 78, .mov (t 11), some (75, true)⟩, ⟨some 79, .iAddrS 1 (t 77) (t 78), some (75, true)⟩, ⟨some 80, .load 1 false (t 79), some (75, true)⟩, ⟨some 81, .call true (c (.fn 26 [] [])) [(t 76), (t 80)], some (75, true)⟩, o 82 (.pick (t 75) (t 81) (c (.bool false))), o 83 (.eqb true (t 68) (t 82))])
 (.cond (t 83) (.seq (.ops [o 6 (.mov (c (.bool false)))])
 .ret) .skip)))
 (.ops [o 61 (.mov (t 11)), o 62 (.bin .add (t 61) (c (.int .i64 1))), o 11 (.mov (t 62))]))))))
 (.seq (.ops [o 84 (.call false (c (.fn 14 [] [])) []), o 85 (.mov (t 84)), ⟨some 86, .mov (t 9), some (85, true)⟩, o 87 (.pick (t 85) (t 86) (c (.bool false))), o 88 (.mov (t 87)), ⟨some 89, .load 6 true (t 7), some (88, true)⟩, ⟨some 90, .call false (c (.fn 23 [] [])) [(t 89)], some (88, true)⟩, ⟨some 91, .bin .eql (t 90) (c (.int .i64 0)), some (88, true)⟩, o 92 (.pick (t 88) (t 91) (c (.bool false))), o 93 (.mov (t 92)), ⟨some 94, .fAddr 0 (t 7), some (93, true)⟩, ⟨some 95, .load 1 false (t 94), some (93, true)⟩, ⟨some 96, .fAddr 0 (t 3), some (93, true)⟩, ⟨some 97, .load 1 false (t 96), some (93, true)⟩, ⟨some 98, .mov (t 97), some (93, true)⟩, ⟨some 99, .fAddr 0 (t 4), some (98, true)⟩, ⟨some 100, .load 1 false (t 99), some (98, true)⟩, ⟨some 101, .pick (t 98) (t 100) (c (.bool false)), some (93, true)⟩, ⟨some 102, .eqb false (t 95) (t 101), some (93, true)⟩, o 103 (.pick (t 93) (t 102) (c (.bool false))), o 104 (.mov (t 103)), ⟨some 105, .load 6 true (t 7), some (104, true)⟩, ⟨some 106, .call false (c (.fn 27 [] [])) [(t 105)], some (104, true)⟩, ⟨some 107, .un .not (t 106), some (104, true)⟩, ⟨some 108, .mov (t 107), some (104, true)⟩, ⟨some 109, .fAddr 3 (t 7), some (108, false)⟩, ⟨some 110, .load 1 false (t 109), some (108, false)⟩, ⟨some 111, .lenSl (t 110), some (108, false)⟩, ⟨some 112, .bin .eql (t 111) (c (.int .i64 0)), some (108, false)⟩, ⟨some 113, .pick (t 108) (c (.bool true)) (t 112), some (104, true)⟩, o 114 (.pick (t 104) (t 113) (c (.bool false))), o 6 (.mov (t 114))])
 .ret)))))))⟩
def c11 : Func :=
⟨3, 44, [.tmp 6],
 (.seq (.ops [o 3 (.box (t 0)), o 4 (.box (t 1)), o 6 (.mov (c (.bool false)))])
 (.seq (.ops [o 10 (.load 6 true (t 3)), o 11 (.mov (t 2)), o 12 (.call false (c (.fn 28 [] [])) [(t 10), (t 11)]), o 7 (.mov (t 12))])
 (.seq (.ops [o 13 (.load 6 true (t 3)), o 14 (.call false (c (.fn 29 [] [])) [(t 13)]), o 8 (.mov (t 14))])
 (.seq (.ops [o 15 (.load 6 true (t 3)), o 16 (.load 6 true (t 4)), o 17 (.call false (c (.fn 21 [] [])) [(t 15), (t 16)]), o 9 (.mov (t 17))])
 (.seq (.ops [o 18 (.call false (c (.fn 14 [] [])) []), o 19 (.mov (t 18)), ⟨some 20, .load 6 true (t 3), some (19, true)⟩, ⟨some 21, .mov (t 2), some (19, true)⟩, ⟨some 22, .call false (c (.fn 26 [] [])) [(t 20), (t 21)], some (19, true)⟩, ⟨some 23, .mov (t 7), some (19, true)⟩, ⟨some 24, .eqb false (t 22) (t 23), some (19, true)⟩, o 25 (.pick (t 19) (t 24) (c (.bool false))), o 26 (.mov (t 25)), ⟨some 27, .load 6 true (t 3), some (26, true)⟩, ⟨some 28, .call false (c (.fn 27 [] [])) [(t 27)], some (26, true)⟩, ⟨some 29, .mov (t 8), some (26, true)⟩, ⟨some 30, .eqb false (t 28) (t 29), some (26, true)⟩, o 31 (.pick (t 26) (t 30) (c (.bool false))), o 32 (.mov (t 31)), ⟨some 33, .load 6 true (t 3), some (32, true)⟩, ⟨some 34, .load 6 true (t 4), some (32, true)⟩, ⟨some 35, .call false (c (.fn 30 [] [])) [(t 33), (t 34)], some (32, true)⟩, ⟨some 36, .mov (t 9), some (32, true)⟩, ⟨some 37, .eqb false (t 35) (t 36), some (32, true)⟩, o 38 (.pick (t 32) (t 37) (c (.bool false))), o 39 (.mov (t 38)), ⟨some 40, .load 6 true (t 3), some (39, true)⟩, ⟨some 41, .load 6 true (t 3), some (39, true)⟩, ⟨some 42, .call false (c (.fn 30 [] [])) [(t 40), (t 41)], some (39, true)⟩, o 43 (.pick (t 39) (t 42) (c (.bool false))), o 6 (.mov (t 43))])
 .ret)))))⟩
def c14 : Func :=
⟨0, 86, [.tmp 0],
 (.seq (.ops [o 0 (.mov (c (.bool false)))])
 (.seq (.ops [o 13 (.mkSl false 1 9 (.str ⟨#[]⟩) 2 [(0, (c (.str ⟨#[98]⟩))), (1, (c (.str ⟨#[97]⟩)))]), o 14 (.build [(.str ⟨#[]⟩), (.int .i64 0), (.sl 1 true []), (.int .i64 0)] [(0, 1, (c (.str ⟨#[122, 111, 110, 101]⟩))), (1, 1, (c (.int .i64 1))), (2, 1, (t 13))]), o 15 (.call false (c (.fn 12 [] [])) [(t 14)]), o 12 (.mov (t 15)), o 16 (.ext 0 (t 12)), o 17 (.ext 1 (t 12)), o 1 (.alloc [(.bool false), (.bool false), (.bool false), (.sl 1 true []), (.int .i64 0), (.int .i64 0)]), w (.store 6 (t 1) (t 16)), o 2 (.mov (t 17))])
 (.seq (.ops [o 19 (.build [(.str ⟨#[]⟩), (.int .i64 0), (.sl 1 true []), (.int .i64 0)] [(0, 1, (c (.str ⟨#[103, 101, 110]⟩))), (1, 1, (c (.int .i64 5))), (3, 1, (c (.int .i64 3)))]), o 20 (.call false (c (.fn 12 [] [])) [(t 19)]), o 18 (.mov (t 20)), o 21 (.ext 0 (t 18)), o 22 (.ext 1 (t 18)), o 3 (.alloc [(.bool false), (.bool false), (.bool false), (.sl 1 true []), (.int .i64 0), (.int .i64 0)]), w (.store 6 (t 3) (t 21)), o 4 (.mov (t 22))])
 (.seq (.ops [o 24 (.build [(.str ⟨#[]⟩), (.int .i64 0), (.sl 1 true []), (.int .i64 0)] [(0, 1, (c (.str ⟨#[103, 101, 110]⟩))), (1, 1, (c (.int .i64 6))), (3, 1, (c (.int .i64 6)))]), o 25 (.call false (c (.fn 12 [] [])) [(t 24)]), o 23 (.mov (t 25)), o 26 (.ext 0 (t 23)), o 27 (.ext 1 (t 23)), o 5 (.alloc [(.bool false), (.bool false), (.bool false), (.sl 1 true []), (.int .i64 0), (.int .i64 0)]), w (.store 6 (t 5) (t 26)), o 6 (.mov (t 27))])
 (.seq (.ops [o 29 (.load 6 true (t 3)), o 30 (.load 6 true (t 5)), o 31 (.call false (c (.fn 24 [] [])) [(t 29), (t 30)]), o 28 (.mov (t 31)), o 32 (.ext 0 (t 28)), o 33 (.ext 1 (t 28)), o 7 (.alloc [(.bool false), (.bool false), (.bool false), (.sl 1 true []), (.int .i64 0), (.int .i64 0)]), w (.store 6 (t 7) (t 32)), o 8 (.mov (t 33))])
 (.seq (.ops [o 35 (.build [(.str ⟨#[]⟩), (.int .i64 0), (.sl 1 true []), (.int .i64 0)] [(0, 1, (c (.str ⟨#[122, 111, 110, 101]⟩))), (1, 1, (c (.int .i64 1)))]), o 36 (.call false (c (.fn 12 [] [])) [(t 35)]), o 34 (.mov (t 36)), o 37 (.ext 0 (t 34)), o 38 (.ext 1 (t 34)), o 9 (.alloc [(.bool false), (.bool false), (.bool false), (.sl 1 true []), (.int .i64 0), (.int .i64 0)]), w (.store 6 (t 9) (t 37)), o 10 (.mov (t 38))])
 (.seq (.ops [o 39 (.mov (t 2)), o 40 (.bin .eql (t 39) (c (.int .i64 0))), o 41 (.mov (t 40)), ⟨some 42, .mov (t 4), some (41, true)⟩, ⟨some 43, .bin .eql (t 42) (c (.int .i64 0)), some (41, true)⟩, o 44 (.pick (t 41) (t 43) (c (.bool false))), o 45 (.mov (t 44)), ⟨some 46, .mov (t 6), some (45, true)⟩, ⟨some 47, .bin .eql (t 46) (c (.int .i64 0)), some (45, true)⟩, o 48 (.pick (t 45) (t 47) (c (.bool false))), o 49 (.mov (t 48)), ⟨some 50, .mov (t 8), some (49, true)⟩, ⟨some 51, .bin .eql (t 50) (c (.int .i64 0)), some (49, true)⟩, o 52 (.pick (t 49) (t 51) (c (.bool false))), o 53 (.mov (t 52)), ⟨some 54, .mov (t 10), some (53, true)⟩, ⟨some 55, .bin .eql (t 54) (c (.int .i64 30)), some (53, true)⟩, o 56 (.pick (t 53) (t 55) (c (.bool false))), o 11 (.mov (t 56))])
 (.seq (.ops [o 57 (.mov (t 11)), o 58 (.mov (t 57)), ⟨some 59, .load 6 true (t 1), some (58, true)⟩, ⟨some 60, .mkSl false 1 9 (.str ⟨#[]⟩) 2 [(0, (c (.str ⟨#[97]⟩))), (1, (c (.str ⟨#[98]⟩)))], some (58, true)⟩, ⟨some 61, .build [(.bool false), (.bool false), (.bool false), (.sl 1 true []), (.int .i64 0), (.int .i64 0)] [(3, 1, (t 60))], some (58, true)⟩, ⟨some 62, .call false (c (.fn 21 [] [])) [(t 59), (t 61)], some (58, true)⟩, o 63 (.pick (t 58) (t 62) (c (.bool false))), o 64 (.mov (t 63)), ⟨some 65, .load 6 true (t 7), some (64, true)⟩, ⟨some 66, .mkSl false 1 9 (.str ⟨#[]⟩) 2 [(0, (c (.str ⟨#[52]⟩))), (1, (c (.str ⟨#[53]⟩)))], some (64, true)⟩, ⟨some 67, .build [(.bool false), (.bool false), (.bool false), (.sl 1 true []), (.int .i64 0), (.int .i64 0)] [(3, 1, (t 66))], some (64, true)⟩, ⟨some 68, .call false (c (.fn 21 [] [])) [(t 65), (t 67)], some (64, true)⟩, o 69 (.pick (t 64) (t 68) (c (.bool false))), o 70 (.mov (t 69)), ⟨some 71, .load 6 true (t 3), some (70, true)⟩, ⟨some 72, .call false (c (.fn 26 [] [])) [(t 71), (c (.str ⟨#[52]⟩))], some (70, true)⟩, o 73 (.pick (t 70) (t 72) (c (.bool false))), o 74 (.mov (t 73)), ⟨some 75, .load 6 true (t 3), some (74, true)⟩, ⟨some 76, .call false (c (.fn 26 [] [])) [(t 75), (c (.str ⟨#[48, 52]⟩))], some (74, true)⟩, ⟨some 77, .un .not (t 76), some (74, true)⟩, o 78 (.pick (t 74) (t 77) (c (.bool false))), o 79 (.mov (t 78)), ⟨some 80, .call false (c (.fn 19 [] [])) [(c (.str ⟨#[120, 45, 49]⟩))], some (79, true)⟩, o 81 (.pick (t 79) (t 80) (c (.bool false))), o 82 (.mov (t 81)), ⟨some 83, .call false (c (.fn 18 [] [])) [(c (.str ⟨#[53]⟩))], some (82, true)⟩, ⟨some 84, .un .not (t 83), some (82, true)⟩, o 85 (.pick (t 82) (t 84) (c (.bool false))), o 0 (.mov (t 85))])
 .ret))))))))⟩
end Go.Proofs.AM
namespace Go.Proofs.AM
open Go Go.Lib Cd
theorem dec_len {n : Int} (h : FI n) : (decDigits n.natAbs).length ≤ 19 := by
  have := decDigits_le 18 n.natAbs (by have : (10 : Nat) ^ 19 = 10000000000000000000 := by decide
                                       unfold FI at h
                                       omega)
  omega
theorem tdiv10 (q : Int) : (0 ≤ q → q.tdiv 10 = q / 10) ∧ (q < 0 → q.tdiv 10 = -((-q) / 10)) := by
  refine ⟨fun h => Int.tdiv_eq_ediv_of_nonneg h, fun h => ?_⟩
  have h1 : (-q).tdiv 10 = (-q) / 10 := Int.tdiv_eq_ediv_of_nonneg (by omega)
  rw [Int.neg_tdiv] at h1
  omega
theorem tmod10 (q : Int) : (0 ≤ q → q.tmod 10 = q % 10) ∧ (q < 0 → q.tmod 10 = -((-q) % 10)) := by
  refine ⟨fun h => Int.tmod_eq_emod_of_nonneg h, fun h => ?_⟩
  have h1 : (-q).tmod 10 = (-q) % 10 := Int.tmod_eq_emod_of_nonneg (by omega)
  rw [Int.neg_tmod] at h1
  omega
theorem decimal37_ok (R : Ans) (n0 : Int) (hn0 : FI n0) : AnsF R c37 [.int .i64 n0] (mkS (itoa n0)) := by
  obtain ⟨r, hr⟩ : ∃ r, r = itoa n0 := ⟨_, rfl⟩
  rw [← hr]
  have hd := dec_len hn0
  unfold FI at hn0
  refine wpF_sound ⟨rfl, by decide⟩ fun O hO V hV => ?_
  conv => cbv
  refine loop_of (fun c d => ∃ (q : Int) (acc : Str), d = ⟨[(0, .int .i64 n0), (3, mkS acc), (4, .int .i64 q)], [], false⟩ ∧ (-9223372036854775808 ≤ q ∧ q ≤ 9223372036854775807) ∧ c = q.natAbs + 1 ∧ decDigits n0.natAbs = decDigits q.natAbs ++ acc) ⟨_, _, ⟨_, [], rfl, hn0, rfl, by simp⟩, ⟨⟨rfl, rfl, rfl, trivial⟩, trivial, rfl⟩⟩ ?_
  rintro J up c d ⟨q, acc, rfl, hq, rfl, hacc⟩
  have key : ∀ (e : Int), e = ((q.natAbs % 10 : Nat) : Int) → (∃ l : Str, strOf [.int .u8 (O .wrap .u8 (O .iop .add .i64 48 e))] = some l ∧ l = [UInt8.ofNat (48 + q.natAbs % 10)]) := by
    intro e he
    rw [o_add64 hO (by omega) (by omega), o_wrap hO, wrap_u8 (by omega) (by omega)]
    refine ⟨_, ?_, rfl⟩
    unfold strOf
    rw [if_pos (by omega)]
    simp only [strOf, Option.map_some]
    rw [show (48 + e).toNat = 48 + q.natAbs % 10 by omega]
  have hsl : acc.length ≤ 19 := by have := congrArg List.length hacc; simp at this; omega
  have hcat : O .cat ⟨[UInt8.ofNat (48 + q.natAbs % 10)].toArray⟩ ⟨⟨acc⟩⟩ = ⟨⟨UInt8.ofNat (48 + q.natAbs % 10) :: acc⟩⟩ := o_cat hO [_] acc
  have hlen1 : O .slen ⟨[UInt8.ofNat (48 + q.natAbs % 10)].toArray⟩ = 1 := o_slen hO [_]
  have hlen2 : O .slen ⟨⟨acc⟩⟩ = acc.length := o_slen hO acc
  obtain ⟨td1, td2⟩ := tdiv10 q
  obtain ⟨tm1, tm2⟩ := tmod10 q
  have hrem : O .iop .rem .i64 q 10 = q.tmod 10 := o_rem hO _ _ _ (by decide)
  have hquo : O .iop .quo .i64 q 10 = q.tdiv 10 := by
    rw [o_quo hO _ _ _ (by decide), wrap_i64 (by omega) (by omega)]
  have hneg : O .neg .neg .i64 (q.tmod 10) = - q.tmod 10 := by rw [o_neg hO, wrap_i64 (by omega) (by omega)]; omega
  have fin0 : q.tdiv 10 = 0 → UInt8.ofNat (48 + q.natAbs % 10) :: acc = decDigits n0.natAbs := by
    intro h
    rw [hacc, decDigits_small (by omega)]
    rw [show q.natAbs % 10 = q.natAbs by omega]
    rfl
  have fin1 : q.tdiv 10 ≠ 0 → decDigits n0.natAbs = decDigits (q.tdiv 10).natAbs ++ (UInt8.ofNat (48 + q.natAbs % 10) :: acc) := by
    intro h
    rw [hacc, decDigits_big (u := q.natAbs) (by omega)]
    rw [show (q.tdiv 10).natAbs = q.natAbs / 10 by omega]
    simp
  obtain ⟨ds, hds⟩ : ∃ ds : Str, ds = [UInt8.ofNat (48 + q.natAbs % 10)] := ⟨_, rfl⟩
  obtain ⟨acc', hacc'⟩ : ∃ acc' : Str, acc' = UInt8.ofNat (48 + q.natAbs % 10) :: acc := ⟨_, rfl⟩
  rw [← hacc'] at fin0 fin1 hcat
  have hl' : acc'.length ≤ 20 := by rw [hacc']; simp; omega
  rw [← hds] at hcat hlen1
  conv => cbv
  rw [hrem]
  have rest : ∀ e : Int, e = ((q.natAbs % 10 : Nat) : Int) → ∃ l : Str, strOf [.int .u8 (O .wrap .u8 (O .iop .add .i64 48 e))] = some l ∧ l = ds := by
    intro e he; obtain ⟨l, h1, h2⟩ := key e he; exact ⟨l, h1, by rw [h2, hds]⟩
  obtain ⟨e0, he0⟩ : ∃ e0 : Int, e0 = q.tmod 10 := ⟨_, rfl⟩
  rw [← he0] at hneg ⊢
  conv => cbv
  rintro (_ | _) h1
  · replace h1 := f_lss hO h1
    obtain ⟨l, hl1, rfl⟩ := rest e0 (by omega)
    conv => cbv
    intro g
    conv => cbv
    refine ⟨_, hl1, ?_⟩
    conv => cbv
    refine ⟨⟨by rw [hlen1, hlen2]; omega⟩, ?_⟩
    rw [hcat]
    conv => cbv
    rw [hquo]
    obtain ⟨q', hq'⟩ : ∃ q' : Int, q' = q.tdiv 10 := ⟨_, rfl⟩
    rw [← hq'] at fin0 fin1 ⊢
    conv => cbv
    rintro (_ | _) h2
    · replace h2 := f_eql hO h2
      conv => cbv
      exact ⟨_, _, up _ _ ⟨q', acc', rfl, by omega, rfl, fin1 h2⟩, ⟨⟨rfl, rfl, rfl, trivial⟩, trivial, rfl⟩, by omega⟩
    · replace h2 := t_eql hO h2
      have hf := fin0 h2
      conv => cbv
      rintro (_ | _) h3
      · replace h3 := f_lss hO h3
        conv => cbv
        rw [hr, hf, itoa_pos' h3]
      · replace h3 := t_lss hO h3
        have hc2 : O .cat ⟨#[45]⟩ ⟨⟨acc'⟩⟩ = ⟨⟨45 :: acc'⟩⟩ := o_cat hO [45] acc'
        have hl3 : O .slen ⟨#[45]⟩ = 1 := o_slen hO [45]
        have hl4 : O .slen ⟨⟨acc'⟩⟩ = acc'.length := o_slen hO acc'
        conv => cbv
        refine ⟨⟨by rw [hl3, hl4]; omega⟩, ?_⟩
        rw [hc2]
        conv => cbv
        rw [hr, hf, itoa_neg' h3]
  · replace h1 := t_lss hO h1
    conv => cbv
    rw [hneg]
    obtain ⟨e1, he1⟩ : ∃ e1 : Int, e1 = -e0 := ⟨_, rfl⟩
    rw [← he1]
    obtain ⟨l, hl1, rfl⟩ := rest e1 (by omega)
    conv => cbv
    intro g
    conv => cbv
    refine ⟨_, hl1, ?_⟩
    conv => cbv
    refine ⟨⟨by rw [hlen1, hlen2]; omega⟩, ?_⟩
    rw [hcat]
    conv => cbv
    rw [hquo]
    obtain ⟨q', hq'⟩ : ∃ q' : Int, q' = q.tdiv 10 := ⟨_, rfl⟩
    rw [← hq'] at fin0 fin1 ⊢
    conv => cbv
    rintro (_ | _) h2
    · replace h2 := f_eql hO h2
      conv => cbv
      exact ⟨_, _, up _ _ ⟨q', acc', rfl, by omega, rfl, fin1 h2⟩, ⟨⟨rfl, rfl, rfl, trivial⟩, trivial, rfl⟩, by omega⟩
    · replace h2 := t_eql hO h2
      have hf := fin0 h2
      conv => cbv
      rintro (_ | _) h3
      · replace h3 := f_lss hO h3
        conv => cbv
        rw [hr, hf, itoa_pos' h3]
      · replace h3 := t_lss hO h3
        have hc2 : O .cat ⟨#[45]⟩ ⟨⟨acc'⟩⟩ = ⟨⟨45 :: acc'⟩⟩ := o_cat hO [45] acc'
        have hl3 : O .slen ⟨#[45]⟩ = 1 := o_slen hO [45]
        have hl4 : O .slen ⟨⟨acc'⟩⟩ = acc'.length := o_slen hO acc'
        conv => cbv
        refine ⟨⟨by rw [hl3, hl4]; omega⟩, ?_⟩
        rw [hc2]
        conv => cbv
        rw [hr, hf, itoa_neg' h3]
end Go.Proofs.AM
namespace Go.Proofs.AM
open Go Go.Lib Cd
def NumR (s : Str) (v : Int) (b : Bool) : Prop := (b = true ∧ numS s = some v) ∨ (b = false ∧ v = 0 ∧ numS s = none)
theorem numS_none_len {s : Str} (h : 11 < s.length) : numS s = none := by
  cases hn : numS s with
  | none => rfl
  | some n => have := numS_len hn; omega
theorem NumR.ex (s : Str) : ∃ v b, NumR s v b := by
  cases h : numS s with
  | none => exact ⟨0, false, .inr ⟨rfl, rfl, h⟩⟩
  | some n => exact ⟨n, true, .inl ⟨rfl, h⟩⟩
theorem NumR.fi {s : Str} {v : Int} {b : Bool} (h : NumR s v b) : least ≤ v ∧ v ≤ most := by
  rcases h with ⟨_, h⟩ | ⟨_, h, _⟩
  · exact (numS_iff.1 h).2
  · subst h; decide
theorem NumR.of {s : Str} {v n : Int} {b : Bool} (h : NumR s v b) (hn : numS s = some n) : b = true ∧ v = n := by
  rcases h with ⟨h1, h2⟩ | ⟨_, _, h2⟩
  · rw [h2] at hn; simp only [Option.some.injEq] at hn; exact ⟨h1, hn⟩
  · rw [h2] at hn; simp at hn
theorem NumR.none {s : Str} {v : Int} {b : Bool} (h : NumR s v b) (hn : numS s = none) : b = false ∧ v = 0 := by
  rcases h with ⟨_, h2⟩ | ⟨h1, h2, _⟩
  · rw [h2] at hn; simp at hn
  · exact ⟨h1, h2⟩
theorem dig_lt : ∀ (l : Str), l.foldl digv 0 < 10 ^ l.length := by
  have key : ∀ (l : Str) (a : Nat), l.foldl digv a < (a + 1) * 10 ^ l.length := by
    intro l
    induction l with
    | nil => intro a; simp
    | cons c r ih =>
      intro a
      rw [List.foldl_cons, List.length_cons]
      refine Nat.lt_of_lt_of_le (ih (digv a c)) ?_
      rw [Nat.pow_succ, Nat.mul_comm (10 ^ r.length) 10, ← Nat.mul_assoc]
      refine Nat.mul_le_mul_right _ ?_
      unfold digv
      split <;> omega
  intro l
  have := key l 0
  simpa using this
set_option maxHeartbeats 2000000 in
theorem number15_ok (R : Ans) (h37 : ∀ n, FI n → R.v 37 [.int .i64 n] (mkS (itoa n))) (s : Str) (hs : SL s) (v : Int) (b : Bool) (hvb : NumR s v b) : AnsF R c15 [mkS s] (.tup [.int .i64 v, .bool b]) := by
  unfold SL at hs
  refine wpF_sound ⟨rfl, by decide⟩ fun O hO V hV => ?_
  subst hV
  conv => cbv
  rintro (_ | _) h1
  · replace h1 := f_gtr hO h1
    rw [o_slen hO] at h1
    have h11 : s.length ≤ 11 := by omega
    conv => cbv
    refine loop_of (fun c d => ∃ (i a : Int) (k : Nat), d = ⟨[(0, mkS s), (4, .int .i64 a), (5, .int .i64 i)], [], false⟩ ∧ i = k ∧ k ≤ s.length ∧ c = s.length - k ∧ a = ((s.take k).foldl digv 0 : Nat)) ⟨_, _, ⟨_, _, 0, rfl, rfl, by omega, rfl, by simp⟩, ⟨⟨rfl, rfl, rfl, trivial⟩, trivial, rfl⟩⟩ ?_
    rintro J up c d ⟨i, a, k, rfl, hi, hk, rfl, ha⟩
    have hbound : (s.take k).foldl digv 0 < 100000000000 := by
      have h2 := dig_lt (s.take k)
      have h3 : (10 : Nat) ^ (s.take k).length ≤ 10 ^ 11 := Nat.pow_le_pow_right (by decide) (by simp; omega)
      have : (10 : Nat) ^ 11 = 100000000000 := by decide
      omega
    conv => cbv
    rintro (_ | _) h2
    · replace h2 := f_lss hO h2
      rw [o_slen hO] at h2
      have hk2 : s.take k = s := List.take_of_length_le (by omega)
      rw [hk2] at ha hbound
      have fin : ∀ n : Int, n = valS s → (∀ g : Int, g = n → FI g) ∧ (itoa n ≠ s → NumR s 0 false) ∧ (n < least → NumR s 0 false) ∧ (most < n → NumR s 0 false) ∧ (itoa n = s → least ≤ n → n ≤ most → NumR s n true) := by
        intro n hn
        subst hn
        have hb : -100000000000 < valS s ∧ valS s < 100000000000 := by unfold valS dig; split <;> omega
        refine ⟨fun g hg => by unfold FI; omega, fun h => .inr ⟨rfl, rfl, ?_⟩, fun h => .inr ⟨rfl, rfl, ?_⟩, fun h => .inr ⟨rfl, rfl, ?_⟩, fun h3 h4 h5 => .inl ⟨rfl, ?_⟩⟩
        · unfold numS; rw [if_neg (fun hc => h hc.1)]
        · unfold numS; rw [if_neg (fun hc => by omega)]
        · unfold numS; rw [if_neg (fun hc => by omega)]
        · unfold numS; rw [if_pos ⟨h3, h4, h5⟩]
      have same : ∀ v' b', NumR s v' b' → v = v' ∧ b = b' := by
        intro v' b' h
        rcases h with ⟨h4, h5⟩ | ⟨h4, h5, h6⟩
        · obtain ⟨h7, h8⟩ := hvb.of h5; exact ⟨h8, by rw [h7, h4]⟩
        · obtain ⟨h7, h8⟩ := hvb.none h6; exact ⟨by rw [h8, h5], by rw [h7, h4]⟩
      conv => cbv
      have br : ∀ x : Int, x = valS s → ∃ z : Str, V.v 37 [.int .i64 x] (.str ⟨⟨z⟩⟩) ∧ z = itoa x := fun x hx => ⟨_, h37 x ((fin x hx).1 x rfl), rfl⟩
      rintro (_ | _) h3
      · replace h3 := f_gtr hO h3
        rw [o_slen hO] at h3
        conv => cbv
        have hs0 : s = [] := List.length_eq_zero_iff.1 (by omega)
        obtain ⟨n, hn⟩ : ∃ n : Int, n = a := ⟨_, rfl⟩
        have hnv : n = valS s := by rw [hn, ha, hs0]; rfl
        rw [← hn]
        clear hn
        obtain ⟨z, hz, hzi⟩ := br n hnv
        obtain ⟨_, f1, f2, f3, f4⟩ := fin n hnv
        refine ⟨_, hz, ?_⟩
        conv => cbv
        rintro (_ | _) h5
        · replace h5 : z = s := f_sneq hO h5
          conv => cbv
          rintro (_ | _) h6
          · replace h6 := f_lss hO h6
            conv => cbv
            rintro (_ | _) h7
            · replace h7 := f_gtr hO h7
              conv => cbv
              obtain ⟨e1, e2⟩ := same _ _ (f4 (by rw [← hzi]; exact h5) (by unfold least; omega) (by unfold most; omega))
              rw [e1, e2]
            · replace h7 := t_gtr hO h7
              conv => cbv
              obtain ⟨e1, e2⟩ := same _ _ (f3 (by unfold most; omega))
              rw [e1, e2]
          · replace h6 := t_lss hO h6
            conv => cbv
            obtain ⟨e1, e2⟩ := same _ _ (f2 (by unfold least; omega))
            rw [e1, e2]
        · replace h5 : z ≠ s := t_sneq hO h5
          conv => cbv
          obtain ⟨e1, e2⟩ := same _ _ (f1 (by rw [← hzi]; exact h5))
          rw [e1, e2]
      · replace h3 := t_gtr hO h3
        rw [o_slen hO] at h3
        conv => cbv
        obtain ⟨c0, hc0⟩ : ∃ c, s[0]? = some c := ⟨_, List.getElem?_eq_getElem (by omega)⟩
        obtain ⟨u, hu⟩ : ∃ u : Int, u = O .u8 c0 := ⟨_, rfl⟩
        have hu2 := hu
        rw [o_u8 hO] at hu2
        refine ⟨c0, ⟨by decide⟩, hc0, ?_⟩
        rw [← hu]
        conv => cbv
        rintro (_ | _) h4
        · replace h4 := f_eql hO h4
          conv => cbv
          obtain ⟨n, hn⟩ : ∃ n : Int, n = a := ⟨_, rfl⟩
          have hnv : n = valS s := by
            unfold valS
            rw [hc0, if_neg (fun e => by simp only [Option.some.injEq] at e; subst e; exact h4 hu2), hn, ha]
            rfl
          rw [← hn]
          clear hn
          obtain ⟨z, hz, hzi⟩ := br n hnv
          obtain ⟨_, f1, f2, f3, f4⟩ := fin n hnv
          refine ⟨_, hz, ?_⟩
          conv => cbv
          rintro (_ | _) h5
          · replace h5 : z = s := f_sneq hO h5
            conv => cbv
            rintro (_ | _) h6
            · replace h6 := f_lss hO h6
              conv => cbv
              rintro (_ | _) h7
              · replace h7 := f_gtr hO h7
                conv => cbv
                obtain ⟨e1, e2⟩ := same _ _ (f4 (by rw [← hzi]; exact h5) (by unfold least; omega) (by unfold most; omega))
                rw [e1, e2]
              · replace h7 := t_gtr hO h7
                conv => cbv
                obtain ⟨e1, e2⟩ := same _ _ (f3 (by unfold most; omega))
                rw [e1, e2]
            · replace h6 := t_lss hO h6
              conv => cbv
              obtain ⟨e1, e2⟩ := same _ _ (f2 (by unfold least; omega))
              rw [e1, e2]
          · replace h5 : z ≠ s := t_sneq hO h5
            conv => cbv
            obtain ⟨e1, e2⟩ := same _ _ (f1 (by rw [← hzi]; exact h5))
            rw [e1, e2]
        · replace h4 := t_eql hO h4
          have hneg : O .neg .neg .i64 a = -a := by rw [o_neg hO, wrap_i64 (by omega) (by omega)]; omega
          conv => cbv
          rw [hneg]
          obtain ⟨n, hn⟩ : ∃ n : Int, n = -a := ⟨_, rfl⟩
          have hnv : n = valS s := by
            unfold valS
            have : c0 = 45 := by
              apply UInt8.toNat_inj.1
              have : (45 : UInt8).toNat = 45 := by decide
              omega
            rw [hc0, if_pos (by rw [this]), hn, ha]
            rfl
          rw [← hn]
          clear hn
          obtain ⟨z, hz, hzi⟩ := br n hnv
          obtain ⟨_, f1, f2, f3, f4⟩ := fin n hnv
          refine ⟨_, hz, ?_⟩
          conv => cbv
          rintro (_ | _) h5
          · replace h5 : z = s := f_sneq hO h5
            conv => cbv
            rintro (_ | _) h6
            · replace h6 := f_lss hO h6
              conv => cbv
              rintro (_ | _) h7
              · replace h7 := f_gtr hO h7
                conv => cbv
                obtain ⟨e1, e2⟩ := same _ _ (f4 (by rw [← hzi]; exact h5) (by unfold least; omega) (by unfold most; omega))
                rw [e1, e2]
              · replace h7 := t_gtr hO h7
                conv => cbv
                obtain ⟨e1, e2⟩ := same _ _ (f3 (by unfold most; omega))
                rw [e1, e2]
            · replace h6 := t_lss hO h6
              conv => cbv
              obtain ⟨e1, e2⟩ := same _ _ (f2 (by unfold least; omega))
              rw [e1, e2]
          · replace h5 : z ≠ s := t_sneq hO h5
            conv => cbv
            obtain ⟨e1, e2⟩ := same _ _ (f1 (by rw [← hzi]; exact h5))
            rw [e1, e2]
    · replace h2 := t_lss hO h2
      rw [o_slen hO] at h2
      conv => cbv
      obtain ⟨b', hb'⟩ : ∃ b', s[k]? = some b' := ⟨_, List.getElem?_eq_getElem (by omega)⟩
      obtain ⟨u, hu⟩ : ∃ u : Int, u = O .u8 b' := ⟨_, rfl⟩
      have hu2 := hu
      rw [o_u8 hO] at hu2
      have hstep : (s.take (k + 1)).foldl digv 0 = digv ((s.take k).foldl digv 0) b' := by
        rw [List.take_add_one, hb', List.foldl_append]
        rfl
      refine ⟨b', ⟨by omega⟩, by rw [hi]; exact hb', ?_⟩
      rw [← hu]
      conv => cbv
      rintro (_ | _) h3
      · replace h3 := f_geq hO h3
        conv => cbv
        refine ⟨_, _, up _ _ ⟨_, _, k + 1, rfl, ?_, by omega, rfl, ?_⟩, ⟨⟨rfl, rfl, rfl, trivial⟩, trivial, rfl⟩, by omega⟩
        · rw [o_add64 hO (by omega) (by omega)]; omega
        · rw [ha, hstep]; unfold digv; rw [if_neg (by omega)]
      · replace h3 := t_geq hO h3
        conv => cbv
        refine ⟨b', ⟨by omega⟩, by rw [hi]; exact hb', ?_⟩
        rw [← hu]
        conv => cbv
        rintro (_ | _) h4
        · replace h4 := f_leq hO h4
          conv => cbv
          refine ⟨_, _, up _ _ ⟨_, _, k + 1, rfl, ?_, by omega, rfl, ?_⟩, ⟨⟨rfl, rfl, rfl, trivial⟩, trivial, rfl⟩, by omega⟩
          · rw [o_add64 hO (by omega) (by omega)]; omega
          · rw [ha, hstep]; unfold digv; rw [if_neg (by omega)]
        · replace h4 := t_leq hO h4
          conv => cbv
          refine ⟨b', ⟨by omega⟩, by rw [hi]; exact hb', ?_⟩
          rw [← hu]
          conv => cbv
          refine ⟨_, _, up _ _ ⟨_, _, k + 1, rfl, ?_, by omega, rfl, ?_⟩, ⟨⟨rfl, rfl, rfl, trivial⟩, trivial, rfl⟩, by omega⟩
          · rw [o_add64 hO (by omega) (by omega)]; omega
          · rw [o_mul64 hO (by omega) (by omega), o_sub hO, wrap_u8 (by omega) (by omega), o_wrap hO, wrap_i64 (by omega) (by omega), o_add64 hO (by omega) (by omega), ha, hstep]
            unfold digv
            rw [if_pos (by omega)]
            omega
  · replace h1 := t_gtr hO h1
    rw [o_slen hO] at h1
    conv => cbv
    obtain ⟨h2, h3⟩ := hvb.none (numS_none_len (by omega))
    rw [h2, h3]
def ParseC (V : Ans) (f : Nat) : Prop := ∀ s : Str, SL s → ∃ (v : Int) (e : D), V.v f [mkS s, .int .i64 10, .int .i64 64] (.tup [.int .i64 v, e]) ∧ FI v ∧ ((e = .nili ∧ Lib.parseIntB 64 s = .ok v) ∨ (e = .opq ∧ ∀ n, Lib.parseIntB 64 s ≠ .ok n))
set_option maxHeartbeats 2000000 in
theorem number13_ok (R : Ans) (h35 : ParseC R 35) (h36 : ∀ n, FI n → R.v 36 [.int .i64 n, .int .i64 10] (mkS (itoa n))) (s : Str) (hs : SL s) (v : Int) (b : Bool) (hvb : NumR s v b) : AnsF R c13 [mkS s] (.tup [.int .i64 v, .bool b]) := by
  obtain ⟨x, e, hx, hfi, hcase⟩ := h35 s hs
  have same : ∀ v' b', NumR s v' b' → v = v' ∧ b = b' := by
    intro v' b' h
    rcases h with ⟨h4, h5⟩ | ⟨h4, h5, h6⟩
    · obtain ⟨h7, h8⟩ := hvb.of h5; exact ⟨h8, by rw [h7, h4]⟩
    · obtain ⟨h7, h8⟩ := hvb.none h6; exact ⟨by rw [h8, h5], by rw [h7, h4]⟩
  have none : (∀ n, NumP s n → False) → NumR s 0 false := fun h => .inr ⟨rfl, rfl, by
    cases hn : numS s with
    | none => rfl
    | some n => exact (h n (numS_iff.1 hn)).elim⟩
  refine wpF_sound ⟨rfl, by decide⟩ fun O hO V hV => ?_
  subst hV
  rcases hcase with ⟨rfl, hp⟩ | ⟨rfl, hp⟩
  · have only : ∀ n, NumP s n → n = x := by
      rintro n ⟨rfl, h1, h2⟩
      rw [parse_itoa h1 h2] at hp
      simpa using hp
    obtain ⟨z, hz, hzi⟩ : ∃ z : Str, V.v 36 [.int .i64 x, .int .i64 10] (.str ⟨⟨z⟩⟩) ∧ z = itoa x := ⟨_, h36 x hfi, rfl⟩
    conv => cbv
    refine ⟨_, hx, ?_⟩
    conv => cbv
    rintro (_ | _) h1
    · replace h1 := f_lss hO h1
      conv => cbv
      rintro (_ | _) h2
      · replace h2 := f_gtr hO h2
        conv => cbv
        refine ⟨_, hz, ?_⟩
        conv => cbv
        rintro (_ | _) h3
        · replace h3 : z = s := f_sneq hO h3
          conv => cbv
          obtain ⟨e1, e2⟩ := same x true (.inl ⟨rfl, numS_iff.2 ⟨by rw [← h3, hzi], by unfold least; omega, by unfold most; omega⟩⟩)
          rw [e1, e2]
        · replace h3 : z ≠ s := t_sneq hO h3
          conv => cbv
          obtain ⟨e1, e2⟩ := same _ _ (none fun n hn => h3 (by rw [hzi, ← only n hn]; exact hn.1.symm))
          rw [e1, e2]
      · replace h2 := t_gtr hO h2
        conv => cbv
        obtain ⟨e1, e2⟩ := same _ _ (none fun n hn => by have := only n hn; have := hn.2.2; unfold most at this; omega)
        rw [e1, e2]
    · replace h1 := t_lss hO h1
      conv => cbv
      obtain ⟨e1, e2⟩ := same _ _ (none fun n hn => by have := only n hn; have := hn.2.1; unfold least at this; omega)
      rw [e1, e2]
  · obtain ⟨e1, e2⟩ := same _ _ (none fun n hn => hp n (by obtain ⟨rfl, h1, h2⟩ := hn; exact parse_itoa h1 h2))
    conv => cbv
    refine ⟨_, hx, ?_⟩
    conv => cbv
    rw [e1, e2]
theorem value_split (s : Str) {v : Int} {b : Bool} (h : NumR s v b) : valueB s = (b || nameB s) := by
  rw [valueB_or]
  rcases h with ⟨h1, h2⟩ | ⟨h1, _, h2⟩ <;> rw [h1, h2] <;> simp
theorem value17_ok (R : Ans) (h16 : ∀ s, SL s → R.v 16 [mkS s] (.bool (nameB s))) (h15 : ∀ s, SL s → ∀ v b, NumR s v b → R.v 15 [mkS s] (.tup [.int .i64 v, .bool b])) (s : Str) (hs : SL s) : AnsF R c17 [mkS s] (.bool (valueB s)) := by
  obtain ⟨v, b, hvb⟩ := NumR.ex s
  have hv := value_split s hvb
  have k1 := h16 s hs
  have k2 := h15 s hs v b hvb
  obtain ⟨r, hr⟩ : ∃ r, r = valueB s := ⟨_, rfl⟩
  obtain ⟨q, hq⟩ : ∃ q, q = nameB s := ⟨_, rfl⟩
  rw [← hr, ← hq] at hv
  rw [← hq] at k1
  rw [← hr]
  clear hr hq hvb
  refine wpF_sound ⟨rfl, by decide⟩ fun O hO V hV => ?_
  subst hV
  conv => cbv
  refine ⟨_, k1, ?_⟩
  conv => cbv
  refine ⟨_, k2, ?_⟩
  subst hv
  cases q <;> cases b <;> (conv => cbv) <;> trivial
theorem value19_ok (R : Ans) (h18 : ∀ s, SL s → R.v 18 [mkS s] (.bool (nameB s))) (h13 : ∀ s, SL s → ∀ v b, NumR s v b → R.v 13 [mkS s] (.tup [.int .i64 v, .bool b])) (s : Str) (hs : SL s) : AnsF R c19 [mkS s] (.bool (valueB s)) := by
  obtain ⟨v, b, hvb⟩ := NumR.ex s
  have hv := value_split s hvb
  have k1 := h18 s hs
  have k2 := h13 s hs v b hvb
  obtain ⟨r, hr⟩ : ∃ r, r = valueB s := ⟨_, rfl⟩
  obtain ⟨q, hq⟩ : ∃ q, q = nameB s := ⟨_, rfl⟩
  rw [← hr, ← hq] at hv
  rw [← hq] at k1
  rw [← hr]
  clear hr hq hvb
  refine wpF_sound ⟨rfl, by decide⟩ fun O hO V hV => ?_
  subst hV
  conv => cbv
  refine ⟨_, k2, ?_⟩
  subst hv
  cases b
  · conv => cbv
    refine ⟨_, k1, ?_⟩
    conv => cbv
    trivial
  · conv => cbv
    trivial
end Go.Proofs.AM
namespace Go.Proofs.AM
open Go Go.Lib Cd
theorem seen_S (z : Str) : ∀ (S : List Str), seenIn (mkS z) (S.map mkS) = some (decide (z ∈ S))
  | [] => rfl
  | x :: r => by
    have ih := seen_S z r
    have hb : (({ data := { toList := z } } : ByteArray) == { data := { toList := x } }) = decide (z = x) := by
      show (({ toList := z } : Array UInt8) == { toList := x }) = _
      rw [Bool.eq_iff_iff]
      simp
    have hd : dynEq (mkS z) (mkS x) = some (decide (z = x)) := by
      show some (_ == _) = _
      rw [hb]
    simp only [List.map_cons, seenIn, hd, Option.bind_some, ih]
    by_cases h : z = x <;> simp [h]
theorem lookDyn_ent (z : Str) : ∀ (K : List Str), z ∈ K → lookDyn (mkS z) (K.map ent) = some (some (.bool true))
  | [], h => by simp at h
  | x :: r, h => by
    have hb : (({ data := { toList := z } } : ByteArray) == { data := { toList := x } }) = decide (z = x) := by
      show (({ toList := z } : Array UInt8) == { toList := x }) = _
      rw [Bool.eq_iff_iff]
      simp
    have hd : dynEq (mkS z) (mkS x) = some (decide (z = x)) := by
      show some (_ == _) = _
      rw [hb]
    simp only [List.map_cons, ent, lookDyn, hd, Option.bind_some]
    by_cases e : z = x
    · simp [e]
    · have hm : z ∈ r := by
        rcases List.mem_cons.1 h with h | h
        · exact absurd h e
        · exact h
      simp only [e, decide_false, Bool.false_eq_true, if_false]
      exact lookDyn_ent z r hm
def NumsR (lo hi : Int) (K : List Str) (S : SetV) (b : Bool) : Prop := (b = true ∧ numbersS lo hi K = some S) ∨ (b = false ∧ numbersS lo hi K = none)
theorem upTo_get (lo : Int) : ∀ (n : Nat), upTo lo (n + 1) = upTo lo n ++ [itoa (lo + n)]
  | 0 => by simp [upTo]
  | n + 1 => by
    rw [show upTo lo (n + 1 + 1) = itoa lo :: upTo (lo + 1) (n + 1) from rfl, upTo_get (lo + 1) n]
    simp only [upTo, List.cons_append]
    rw [show lo + 1 + (n : Int) = lo + ((n + 1 : Nat) : Int) by omega]
def accN (lo : Int) (K : List Str) (j : Nat) : List Str := ((upTo lo j).filter fun s => decide (s ∉ K)).foldl insS []
theorem accN_step {lo : Int} {K : List Str} {j : Nat} {z : Str} (hz : z = itoa (lo + j)) : accN lo K (j + 1) = if z ∈ K then accN lo K j else insS (accN lo K j) z := by
  unfold accN
  rw [upTo_get, List.filter_append, List.foldl_append, ← hz]
  by_cases h : z ∈ K <;> simp [h]
theorem accN_mem {lo hi : Int} {K : List Str} {z : Str} : z ∈ accN lo K (hi + 1 - lo).toNat ↔ z ∈ listN lo hi K := by
  have := (ins_aux ((upTo lo (hi + 1 - lo).toNat).filter fun s => decide (s ∉ K)) [] List.nodup_nil).2.1 z
  unfold accN listN
  simpa using this
theorem accN_nodup (lo : Int) (K : List Str) (j : Nat) : (accN lo K j).Nodup := (ins_aux _ [] List.nodup_nil).1
theorem upTo_len (lo : Int) : ∀ n, (upTo lo n).length = n
  | 0 => rfl
  | n + 1 => by simp [upTo, upTo_len (lo + 1) n]
theorem accN_len (lo : Int) (K : List Str) (j : Nat) : (accN lo K j).length ≤ j := by
  have h1 := (ins_aux ((upTo lo j).filter fun s => decide (s ∉ K)) [] List.nodup_nil).2.2
  have h2 := List.length_filter_le (fun s => decide (s ∉ K)) (upTo lo j)
  rw [upTo_len] at h2
  unfold accN
  simp only [List.length_nil, Nat.add_zero] at h1
  omega
theorem listN_congr {lo hi : Int} {K K' : List Str} (h : ∀ z, z ∈ K ↔ z ∈ K') : listN lo hi K = listN lo hi K' := by
  unfold listN
  congr 1
  funext s
  simp [h s]
theorem upS_ge {hi : Int} {K : List Str} : ∀ (n : Nat) (lo : Int), (hi + 1 - lo).toNat ≤ n → lo ≤ upS hi K lo ∧ (lo ≤ hi + 1 → upS hi K lo ≤ hi + 1) ∧ (hi < lo → upS hi K lo = lo) := by
  intro n
  induction n with
  | zero => intro lo h; rw [upS_stop (fun h' => by omega)]; omega
  | succ n ih =>
    intro lo h
    by_cases hc : lo ≤ hi ∧ itoa lo ∈ K
    · rw [upS_step hc]; have := ih (lo + 1) (by omega); omega
    · rw [upS_stop hc]; omega
theorem dnS_le {lo : Int} {K : List Str} : ∀ (n : Nat) (hi : Int), (hi + 1 - lo).toNat ≤ n → dnS lo K hi ≤ hi ∧ (lo - 1 ≤ hi → lo - 1 ≤ dnS lo K hi) ∧ (hi < lo → dnS lo K hi = hi) := by
  intro n
  induction n with
  | zero => intro hi h; rw [dnS_stop (fun h' => by omega)]; omega
  | succ n ih =>
    intro hi h
    by_cases hc : lo ≤ hi ∧ itoa hi ∈ K
    · rw [dnS_step hc]; have := ih (hi - 1) (by omega); omega
    · rw [dnS_stop hc]; omega
theorem itoa_SL {n : Int} (h : FI n) : SL (itoa n) := by
  unfold FI at h
  have := decDigits_le 18 n.natAbs (by have : (10 : Nat) ^ (18 + 1) = 10000000000000000000 := by decide
                                       omega)
  unfold SL
  by_cases h : n < 0
  · rw [itoa_neg' h]; simp; omega
  · rw [itoa_pos' (by omega)]; omega
theorem upTo_SL {lo : Int} : ∀ {j : Nat}, (∀ i : Nat, i < j → FI (lo + i)) → ∀ s ∈ upTo lo j, SL s
  | 0, _, s, hs => by simp [upTo] at hs
  | j + 1, h, s, hs => by
    rw [upTo_get, List.mem_append] at hs
    rcases hs with hs | hs
    · exact upTo_SL (fun i hi => h i (by omega)) s hs
    · simp only [List.mem_singleton] at hs
      subst hs
      exact itoa_SL (h j (by omega))
theorem accN_SL {lo : Int} {K : List Str} {j : Nat} (h : ∀ i : Nat, i < j → FI (lo + i)) : ∀ s ∈ accN lo K j, SL s := by
  intro s hs
  have hm := ((ins_aux ((upTo lo j).filter fun s => decide (s ∉ K)) [] List.nodup_nil).2.1 s).1 hs
  simp only [List.not_mem_nil, or_false, List.mem_filter] at hm
  exact upTo_SL h s hm.1
theorem left_SL {lo hi : Int} {K K2 : List Str} (h : ∀ z, z ∈ K2 ↔ z ∈ K ∧ inR lo hi z = true) : ∀ s ∈ K2, SL s := fun s hs => by
  obtain ⟨n, hn, _⟩ := inR_iff.1 ((h s).1 hs).2
  have := numS_len hn
  unfold SL
  omega
theorem left_vals {lo hi : Int} {K K2 : List Str} (h2 : K2.Nodup) (h : ∀ z, z ∈ K2 ↔ z ∈ K ∧ inR lo hi z = true) : risingS K2 = valsN lo hi K ∧ (valsN lo hi K).length = K2.length ∧ ∀ z, z ∈ K2 ↔ z ∈ valsN lo hi K := by
  have e : risingS K2 = valsN lo hi K := risingS_congr fun z => by rw [h z]; simp
  refine ⟨e, by rw [← e, risingS_len_eq h2], fun z => by rw [← e, risingS_mem]⟩
set_option maxRecDepth 100000 in
set_option maxHeartbeats 8000000 in
theorem numbers34_ok (R : Ans) (h13 : ∀ s, SL s → ∀ v b, NumR s v b → R.v 13 [mkS s] (.tup [.int .i64 v, .bool b])) (h36 : ∀ n, FI n → R.v 36 [.int .i64 n, .int .i64 10] (mkS (itoa n)))
    (h32 : ∀ K : List Str, K.Nodup → (∀ s ∈ K, SL s) → K.length ≤ 8796093022208 → R.v 32 [.mapv (K.map ent)] (.sl 1 false ((risingS K).map mkS))) (lo0 hi0 : Int) (hb1 : least ≤ lo0) (hb2 : lo0 ≤ most + 1) (hb3 : hi0 ≤ most) (hb4 : least - 1 ≤ hi0) (K : List Str) (hK : K = []) (hKl : K.length ≤ 8796093022208) (S : SetV) (b : Bool) (hS : NumsR lo0 hi0 K S b) : AnsF R c34 [.int .i64 lo0, .int .i64 hi0, .mapv (K.map ent)] (.tup [setD S, .bool b]) := by
  unfold least at hb1 hb4
  unfold most at hb2 hb3
  refine wpF_sound ⟨rfl, by decide⟩ fun O hO V hV => ?_
  subst hV
  obtain ⟨es, hes⟩ : ∃ es, es = K.map ent := ⟨_, rfl⟩
  rw [← hes]
  obtain ⟨r, hrr⟩ : ∃ r, r = D.tup [setD S, .bool b] := ⟨_, rfl⟩
  rw [← hrr]
  have hleq : O .len es = K.length := by rw [o_len hO, hes]; simp
  have look : ∀ z : Str, ∃ r, lookD kS (mkS z) es = some r ∧ ((z ∈ K ∧ r = some (.bool true)) ∨ (z ∉ K ∧ r = none)) := fun z => by
    rw [hes, look_ent]
    by_cases h : z ∈ K
    · exact ⟨_, rfl, .inl ⟨h, by simp [h]⟩⟩
    · exact ⟨_, rfl, .inr ⟨h, by simp [h]⟩⟩
  have fmt : ∀ x : Int, FI x → ∃ z : Str, V.v 36 [.int .i64 x, .int .i64 10] (.str ⟨⟨z⟩⟩) ∧ z = itoa x := fun x hx => ⟨_, h36 x hx, rfl⟩
  conv => cbv
  refine join_of (fun d => ∃ x : Int, d = ⟨[(0, .int .i64 x), (1, .int .i64 hi0), (2, .mapv es), (6, .ptr 6 1 0)], [(6, ⟨1, .rw, .var, [.bool false, .bool false, .bool false, .sl 1 true [], .int .i64 0, .int .i64 0]⟩)], false⟩ ∧ x = upS hi0 K lo0) (fun M upm => ?_) ?_
  · conv => cbv
    refine loop_of (fun n d => ∃ x : Int, d = ⟨[(0, .int .i64 x), (1, .int .i64 hi0), (2, .mapv es), (6, .ptr 6 1 0)], [(6, ⟨1, .rw, .var, [.bool false, .bool false, .bool false, .sl 1 true [], .int .i64 0, .int .i64 0]⟩)], false⟩ ∧ n = (hi0 + 1 - x).toNat ∧ (x ≤ hi0 + 1 ∨ x = lo0) ∧ lo0 ≤ x ∧ upS hi0 K x = upS hi0 K lo0) ⟨_, _, ⟨_, rfl, rfl, .inr rfl, Int.le_refl _, rfl⟩, ⟨⟨rfl, rfl, rfl, rfl, trivial⟩, ⟨rfl, trivial⟩, rfl⟩⟩ ?_
    rintro J up n d ⟨x, rfl, rfl, hx1, hx2, hx3⟩
    conv => cbv
    rintro (_ | _) h1
    · replace h1 := f_leq hO h1
      conv => cbv
      exact ⟨_, upm _ ⟨x, rfl, by rw [← hx3, upS_stop (fun h => by omega)]⟩, ⟨⟨rfl, rfl, rfl, rfl, trivial⟩, ⟨rfl, trivial⟩, rfl⟩⟩
    · replace h1 := t_leq hO h1
      conv => cbv
      obtain ⟨z, hz, hzi⟩ := fmt x (by unfold FI; omega)
      refine ⟨_, hz, ?_⟩
      conv => cbv
      obtain ⟨q, hq, hcase⟩ := look z
      refine ⟨q, hq, ?_⟩
      rcases hcase with ⟨hm, rfl⟩ | ⟨hm, rfl⟩
      · conv => cbv
        refine ⟨_, _, up _ _ ⟨_, rfl, rfl, ?_, ?_, ?_⟩, ⟨⟨rfl, rfl, rfl, rfl, trivial⟩, ⟨rfl, trivial⟩, rfl⟩, ?_⟩
        all_goals rw [o_add64 hO (by omega) (by omega)]
        · omega
        · omega
        · rw [← hx3, ← upS_step ⟨h1, by rw [← hzi]; exact hm⟩]
        · omega
      · conv => cbv
        exact ⟨_, upm _ ⟨x, rfl, by rw [← hx3, upS_stop (fun h => hm (by rw [hzi]; exact h.2))]⟩, ⟨⟨rfl, rfl, rfl, rfl, trivial⟩, ⟨rfl, trivial⟩, rfl⟩⟩
  rintro d ⟨x, rfl, hx⟩
  have hxb := upS_ge (hi := hi0) (K := K) _ lo0 (Nat.le_refl _)
  rw [← hx] at hxb
  conv => cbv
  refine join_of (fun d => ∃ y : Int, d = ⟨[(0, .int .i64 x), (1, .int .i64 y), (2, .mapv es), (6, .ptr 6 1 0)], [(6, ⟨1, .rw, .var, [.bool false, .bool false, .bool false, .sl 1 true [], .int .i64 0, .int .i64 0]⟩)], false⟩ ∧ y = dnS x K hi0) (fun M upm => ?_) ?_
  · conv => cbv
    refine loop_of (fun n d => ∃ y : Int, d = ⟨[(0, .int .i64 x), (1, .int .i64 y), (2, .mapv es), (6, .ptr 6 1 0)], [(6, ⟨1, .rw, .var, [.bool false, .bool false, .bool false, .sl 1 true [], .int .i64 0, .int .i64 0]⟩)], false⟩ ∧ n = (y + 1 - x).toNat ∧ (x - 1 ≤ y ∨ y = hi0) ∧ y ≤ hi0 ∧ dnS x K y = dnS x K hi0) ⟨_, _, ⟨_, rfl, rfl, .inr rfl, Int.le_refl _, rfl⟩, ⟨⟨rfl, rfl, rfl, rfl, trivial⟩, ⟨rfl, trivial⟩, rfl⟩⟩ ?_
    rintro J up n d ⟨y, rfl, rfl, hx1, hx2, hx3⟩
    conv => cbv
    rintro (_ | _) h1
    · replace h1 := f_leq hO h1
      conv => cbv
      exact ⟨_, upm _ ⟨y, rfl, by rw [← hx3, dnS_stop (fun h => by omega)]⟩, ⟨⟨rfl, rfl, rfl, rfl, trivial⟩, ⟨rfl, trivial⟩, rfl⟩⟩
    · replace h1 := t_leq hO h1
      conv => cbv
      obtain ⟨z, hz, hzi⟩ := fmt y (by unfold FI; omega)
      refine ⟨_, hz, ?_⟩
      conv => cbv
      obtain ⟨q, hq, hcase⟩ := look z
      refine ⟨q, hq, ?_⟩
      rcases hcase with ⟨hm, rfl⟩ | ⟨hm, rfl⟩
      · conv => cbv
        refine ⟨_, _, up _ _ ⟨_, rfl, rfl, ?_, ?_, ?_⟩, ⟨⟨rfl, rfl, rfl, rfl, trivial⟩, ⟨rfl, trivial⟩, rfl⟩, ?_⟩
        all_goals rw [o_sub64 hO (by omega) (by omega)]
        · omega
        · omega
        · rw [← hx3, ← dnS_step ⟨h1, by rw [← hzi]; exact hm⟩]
        · omega
      · conv => cbv
        exact ⟨_, upm _ ⟨y, rfl, by rw [← hx3, dnS_stop (fun h => hm (by rw [hzi]; exact h.2))]⟩, ⟨⟨rfl, rfl, rfl, rfl, trivial⟩, ⟨rfl, trivial⟩, rfl⟩⟩
  rintro d ⟨y, rfl, hy⟩
  have hyb := dnS_le (lo := x) (K := K) _ hi0 (Nat.le_refl _)
  rw [← hy] at hyb
  conv => cbv
  refine join_of (fun d => ∃ (K2 : List Str) (es2 : List D), d = ⟨[(0, .int .i64 x), (1, .int .i64 y), (2, .mapv es2), (6, .ptr 6 1 0)], [(6, ⟨1, .rw, .var, [.bool false, .bool false, .bool false, .sl 1 true [], .int .i64 0, .int .i64 0]⟩)], false⟩ ∧ es2 = K2.map ent ∧ K2.Nodup ∧ K2.length ≤ K.length ∧ ∀ z, z ∈ K2 ↔ z ∈ K ∧ inR x y z = true) (fun M upm => ?_) ?_
  · conv => cbv
    intro g37
    conv => cbv
    subst hK
    rw [List.map_nil] at hes
    refine loop_of (fun n d => n = 0 ∧ d = ⟨[(0, .int .i64 x), (1, .int .i64 y), (2, .mapv es), (6, .ptr 6 1 0), (37, .ptr 37 g37 0)], [(6, ⟨1, .rw, .var, [.bool false, .bool false, .bool false, .sl 1 true [], .int .i64 0, .int .i64 0]⟩), (37, ⟨g37, .rw, .iter, [.mapv es, .int .i64 0]⟩)], false⟩) ⟨_, _, ⟨rfl, rfl⟩, ⟨⟨rfl, rfl, rfl, rfl, rfl, trivial⟩, ⟨rfl, rfl, trivial⟩, rfl⟩⟩ ?_
    rintro J up n d ⟨rfl, rfl⟩
    conv => cbv
    refine ⟨fun w hw => by rw [hes] at hw; simp at hw, fun _ => ?_, fun k w hw => by rw [hes] at hw; simp at hw⟩
    conv => cbv
    exact ⟨_, upm _ ⟨[], es, rfl, hes, List.nodup_nil, Nat.le_refl _, fun z => by simp⟩, ⟨⟨rfl, rfl, rfl, rfl, trivial⟩, ⟨rfl, trivial⟩, rfl⟩⟩
  rintro d ⟨K2, es2, rfl, hes2, hnd, hlen2, hmem⟩
  obtain ⟨hv1, hv2, hv3⟩ := left_vals hnd hmem
  have hl2 : O .len es2 = K2.length := by rw [o_len hO, hes2]; simp
  have hc2 : CleanL es2 := cleanL_map clean_ent hes2
  have hans : numbersS lo0 hi0 K = numbersN x y K := by unfold numbersS; rw [← hx, ← hy]
  have hspan : O .iop .sub .i64 (O .iop .add .i64 (O .iop .sub .i64 y x) 1) (O .len es2) = y - x + 1 - K2.length := by
    have e1 : O .iop .sub .i64 y x = y - x := o_sub64 hO (by omega) (by omega)
    rw [e1, o_add64 hO (by omega) (by omega), hl2, o_sub64 hO (by omega) (by omega)]
  have look2 : ∀ z : Str, ∃ r, lookD kS (mkS z) es2 = some r ∧ ((z ∈ K2 ∧ r = some (.bool true)) ∨ (z ∉ K2 ∧ r = none)) := fun z => by
    rw [hes2, look_ent]
    by_cases h : z ∈ K2
    · exact ⟨_, rfl, .inl ⟨h, by simp [h]⟩⟩
    · exact ⟨_, rfl, .inr ⟨h, by simp [h]⟩⟩
  conv => cbv
  rintro (_ | _) h1
  · replace h1 := f_gtr hO h1
    rw [hspan] at h1
    conv => cbv
    intro g77
    conv => cbv
    refine loop_of (fun n d => ∃ (v : Int) (j : Nat) (ac : List D) (tk : Int), d = ⟨[(1, .int .i64 y), (2, .mapv es2), (6, .ptr 6 1 0), (11, .mapr 77 g77), (12, .int .i64 v)], [(6, ⟨1, .rw, .var, [.bool false, .bool false, .bool false, .sl 1 true [], .int .i64 0, .int .i64 0]⟩), (77, ⟨g77, .rw, .map, .int .i64 tk :: ac⟩)], false⟩ ∧ v = x + j ∧ (j = 0 ∨ v ≤ y + 1) ∧ n = (y + 1 - v).toNat ∧ ac = (accN x K2 j).map ent) ⟨_, _, ⟨x, 0, _, _, rfl, by omega, .inl rfl, rfl, rfl⟩, ⟨⟨rfl, rfl, rfl, rfl, rfl, trivial⟩, ⟨rfl, rfl, trivial⟩, rfl⟩⟩ ?_
    rintro J up n d ⟨v, j, ac, tk, rfl, hv, hvj, rfl, hac⟩
    conv => cbv
    rintro (_ | _) h2
    · replace h2 := f_leq hO h2
      conv => cbv
      have hj : accN x K2 j = accN x K2 (y + 1 - x).toNat := by
        rcases hvj with h | h
        · subst h; rw [show (y + 1 - x).toNat = 0 by omega]
        · rw [show (y + 1 - x).toNat = j by omega]
      have hcac : CleanL ac := cleanL_map clean_ent hac
      have hal := accN_len x K2 j
      have hr := h32 (accN x K2 j) (accN_nodup _ _ _) (accN_SL fun i hi => ⟨by omega, by omega⟩) (by omega)
      rw [← hac] at hr
      obtain ⟨rs, hrs⟩ : ∃ rs, rs = (risingS (accN x K2 j)).map mkS := ⟨_, rfl⟩
      have hcr : CleanL rs := cleanL_map clean_S hrs
      rw [← hrs] at hr
      have hfin : risingS (accN x K2 j) = risingS (listN x y (valsN x y K)) := by
        rw [hj, ← listN_congr hv3]
        exact risingS_congr fun z => accN_mem
      refine ⟨hcac, _, hr, ?_⟩
      conv => cbv
      have hN : numbersN x y K = some ⟨false, false, false, risingS (accN x K2 j), 0, 0⟩ := by unfold numbersN; rw [if_pos (by rw [hv2]; omega), hfin]
      refine ⟨hcr, ?_⟩
      conv => cbv
      rcases hS with ⟨rfl, hS⟩ | ⟨rfl, hS⟩
      · rw [hans, hN] at hS
        simp only [Option.some.injEq] at hS
        subst hS
        rw [hrr]
        simp only [setD, ]
        rw [← hrs]
      · rw [hans, hN] at hS
        simp at hS
    · replace h2 := t_leq hO h2
      conv => cbv
      obtain ⟨z, hz, hzi⟩ := fmt v (by unfold FI; omega)
      refine ⟨_, hz, ?_⟩
      conv => cbv
      obtain ⟨q, hq, hcase⟩ := look2 z
      have hadd : O .iop .add .i64 v 1 = v + 1 := o_add64 hO (by omega) (by omega)
      have hst := accN_step (lo := x) (K := K2) (j := j) (z := z) (by rw [hzi, hv])
      refine ⟨q, hq, ?_⟩
      rcases hcase with ⟨hm, rfl⟩ | ⟨hm, rfl⟩
      · conv => cbv
        rw [hadd]
        refine ⟨_, _, up _ _ ⟨v + 1, j + 1, ac, tk, rfl, by omega, .inr (by omega), rfl, ?_⟩, ⟨⟨rfl, rfl, rfl, rfl, rfl, trivial⟩, ⟨rfl, rfl, trivial⟩, rfl⟩, by omega⟩
        rw [hac, hst, if_pos hm]
      · conv => cbv
        obtain ⟨ac3, hac3⟩ : ∃ ac3, ac3 = (insS (accN x K2 j) z).map ent := ⟨_, rfl⟩
        refine ⟨ac3, by rw [hac, hac3]; exact mput_ent _ _, fun c => ?_⟩
        conv => cbv
        rw [hadd]
        refine ⟨_, _, up _ _ ⟨v + 1, j + 1, ac3, c, rfl, by omega, .inr (by omega), rfl, ?_⟩, ⟨⟨rfl, rfl, rfl, rfl, rfl, trivial⟩, ⟨rfl, rfl, trivial⟩, rfl⟩, by omega⟩
        rw [hac3, hst, if_neg hm]
  · replace h1 := t_gtr hO h1
    rw [hspan] at h1
    conv => cbv
    have hr := h32 K2 hnd (left_SL hmem) (by omega)
    rw [← hes2] at hr
    obtain ⟨rs, hrs⟩ : ∃ rs, rs = (risingS K2).map mkS := ⟨_, rfl⟩
    have hcr : CleanL rs := cleanL_map clean_S hrs
    rw [← hrs] at hr
    refine ⟨hc2, _, hr, ?_⟩
    conv => cbv
    rintro (_ | _) h2
    · replace h2 := f_leq hO h2
      rw [hl2] at h2
      conv => cbv
      exfalso
      subst hK
      simp only [List.length_nil] at hlen2
      omega
    · replace h2 := t_leq hO h2
      rw [hl2] at h2
      conv => cbv
      have hN : numbersN x y K = some ⟨false, true, true, valsN x y K, x, y⟩ := by unfold numbersN; rw [if_neg (by rw [hv2]; omega), if_neg (by rw [hv2]; omega)]
      refine ⟨hcr, ?_⟩
      conv => cbv
      rcases hS with ⟨rfl, hS⟩ | ⟨rfl, hS⟩
      · rw [hans, hN] at hS
        simp only [Option.some.injEq] at hS
        subst hS
        rw [hrr]
        simp only [setD, ← hv1]
        rw [← hrs]
      · rw [hans, hN] at hS
        simp at hS
set_option maxRecDepth 100000 in
set_option maxHeartbeats 8000000 in
theorem numbers34_shared (R : Ans) (h13 : ∀ s, SL s → ∀ v b, NumR s v b → R.v 13 [mkS s] (.tup [.int .i64 v, .bool b])) (h36 : ∀ n, FI n → R.v 36 [.int .i64 n, .int .i64 10] (mkS (itoa n)))
    (h32 : ∀ K : List Str, K.Nodup → (∀ s ∈ K, SL s) → K.length ≤ 8796093022208 → R.v 32 [.mapv (K.map ent)] (.sl 1 false ((risingS K).map mkS))) (lo0 hi0 : Int) (hb1 : least ≤ lo0) (hb2 : lo0 ≤ most + 1) (hb3 : hi0 ≤ most) (hb4 : least - 1 ≤ hi0) (K : List Str) (hKn : K.Nodup) (hKs : ∀ s ∈ K, SL s) (hKl : K.length ≤ 8796093022208) (gm : Nat) (c0 : Int) : ∀ O : Ops, O = Ops.std → ∀ V : Ans, V = R → wpS O V 600 c34 [.int .i64 lo0, .int .i64 hi0, .mapr 308 gm] [(308, ⟨gm, .rw, .map, .int .i64 c0 :: K.map ent⟩)] (fun r _ => ∃ S b, r = .tup [setD S, .bool b] ∧ NumsR lo0 hi0 K S b) := by
  unfold least at hb1 hb4
  unfold most at hb2 hb3
  intro O hO V hV
  subst hV
  obtain ⟨es, hes⟩ : ∃ es, es = K.map ent := ⟨_, rfl⟩
  rw [← hes]
  have hleq : O .len es = K.length := by rw [o_len hO, hes]; simp
  have look : ∀ z : Str, ∃ r, lookD kS (mkS z) es = some r ∧ ((z ∈ K ∧ r = some (.bool true)) ∨ (z ∉ K ∧ r = none)) := fun z => by
    rw [hes, look_ent]
    by_cases h : z ∈ K
    · exact ⟨_, rfl, .inl ⟨h, by simp [h]⟩⟩
    · exact ⟨_, rfl, .inr ⟨h, by simp [h]⟩⟩
  have fmt : ∀ x : Int, FI x → ∃ z : Str, V.v 36 [.int .i64 x, .int .i64 10] (.str ⟨⟨z⟩⟩) ∧ z = itoa x := fun x hx => ⟨_, h36 x hx, rfl⟩
  conv => cbv
  intro g6
  conv => cbv
  refine join_of (fun d => ∃ x : Int, d = ⟨[(0, .int .i64 x), (1, .int .i64 hi0), (2, .mapr 308 gm), (6, .ptr 606 g6 0)], [(606, ⟨g6, .rw, .var, [.bool false, .bool false, .bool false, .sl 1 true [], .int .i64 0, .int .i64 0]⟩), (308, ⟨gm, .rw, .map, .int .i64 c0 :: es⟩)], false⟩ ∧ x = upS hi0 K lo0) (fun M upm => ?_) ?_
  · conv => cbv
    refine loop_of (fun n d => ∃ x : Int, d = ⟨[(0, .int .i64 x), (1, .int .i64 hi0), (2, .mapr 308 gm), (6, .ptr 606 g6 0)], [(606, ⟨g6, .rw, .var, [.bool false, .bool false, .bool false, .sl 1 true [], .int .i64 0, .int .i64 0]⟩), (308, ⟨gm, .rw, .map, .int .i64 c0 :: es⟩)], false⟩ ∧ n = (hi0 + 1 - x).toNat ∧ (x ≤ hi0 + 1 ∨ x = lo0) ∧ lo0 ≤ x ∧ upS hi0 K x = upS hi0 K lo0) ⟨_, _, ⟨_, rfl, rfl, .inr rfl, Int.le_refl _, rfl⟩, ⟨⟨rfl, rfl, rfl, rfl, trivial⟩, ⟨rfl, rfl, trivial⟩, rfl⟩⟩ ?_
    rintro J up n d ⟨x, rfl, rfl, hx1, hx2, hx3⟩
    conv => cbv
    rintro (_ | _) h1
    · replace h1 := f_leq hO h1
      conv => cbv
      exact ⟨_, upm _ ⟨x, rfl, by rw [← hx3, upS_stop (fun h => by omega)]⟩, ⟨⟨rfl, rfl, rfl, rfl, trivial⟩, ⟨rfl, rfl, trivial⟩, rfl⟩⟩
    · replace h1 := t_leq hO h1
      conv => cbv
      obtain ⟨z, hz, hzi⟩ := fmt x (by unfold FI; omega)
      refine ⟨_, hz, ?_⟩
      conv => cbv
      obtain ⟨q, hq, hcase⟩ := look z
      refine ⟨q, hq, ?_⟩
      rcases hcase with ⟨hm, rfl⟩ | ⟨hm, rfl⟩
      · conv => cbv
        refine ⟨_, _, up _ _ ⟨_, rfl, rfl, ?_, ?_, ?_⟩, ⟨⟨rfl, rfl, rfl, rfl, trivial⟩, ⟨rfl, rfl, trivial⟩, rfl⟩, ?_⟩
        all_goals rw [o_add64 hO (by omega) (by omega)]
        · omega
        · omega
        · rw [← hx3, ← upS_step ⟨h1, by rw [← hzi]; exact hm⟩]
        · omega
      · conv => cbv
        exact ⟨_, upm _ ⟨x, rfl, by rw [← hx3, upS_stop (fun h => hm (by rw [hzi]; exact h.2))]⟩, ⟨⟨rfl, rfl, rfl, rfl, trivial⟩, ⟨rfl, rfl, trivial⟩, rfl⟩⟩
  rintro d ⟨x, rfl, hx⟩
  have hxb := upS_ge (hi := hi0) (K := K) _ lo0 (Nat.le_refl _)
  rw [← hx] at hxb
  conv => cbv
  refine join_of (fun d => ∃ y : Int, d = ⟨[(0, .int .i64 x), (1, .int .i64 y), (2, .mapr 308 gm), (6, .ptr 606 g6 0)], [(606, ⟨g6, .rw, .var, [.bool false, .bool false, .bool false, .sl 1 true [], .int .i64 0, .int .i64 0]⟩), (308, ⟨gm, .rw, .map, .int .i64 c0 :: es⟩)], false⟩ ∧ y = dnS x K hi0) (fun M upm => ?_) ?_
  · conv => cbv
    refine loop_of (fun n d => ∃ y : Int, d = ⟨[(0, .int .i64 x), (1, .int .i64 y), (2, .mapr 308 gm), (6, .ptr 606 g6 0)], [(606, ⟨g6, .rw, .var, [.bool false, .bool false, .bool false, .sl 1 true [], .int .i64 0, .int .i64 0]⟩), (308, ⟨gm, .rw, .map, .int .i64 c0 :: es⟩)], false⟩ ∧ n = (y + 1 - x).toNat ∧ (x - 1 ≤ y ∨ y = hi0) ∧ y ≤ hi0 ∧ dnS x K y = dnS x K hi0) ⟨_, _, ⟨_, rfl, rfl, .inr rfl, Int.le_refl _, rfl⟩, ⟨⟨rfl, rfl, rfl, rfl, trivial⟩, ⟨rfl, rfl, trivial⟩, rfl⟩⟩ ?_
    rintro J up n d ⟨y, rfl, rfl, hx1, hx2, hx3⟩
    conv => cbv
    rintro (_ | _) h1
    · replace h1 := f_leq hO h1
      conv => cbv
      exact ⟨_, upm _ ⟨y, rfl, by rw [← hx3, dnS_stop (fun h => by omega)]⟩, ⟨⟨rfl, rfl, rfl, rfl, trivial⟩, ⟨rfl, rfl, trivial⟩, rfl⟩⟩
    · replace h1 := t_leq hO h1
      conv => cbv
      obtain ⟨z, hz, hzi⟩ := fmt y (by unfold FI; omega)
      refine ⟨_, hz, ?_⟩
      conv => cbv
      obtain ⟨q, hq, hcase⟩ := look z
      refine ⟨q, hq, ?_⟩
      rcases hcase with ⟨hm, rfl⟩ | ⟨hm, rfl⟩
      · conv => cbv
        refine ⟨_, _, up _ _ ⟨_, rfl, rfl, ?_, ?_, ?_⟩, ⟨⟨rfl, rfl, rfl, rfl, trivial⟩, ⟨rfl, rfl, trivial⟩, rfl⟩, ?_⟩
        all_goals rw [o_sub64 hO (by omega) (by omega)]
        · omega
        · omega
        · rw [← hx3, ← dnS_step ⟨h1, by rw [← hzi]; exact hm⟩]
        · omega
      · conv => cbv
        exact ⟨_, upm _ ⟨y, rfl, by rw [← hx3, dnS_stop (fun h => hm (by rw [hzi]; exact h.2))]⟩, ⟨⟨rfl, rfl, rfl, rfl, trivial⟩, ⟨rfl, rfl, trivial⟩, rfl⟩⟩
  rintro d ⟨y, rfl, hy⟩
  have hyb := dnS_le (lo := x) (K := K) _ hi0 (Nat.le_refl _)
  rw [← hy] at hyb
  conv => cbv
  refine join_of (fun d => ∃ (K2 : List Str) (es2 : List D), d = ⟨[(0, .int .i64 x), (1, .int .i64 y), (2, .mapr 308 gm), (6, .ptr 606 g6 0)], [(606, ⟨g6, .rw, .var, [.bool false, .bool false, .bool false, .sl 1 true [], .int .i64 0, .int .i64 0]⟩), (308, ⟨gm, .rw, .map, .int .i64 c0 :: es2⟩)], false⟩ ∧ es2 = K2.map ent ∧ K2.Nodup ∧ K2.length ≤ K.length ∧ ∀ z, z ∈ K2 ↔ z ∈ K ∧ inR x y z = true) (fun M upm => ?_) ?_
  · conv => cbv
    intro g37
    conv => cbv
    refine loop_of (fun n d => ∃ (K' S : List Str) (es' ks : List D), d = ⟨[(0, .int .i64 x), (1, .int .i64 y), (2, .mapr 308 gm), (6, .ptr 606 g6 0), (37, .ptr 637 g37 0)], [(606, ⟨g6, .rw, .var, [.bool false, .bool false, .bool false, .sl 1 true [], .int .i64 0, .int .i64 0]⟩), (308, ⟨gm, .rw, .map, .int .i64 c0 :: es'⟩), (637, ⟨g37, .rw, .iter, .mapr 308 gm :: .int .i64 c0 :: ks⟩)], false⟩ ∧ es' = K'.map ent ∧ ks = S.map mkS ∧ K'.Nodup ∧ (∀ z ∈ K', z ∈ K) ∧ K'.length ≤ K.length ∧ S.Nodup ∧ (∀ z ∈ S, z ∈ K) ∧ (∀ z ∈ K, z ∉ K' → inR x y z = false) ∧ (∀ z ∈ S, z ∈ K' → inR x y z = true) ∧ n = K.length - S.length) ⟨_, _, ⟨K, [], es, [], rfl, hes, rfl, hKn, fun _ h => h, Nat.le_refl _, List.nodup_nil, by simp, fun z h h' => absurd h h', by simp, rfl⟩, ⟨⟨rfl, rfl, rfl, rfl, rfl, trivial⟩, ⟨rfl, rfl, rfl, trivial⟩, rfl⟩⟩ ?_
    rintro J up n d ⟨K', S, es', ks, rfl, hes', hks, hK1, hK2, hK3, hS1, hS2, hK4, hS3, rfl⟩
    conv => cbv
    refine ⟨fun w hw => ?_, fun hall => ?_, fun k w hw hs => ?_⟩
    · rw [hes'] at hw
      obtain ⟨z, _, rfl⟩ := List.mem_map.1 hw
      exact ⟨mkS z, .bool true, decide (z ∈ S), rfl, by rw [hks]; exact seen_S z S⟩
    · conv => cbv
      refine ⟨_, upm _ ⟨K', es', rfl, hes', hK1, hK3, fun z => ⟨fun hz => ⟨hK2 z hz, ?_⟩, fun hz => ?_⟩⟩, ⟨⟨rfl, rfl, rfl, rfl, trivial⟩, ⟨rfl, rfl, trivial⟩, rfl⟩⟩
      · have h1 := hall (mkS z) (.bool true) (by rw [hes']; exact List.mem_map.2 ⟨z, hz, rfl⟩)
        rw [hks, seen_S] at h1
        exact hS3 z (by simpa using h1) hz
      · refine Classical.byContradiction fun hn => ?_
        have := hK4 z hz.1 hn
        rw [this] at hz
        simp at hz
    · have hw2 := hw
      rw [hes'] at hw2
      obtain ⟨z, hzK, he⟩ := List.mem_map.1 hw2
      simp only [ent, D.tup.injEq, List.cons.injEq, and_true] at he
      obtain ⟨rfl, rfl⟩ := he
      rw [hks, seen_S] at hs
      have hzS : z ∉ S := by simpa using hs
      obtain ⟨ks2, hks2'⟩ : ∃ ks2, ks2 = O .app ks [mkS z] := ⟨_, rfl⟩
      have hks2 : ks2 = (S ++ [z]).map mkS := by rw [hks2', o_app hO, hks]; simp
      have hS1' : (S ++ [z]).Nodup := by
        rw [List.nodup_append]
        refine ⟨hS1, by simp, fun a ha b hb => ?_⟩
        simp only [List.mem_singleton] at hb
        subst hb
        exact fun e => hzS (by rw [← e]; exact ha)
      have hS2' : ∀ w ∈ S ++ [z], w ∈ K := fun w hw => by
        rcases List.mem_append.1 hw with hw | hw
        · exact hS2 w hw
        · simp only [List.mem_singleton] at hw; subst hw; exact hK2 w hzK
      have hmeas : K.length - (S ++ [z]).length < K.length - S.length := by
        have := nodup_len hS1' hS2'
        simp at this ⊢
        omega
      obtain ⟨v, b, hvb⟩ := NumR.ex z
      have hv := h13 z (hKs z (hK2 z hzK)) v b hvb
      have hbad : (¬ ∃ n, numS z = some n ∧ x < n ∧ n < y) → inR x y z = false := fun h => by
        cases hi : inR x y z with
        | false => rfl
        | true => exact absurd (inR_iff.1 hi) h
      conv => cbv
      rw [← hks2']
      refine ⟨mkS z, .bool true, by rw [hks2]; simp, by rw [hes']; exact lookDyn_ent z K' hzK, ?_⟩
      conv => cbv
      refine ⟨_, hv, ?_⟩
      cases b with
      | false =>
        conv => cbv
        refine ⟨_, by rw [hes']; exact mdel_ent z K', ?_⟩
        obtain ⟨es3, hes3⟩ : ∃ es3, es3 = (K'.erase z).map ent := ⟨_, rfl⟩
        rw [← hes3]
        conv => cbv
        exact ⟨_, _, up _ _ ⟨K'.erase z, S ++ [z], es3, _, rfl, hes3, hks2, hK1.erase z, fun w hw => hK2 w (List.mem_of_mem_erase hw), Nat.le_trans List.length_erase_le hK3, hS1', hS2', fun w hw hn => (by
          by_cases e : w = z
          · subst e; exact hbad (fun ⟨n, hn, _⟩ => by have := (hvb.of hn).1; simp at this)
          · exact hK4 w hw fun h => hn ((List.mem_erase_of_ne e).2 h)), fun w hw hw2 => (by
          rcases List.mem_append.1 hw with hw | hw
          · exact hS3 w hw (List.mem_of_mem_erase hw2)
          · simp only [List.mem_singleton] at hw; subst hw; exact absurd hw2 (List.Nodup.not_mem_erase hK1)), rfl⟩, ⟨⟨rfl, rfl, rfl, rfl, rfl, trivial⟩, ⟨rfl, rfl, rfl, trivial⟩, rfl⟩, hmeas⟩
      | true =>
        have hnum : numS z = some v := by
          rcases hvb with ⟨_, h⟩ | ⟨h, _⟩
          · exact h
          · simp at h
        conv => cbv
        rintro (_ | _) h1
        · replace h1 := f_leq hO h1
          conv => cbv
          rintro (_ | _) h2
          · replace h2 := f_geq hO h2
            conv => cbv
            exact ⟨_, _, up _ _ ⟨K', S ++ [z], es', _, rfl, hes', hks2, hK1, hK2, hK3, hS1', hS2', hK4, fun w hw hw2 => (by
              rcases List.mem_append.1 hw with hw | hw
              · exact hS3 w hw hw2
              · simp only [List.mem_singleton] at hw; subst hw; exact inR_iff.2 ⟨v, hnum, h1, h2⟩), rfl⟩, ⟨⟨rfl, rfl, rfl, rfl, rfl, trivial⟩, ⟨rfl, rfl, rfl, trivial⟩, rfl⟩, hmeas⟩
          · replace h2 := t_geq hO h2
            conv => cbv
            refine ⟨_, by rw [hes']; exact mdel_ent z K', ?_⟩
            obtain ⟨es3, hes3⟩ : ∃ es3, es3 = (K'.erase z).map ent := ⟨_, rfl⟩
            rw [← hes3]
            conv => cbv
            exact ⟨_, _, up _ _ ⟨K'.erase z, S ++ [z], es3, _, rfl, hes3, hks2, hK1.erase z, fun w hw => hK2 w (List.mem_of_mem_erase hw), Nat.le_trans List.length_erase_le hK3, hS1', hS2', fun w hw hn => (by
              by_cases e : w = z
              · subst e; exact hbad (fun ⟨n, hn, h8, h9⟩ => by rw [hnum] at hn; simp only [Option.some.injEq] at hn; omega)
              · exact hK4 w hw fun h => hn ((List.mem_erase_of_ne e).2 h)), fun w hw hw2 => (by
              rcases List.mem_append.1 hw with hw | hw
              · exact hS3 w hw (List.mem_of_mem_erase hw2)
              · simp only [List.mem_singleton] at hw; subst hw; exact absurd hw2 (List.Nodup.not_mem_erase hK1)), rfl⟩, ⟨⟨rfl, rfl, rfl, rfl, rfl, trivial⟩, ⟨rfl, rfl, rfl, trivial⟩, rfl⟩, hmeas⟩
        · replace h1 := t_leq hO h1
          conv => cbv
          refine ⟨_, by rw [hes']; exact mdel_ent z K', ?_⟩
          obtain ⟨es3, hes3⟩ : ∃ es3, es3 = (K'.erase z).map ent := ⟨_, rfl⟩
          rw [← hes3]
          conv => cbv
          exact ⟨_, _, up _ _ ⟨K'.erase z, S ++ [z], es3, _, rfl, hes3, hks2, hK1.erase z, fun w hw => hK2 w (List.mem_of_mem_erase hw), Nat.le_trans List.length_erase_le hK3, hS1', hS2', fun w hw hn => (by
            by_cases e : w = z
            · subst e; exact hbad (fun ⟨n, hn, h8, h9⟩ => by rw [hnum] at hn; simp only [Option.some.injEq] at hn; omega)
            · exact hK4 w hw fun h => hn ((List.mem_erase_of_ne e).2 h)), fun w hw hw2 => (by
            rcases List.mem_append.1 hw with hw | hw
            · exact hS3 w hw (List.mem_of_mem_erase hw2)
            · simp only [List.mem_singleton] at hw; subst hw; exact absurd hw2 (List.Nodup.not_mem_erase hK1)), rfl⟩, ⟨⟨rfl, rfl, rfl, rfl, rfl, trivial⟩, ⟨rfl, rfl, rfl, trivial⟩, rfl⟩, hmeas⟩
  rintro d ⟨K2, es2, rfl, hes2, hnd, hlen2, hmem⟩
  obtain ⟨hv1, hv2, hv3⟩ := left_vals hnd hmem
  have hl2 : O .len es2 = K2.length := by rw [o_len hO, hes2]; simp
  have hc2 : CleanL es2 := cleanL_map clean_ent hes2
  have hans : numbersS lo0 hi0 K = numbersN x y K := by unfold numbersS; rw [← hx, ← hy]
  have hspan : O .iop .sub .i64 (O .iop .add .i64 (O .iop .sub .i64 y x) 1) (O .len es2) = y - x + 1 - K2.length := by
    have e1 : O .iop .sub .i64 y x = y - x := o_sub64 hO (by omega) (by omega)
    rw [e1, o_add64 hO (by omega) (by omega), hl2, o_sub64 hO (by omega) (by omega)]
  have look2 : ∀ z : Str, ∃ r, lookD kS (mkS z) es2 = some r ∧ ((z ∈ K2 ∧ r = some (.bool true)) ∨ (z ∉ K2 ∧ r = none)) := fun z => by
    rw [hes2, look_ent]
    by_cases h : z ∈ K2
    · exact ⟨_, rfl, .inl ⟨h, by simp [h]⟩⟩
    · exact ⟨_, rfl, .inr ⟨h, by simp [h]⟩⟩
  conv => cbv
  rintro (_ | _) h1
  · replace h1 := f_gtr hO h1
    rw [hspan] at h1
    conv => cbv
    intro g77
    conv => cbv
    refine loop_of (fun n d => ∃ (v : Int) (j : Nat) (ac : List D) (tk : Int), d = ⟨[(1, .int .i64 y), (2, .mapr 308 gm), (6, .ptr 606 g6 0), (11, .mapr 677 g77), (12, .int .i64 v)], [(606, ⟨g6, .rw, .var, [.bool false, .bool false, .bool false, .sl 1 true [], .int .i64 0, .int .i64 0]⟩), (308, ⟨gm, .rw, .map, .int .i64 c0 :: es2⟩), (677, ⟨g77, .rw, .map, .int .i64 tk :: ac⟩)], false⟩ ∧ v = x + j ∧ (j = 0 ∨ v ≤ y + 1) ∧ n = (y + 1 - v).toNat ∧ ac = (accN x K2 j).map ent) ⟨_, _, ⟨x, 0, _, _, rfl, by omega, .inl rfl, rfl, rfl⟩, ⟨⟨rfl, rfl, rfl, rfl, rfl, trivial⟩, ⟨rfl, rfl, rfl, trivial⟩, rfl⟩⟩ ?_
    rintro J up n d ⟨v, j, ac, tk, rfl, hv, hvj, rfl, hac⟩
    conv => cbv
    rintro (_ | _) h2
    · replace h2 := f_leq hO h2
      conv => cbv
      have hj : accN x K2 j = accN x K2 (y + 1 - x).toNat := by
        rcases hvj with h | h
        · subst h; rw [show (y + 1 - x).toNat = 0 by omega]
        · rw [show (y + 1 - x).toNat = j by omega]
      have hcac : CleanL ac := cleanL_map clean_ent hac
      have hal := accN_len x K2 j
      have hr := h32 (accN x K2 j) (accN_nodup _ _ _) (accN_SL fun i hi => ⟨by omega, by omega⟩) (by omega)
      rw [← hac] at hr
      obtain ⟨rs, hrs⟩ : ∃ rs, rs = (risingS (accN x K2 j)).map mkS := ⟨_, rfl⟩
      have hcr : CleanL rs := cleanL_map clean_S hrs
      rw [← hrs] at hr
      have hfin : risingS (accN x K2 j) = risingS (listN x y (valsN x y K)) := by
        rw [hj, ← listN_congr hv3]
        exact risingS_congr fun z => accN_mem
      refine ⟨hcac, _, hr, ?_⟩
      conv => cbv
      have hN : numbersN x y K = some ⟨false, false, false, risingS (accN x K2 j), 0, 0⟩ := by unfold numbersN; rw [if_pos (by rw [hv2]; omega), hfin]
      exact ⟨⟨false, false, false, risingS (accN x K2 j), 0, 0⟩, true, by rw [setD]; rw [hrs], .inl ⟨rfl, by rw [hans, hN]⟩⟩
    · replace h2 := t_leq hO h2
      conv => cbv
      obtain ⟨z, hz, hzi⟩ := fmt v (by unfold FI; omega)
      refine ⟨_, hz, ?_⟩
      conv => cbv
      obtain ⟨q, hq, hcase⟩ := look2 z
      have hadd : O .iop .add .i64 v 1 = v + 1 := o_add64 hO (by omega) (by omega)
      have hst := accN_step (lo := x) (K := K2) (j := j) (z := z) (by rw [hzi, hv])
      refine ⟨q, hq, ?_⟩
      rcases hcase with ⟨hm, rfl⟩ | ⟨hm, rfl⟩
      · conv => cbv
        rw [hadd]
        refine ⟨_, _, up _ _ ⟨v + 1, j + 1, ac, tk, rfl, by omega, .inr (by omega), rfl, ?_⟩, ⟨⟨rfl, rfl, rfl, rfl, rfl, trivial⟩, ⟨rfl, rfl, rfl, trivial⟩, rfl⟩, by omega⟩
        rw [hac, hst, if_pos hm]
      · conv => cbv
        obtain ⟨ac3, hac3⟩ : ∃ ac3, ac3 = (insS (accN x K2 j) z).map ent := ⟨_, rfl⟩
        refine ⟨ac3, by rw [hac, hac3]; exact mput_ent _ _, fun c => ?_⟩
        conv => cbv
        rw [hadd]
        refine ⟨_, _, up _ _ ⟨v + 1, j + 1, ac3, c, rfl, by omega, .inr (by omega), rfl, ?_⟩, ⟨⟨rfl, rfl, rfl, rfl, rfl, trivial⟩, ⟨rfl, rfl, rfl, trivial⟩, rfl⟩, by omega⟩
        rw [hac3, hst, if_neg hm]
  · replace h1 := t_gtr hO h1
    rw [hspan] at h1
    conv => cbv
    have hr := h32 K2 hnd (left_SL hmem) (by omega)
    rw [← hes2] at hr
    obtain ⟨rs, hrs⟩ : ∃ rs, rs = (risingS K2).map mkS := ⟨_, rfl⟩
    have hcr : CleanL rs := cleanL_map clean_S hrs
    rw [← hrs] at hr
    refine ⟨hc2, _, hr, ?_⟩
    conv => cbv
    rintro (_ | _) h2
    · replace h2 := f_leq hO h2
      rw [hl2] at h2
      conv => cbv
      have hN : numbersN x y K = none := by unfold numbersN; rw [if_neg (by rw [hv2]; omega), if_pos (by rw [hv2]; omega)]
      exact ⟨⟨false, true, true, valsN x y K, x, y⟩, false, by rw [setD]; rw [← hv1, hrs], .inr ⟨rfl, by rw [hans, hN]⟩⟩
    · replace h2 := t_leq hO h2
      rw [hl2] at h2
      conv => cbv
      have hN : numbersN x y K = some ⟨false, true, true, valsN x y K, x, y⟩ := by unfold numbersN; rw [if_neg (by rw [hv2]; omega), if_neg (by rw [hv2]; omega)]
      exact ⟨⟨false, true, true, valsN x y K, x, y⟩, true, by rw [setD]; rw [← hv1, hrs], .inl ⟨rfl, by rw [hans, hN]⟩⟩
end Go.Proofs.AM
namespace Go.Proofs.AM
open Go Go.Lib
theorem nameP_cons {c : UInt8} {r : Str} : NameP (c :: r) ↔ r.length ≤ 15 ∧ small c ∧ ∀ x ∈ r, okc x := by
  unfold NameP
  constructor
  · rintro ⟨h1, h2, h3⟩
    refine ⟨by simpa using h2, (h3 0 c rfl).2 rfl, fun x hx => ?_⟩
    obtain ⟨j, hj⟩ := List.getElem?_of_mem hx
    exact (h3 (j + 1) x (by simpa using hj)).1
  · rintro ⟨h1, h2, h3⟩
    refine ⟨by simp, by simpa using h1, fun i x hx => ?_⟩
    cases i with
    | zero => simp at hx; subst hx; exact ⟨.inl h2, fun _ => h2⟩
    | succ i => exact ⟨h3 x (List.mem_of_getElem? (by simpa using hx)), by simp⟩
theorem nameB_cons (c : UInt8) (r : Str) : nameB (c :: r) = (decide (r.length ≤ 15) && decide (small c) && r.all fun x => decide (okc x)) := by
  rw [Bool.eq_iff_iff]
  unfold nameB
  simp only [decide_eq_true_eq, Bool.and_eq_true, List.all_eq_true]
  rw [nameP_cons, and_assoc]
theorem itoa_d {n : Nat} (h : n < 10) : itoa (n : Int) = [UInt8.ofNat (48 + n)] := by
  rw [itoa_pos' (by omega), Int.natAbs_natCast, decDigits_small h]
theorem numS_d {n : Nat} (h : n < 10) : numS [UInt8.ofNat (48 + n)] = some (n : Int) := by
  rw [← itoa_d h]
  exact numS_itoa (by unfold least; omega) (by unfold most; omega)
theorem wrongE_ok {r : ReqV} (h1 : nameB r.key = true) (h2 : ¬ BadOp r) (h3 : r.l.length ≤ 8) (h4 : ∀ v ∈ r.l, valueB v = true) (h5 : r.l.Nodup) : wrongE r = 0 := by
  unfold wrongE
  rw [if_neg (by simp [h1]), if_neg h2, if_neg (by omega), if_neg (fun ⟨v, hv, e⟩ => by rw [h4 v hv] at e; simp at e), if_neg (by simpa using h5)]
theorem wrongE_op {r : ReqV} (h1 : nameB r.key = true) (h2 : BadOp r) : wrongE r = 30 := by
  unfold wrongE
  rw [if_neg (by simp [h1]), if_pos h2]
theorem numbersS_empty {lo hi : Int} : numbersS lo hi [] = if hi - lo + 1 ≤ 64 then some ⟨false, false, false, risingS (upTo lo (hi + 1 - lo).toNat), 0, 0⟩ else some ⟨false, true, true, [], lo, hi⟩ := by
  unfold numbersS
  rw [upS_stop (by simp), dnS_stop (by simp)]
  unfold numbersN
  have hv : valsN lo hi [] = [] := by simp [valsN, risingS]
  rw [hv]
  simp only [List.length_nil, Int.natCast_zero, Int.sub_zero]
  have hl : listN lo hi [] = upTo lo (hi + 1 - lo).toNat := by
    unfold listN
    rw [List.filter_eq_self.2 (by simp)]
  rw [hl]
  by_cases h : hi - lo + 1 ≤ 64
  · rw [if_pos (by omega), if_pos h]
  · rw [if_neg (by omega), if_neg (by omega), if_neg h]
theorem upTo_mem {lo : Int} {z : Str} : ∀ {n : Nat}, z ∈ upTo lo n ↔ ∃ i : Nat, i < n ∧ z = itoa (lo + i)
  | 0 => by simp [upTo]
  | n + 1 => by
    rw [upTo_get, List.mem_append, upTo_mem]
    constructor
    · rintro (⟨i, h, e⟩ | h)
      · exact ⟨i, by omega, e⟩
      · exact ⟨n, by omega, by simpa using h⟩
    · rintro ⟨i, h, e⟩
      by_cases hi : i < n
      · exact .inl ⟨i, hi, e⟩
      · have : i = n := by omega
        subst this
        exact .inr (by simpa using e)
theorem upTo_nodup (lo : Int) : ∀ n, (upTo lo n).Nodup
  | 0 => List.nodup_nil
  | n + 1 => by
    rw [upTo_get, List.nodup_append]
    refine ⟨upTo_nodup lo n, by simp, fun a ha b hb => ?_⟩
    simp only [List.mem_singleton] at hb
    obtain ⟨i, h, rfl⟩ := upTo_mem.1 ha
    subst hb
    intro e
    have := itoa_inj e
    omega
def zoneS : Str := [122, 111, 110, 101]
def genS : Str := [103, 101, 110]
def qZone : ReqV := ⟨zoneS, 1, [[98], [97]], 0⟩
def qAbove : ReqV := ⟨genS, 5, [], 3⟩
def qBelow : ReqV := ⟨genS, 6, [], 6⟩
def qNone : ReqV := ⟨zoneS, 1, [], 0⟩
def sAB : SetV := ⟨false, false, false, [[97], [98]], 0, 0⟩
def sAbove : SetV := ⟨false, true, true, [], 4, 2147483648⟩
def sBelow : SetV := ⟨false, true, true, [], -2147483648, 5⟩
def s45 : SetV := ⟨false, false, false, [[52], [53]], 0, 0⟩
theorem name_zone : nameB zoneS = true := by unfold zoneS; rw [nameB_cons]; decide
theorem name_gen : nameB genS = true := by unfold genS; rw [nameB_cons]; decide
theorem value_name {s : Str} (h : nameB s = true) : valueB s = true := by rw [valueB_or, h]; rfl
theorem wrong_zone : wrongE qZone = 0 := wrongE_ok name_zone (by decide) (by decide) (fun v hv => by
  simp only [qZone, List.mem_cons, List.not_mem_nil, or_false] at hv
  rcases hv with rfl | rfl <;> exact value_name (by rw [nameB_cons]; decide)) (by decide)
theorem wrong_above : wrongE qAbove = 0 := wrongE_ok name_gen (by decide) (by decide) (fun v hv => by simp [qAbove] at hv) (by decide)
theorem wrong_below : wrongE qBelow = 0 := wrongE_ok name_gen (by decide) (by decide) (fun v hv => by simp [qBelow] at hv) (by decide)
theorem wrong_none : wrongE qNone = 30 := wrongE_op name_zone (by decide)
theorem set_zone : ofSet qZone = sAB := by
  unfold ofSet
  rw [if_pos wrong_zone]
  unfold ofS
  rw [if_pos (by decide)]
  have : risingS qZone.l = [[97], [98]] := by decide
  rw [this]
  rfl
theorem set_above : ofSet qAbove = sAbove := by
  unfold ofSet
  rw [if_pos wrong_above]
  unfold ofS
  rw [if_neg (by decide), if_neg (by decide), if_neg (by decide), if_neg (by decide), if_pos (by decide), numbersS_empty, if_neg (by decide)]
  rfl
theorem set_below : ofSet qBelow = sBelow := by
  unfold ofSet
  rw [if_pos wrong_below]
  unfold ofS
  rw [if_neg (by decide), if_neg (by decide), if_neg (by decide), if_neg (by decide), if_neg (by decide), numbersS_empty, if_neg (by decide)]
  rfl
theorem set_none : ofSet qNone = zeroS := by
  unfold ofSet
  rw [if_neg (by rw [wrong_none]; decide)]
theorem ord_nil : OrdP [] := by unfold OrdP AdjP; simp
theorem check_above : CheckP sAbove := ⟨ord_nil, fun _ => rfl, fun h => by simp [sAbove] at h, fun _ => ⟨by decide, by decide, by decide, by decide, by simp [sAbove]⟩⟩
theorem check_below : CheckP sBelow := ⟨ord_nil, fun _ => rfl, fun h => by simp [sBelow] at h, fun _ => ⟨by decide, by decide, by decide, by decide, by simp [sBelow]⟩⟩
theorem upTo45 : risingS (upTo 4 2) = [[52], [53]] := by
  have h1 : itoa 4 = [52] := itoa_d (n := 4) (by decide)
  have h2 : itoa (4 + 1) = [53] := itoa_d (n := 5) (by decide)
  simp only [upTo, h1, h2]
  decide
theorem meet_live : meetS sAbove sBelow = (s45, 0) := by
  unfold meetS
  rw [if_neg (by rw [checkE_0 check_above]; simp), if_neg (by rw [checkE_0 check_below]; simp)]
  have : meetN sAbove sBelow = some s45 := by
    unfold meetN
    rw [if_neg (by decide), if_neg (by decide), if_neg (by decide), if_neg (by decide), if_neg (by decide)]
    have : risingS (sAbove.l ++ sBelow.l) = [] := rfl
    rw [this, numbersS_empty, if_pos (by decide)]
    have : (min sAbove.hi sBelow.hi + 1 - max sAbove.lo sBelow.lo).toNat = 2 := by decide
    rw [this]
    have : max sAbove.lo sBelow.lo = 4 := by decide
    rw [this, upTo45]
    rfl
  rw [this]
  rfl
theorem num_4 : numS [52] = some 4 := numS_d (n := 4) (by decide)
theorem has_4 : hasB sAbove [52] = true := by
  unfold hasB
  rw [checkE_0 check_above, valueB_or, num_4]
  unfold hasRaw
  rw [rangeB_some num_4]
  simp [sAbove]
theorem num_04 : numS [48, 52] = none := by
  cases h : numS [48, 52] with
  | none => rfl
  | some n =>
    obtain ⟨h1, _, _⟩ := numS_iff.1 h
    have h2 : valS [48, 52] = n := by rw [h1, valS_itoa]
    have h3 : valS [48, 52] = 4 := by decide
    have h4 : n = ((4 : Nat) : Int) := by omega
    rw [h4, itoa_d (by decide)] at h1
    exact absurd h1 (by decide)
theorem has_04 : hasB sAbove [48, 52] = false := by
  unfold hasB
  rw [valueB_or, num_04, nameB_cons]
  have : decide (small 48) = false := by decide
  rw [this]
  simp
theorem value_x1 : valueB [120, 45, 49] = true := value_name (by rw [nameB_cons]; decide)
theorem name_5 : nameB [53] = false := by rw [nameB_cons]; decide
theorem fl_small {l : List Str} (h1 : l.length ≤ 8) (h2 : ∀ s ∈ l, s.length ≤ 16) : FL l := ⟨by omega, fun s hs => by have := h2 s hs; unfold SL; omega⟩
theorem fr_zone : FR qZone := ⟨by unfold SL; decide, fl_small (by decide) (by decide), ⟨by decide, by decide⟩, ⟨by decide, by decide⟩⟩
theorem fr_above : FR qAbove := ⟨by unfold SL; decide, fl_small (by decide) (by decide), ⟨by decide, by decide⟩, ⟨by decide, by decide⟩⟩
theorem fr_below : FR qBelow := ⟨by unfold SL; decide, fl_small (by decide) (by decide), ⟨by decide, by decide⟩, ⟨by decide, by decide⟩⟩
theorem fr_none : FR qNone := ⟨by unfold SL; decide, fl_small (by decide) (by decide), ⟨by decide, by decide⟩, ⟨by decide, by decide⟩⟩
theorem fs_above : FS sAbove := ⟨fl_small (by decide) (by decide), ⟨by decide, by decide⟩, ⟨by decide, by decide⟩⟩
theorem fs_below : FS sBelow := ⟨fl_small (by decide) (by decide), ⟨by decide, by decide⟩, ⟨by decide, by decide⟩⟩
theorem fs_AB : FS sAB := ⟨fl_small (by decide) (by decide), ⟨by decide, by decide⟩, ⟨by decide, by decide⟩⟩
theorem fs_45 : FS s45 := ⟨fl_small (by decide) (by decide), ⟨by decide, by decide⟩, ⟨by decide, by decide⟩⟩
end Go.Proofs.AM
namespace Go.Proofs.AM
open Go Go.Lib Cd
structure C3 (R : Ans) : Prop where
  name18 : ∀ s, SL s → R.v 18 [mkS s] (.bool (nameB s))
  value19 : ∀ s, SL s → R.v 19 [mkS s] (.bool (valueB s))
  number13 : ∀ s, SL s → ∀ v b, NumR s v b → R.v 13 [mkS s] (.tup [.int .i64 v, .bool b])
  name16 : ∀ s, SL s → R.v 16 [mkS s] (.bool (nameB s))
  value17 : ∀ s, SL s → R.v 17 [mkS s] (.bool (valueB s))
  number15 : ∀ s, SL s → ∀ v b, NumR s v b → R.v 15 [mkS s] (.tup [.int .i64 v, .bool b])
  check22 : ∀ s, FS s → R.v 22 [setD s] (.int .i64 (checkE s))
  check23 : ∀ s, FS s → R.v 23 [setD s] (.int .i64 (checkE s))
  of12 : ∀ q, FR q → R.v 12 [reqD q] (.tup [setD (ofSet q), .int .i64 (wrongE q)])
  of20 : ∀ q, FR q → R.v 20 [reqD q] (.tup [setD (ofSet q), .int .i64 (wrongE q)])
  meet24 : ∀ a b, FS a → FS b → R.v 24 [setD a, setD b] (.tup [setD (meetS a b).1, .int .i64 (meetS a b).2])
  meet25 : ∀ a b, FS a → FS b → R.v 25 [setD a, setD b] (.tup [setD (meetS a b).1, .int .i64 (meetS a b).2])
  has26 : ∀ s x, FS s → SL x → R.v 26 [setD s, mkS x] (.bool (hasB s x))
  has28 : ∀ s x, FS s → SL x → R.v 28 [setD s, mkS x] (.bool (hasB s x))
  empty27 : ∀ s, FS s → R.v 27 [setD s] (.bool (emptyB s))
  empty29 : ∀ s, FS s → R.v 29 [setD s] (.bool (emptyB s))
  same30 : ∀ a b, FS a → FS b → R.v 30 [setD a, setD b] (.bool (decide (a = b)))
  same21 : ∀ a b, FS a → FS b → R.v 21 [setD a, setD b] (.bool (decide (a = b)))
  live14 : R.v 14 [] (.bool true)
theorem no_bb {b : Bool} (h : false = (b == b)) : False := by simp at h
theorem setD_eq (s : SetV) : ∃ xs, xs = s.l.map mkS ∧ CleanL xs ∧ setD s = .agg [.bool s.m, .bool s.n, .bool s.u, .sl 1 false xs, .int .i64 s.lo, .int .i64 s.hi] := ⟨_, rfl, cleanL_map clean_S rfl, rfl⟩
set_option maxRecDepth 100000 in
set_option maxHeartbeats 4000000 in
theorem texts4_ok (R : Ans) (h : C3 R) (s : Str) (hs : SL s) : AnsF R c4 [mkS s] (.bool true) := by
  obtain ⟨v, b, hv⟩ := NumR.ex s
  have k1 := h.number13 s hs v b hv
  have k2 := h.number15 s hs v b hv
  have k3 := h.name16 s hs
  have k4 := h.value17 s hs
  have k5 := h.name18 s hs
  have k6 := h.value19 s hs
  have k7 := h.live14
  obtain ⟨nb, hnb⟩ : ∃ x, x = nameB s := ⟨_, rfl⟩
  obtain ⟨vb, hvb⟩ : ∃ x, x = valueB s := ⟨_, rfl⟩
  rw [← hnb] at k3 k5
  rw [← hvb] at k4 k6
  clear h hv hnb hvb
  refine wpF_sound ⟨rfl, by decide⟩ fun O hO V hV => ?_
  subst hV
  conv => cbv
  refine ⟨_, k1, ?_⟩
  conv => cbv
  refine ⟨_, k2, ?_⟩
  conv => cbv
  refine ⟨_, k3, ?_⟩
  conv => cbv
  refine ⟨_, k4, ?_⟩
  conv => cbv
  refine ⟨_, k7, ?_⟩
  conv => cbv
  rintro (_ | _) h1
  · conv => cbv
    exfalso; exact f_eql hO h1 rfl
  conv => cbv
  rintro (_ | _) h2
  · conv => cbv
    exfalso; exact no_bb (b_eq hO h2)
  conv => cbv
  refine ⟨_, k5, ?_⟩
  conv => cbv
  rintro (_ | _) h3
  · conv => cbv
    exfalso; exact no_bb (b_eq hO h3)
  conv => cbv
  refine ⟨_, k6, ?_⟩
  conv => cbv
  rintro (_ | _) h4
  · conv => cbv
    exfalso; exact no_bb (b_eq hO h4)
  conv => cbv
  trivial
set_option maxRecDepth 100000 in
set_option maxHeartbeats 4000000 in
theorem checks6_ok (R : Ans) (h : C3 R) (s : SetV) (hs : FS s) : AnsF R c6 [setD s] (.bool true) := by
  have k1 := h.check22 s hs
  have k2 := h.check23 s hs
  have k7 := h.live14
  obtain ⟨e, he⟩ : ∃ x, x = checkE s := ⟨_, rfl⟩
  rw [← he] at k1 k2
  obtain ⟨xs, _, hcx, hsd⟩ := setD_eq s
  rw [hsd] at k1 k2 ⊢
  clear h he hsd
  refine wpF_sound ⟨rfl, by decide⟩ fun O hO V hV => ?_
  subst hV
  conv => cbv
  refine ⟨hcx, _, k1, ?_⟩
  conv => cbv
  refine ⟨_, k7, ?_⟩
  conv => cbv
  refine ⟨hcx, _, k2, ?_⟩
  conv => cbv
  rintro (_ | _) h1
  · conv => cbv
    exfalso; exact f_eql hO h1 rfl
  conv => cbv
  trivial
set_option maxRecDepth 100000 in
set_option maxHeartbeats 4000000 in
theorem asks11_ok (R : Ans) (h : C3 R) (a b : SetV) (v : Str) (ha : FS a) (hb : FS b) (hv : SL v) : AnsF R c11 [setD a, setD b, mkS v] (.bool true) := by
  have k1 := h.has28 a v ha hv
  have k2 := h.empty29 a ha
  have k3 := h.same21 a b ha hb
  have k4 := h.live14
  have k5 := h.has26 a v ha hv
  have k6 := h.empty27 a ha
  have k7 := h.same30 a b ha hb
  have k8 := h.same30 a a ha ha
  rw [decide_eq_true rfl] at k8
  obtain ⟨q, hq⟩ : ∃ x, x = hasB a v := ⟨_, rfl⟩
  obtain ⟨e, he⟩ : ∃ x, x = emptyB a := ⟨_, rfl⟩
  obtain ⟨t, ht⟩ : ∃ x, x = decide (a = b) := ⟨_, rfl⟩
  rw [← hq] at k1 k5
  rw [← he] at k2 k6
  rw [← ht] at k3 k7
  obtain ⟨xs, _, hcx, hsd⟩ := setD_eq a
  obtain ⟨ys, _, hcy, hsd'⟩ := setD_eq b
  rw [hsd] at k1 k2 k3 k5 k6 k7 k8 ⊢
  rw [hsd'] at k3 k7 ⊢
  clear h hq he ht hsd hsd'
  refine wpF_sound ⟨rfl, by decide⟩ fun O hO V hV => ?_
  subst hV
  conv => cbv
  refine ⟨hcx, _, k1, ?_⟩
  conv => cbv
  refine ⟨hcx, _, k2, ?_⟩
  conv => cbv
  refine ⟨hcx, hcy, _, k3, ?_⟩
  conv => cbv
  refine ⟨_, k4, ?_⟩
  conv => cbv
  refine ⟨hcx, _, k5, ?_⟩
  conv => cbv
  rintro (_ | _) h1
  · conv => cbv
    exfalso; exact no_bb (b_eq hO h1)
  conv => cbv
  refine ⟨hcx, _, k6, ?_⟩
  conv => cbv
  rintro (_ | _) h2
  · conv => cbv
    exfalso; exact no_bb (b_eq hO h2)
  conv => cbv
  refine ⟨hcx, hcy, _, k7, ?_⟩
  conv => cbv
  rintro (_ | _) h3
  · conv => cbv
    exfalso; exact no_bb (b_eq hO h3)
  conv => cbv
  refine ⟨hcx, hcx, _, k8, ?_⟩
  conv => cbv
  trivial
end Go.Proofs.AM
