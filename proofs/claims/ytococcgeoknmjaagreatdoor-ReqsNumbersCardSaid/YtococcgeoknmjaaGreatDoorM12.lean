/- Part 12 of the lemmas: ZPWb, ZPXa, ZPXb, ZPXc, ZPXd. -/
import Derived.Test.YtococcgeoknmjaaGreatDoorM07
import Derived.Test.YtococcgeoknmjaaGreatDoorM11
namespace Go.Proofs.AM
open Go Cd
def c84 : Func :=
⟨2, 35, [.tmp 4, .tmp 5],
 (.seq (.ops [o 4 (.mov (c (.sl 6 true []))), o 5 (.mov (c (.int .i64 0)))])
 (.seq (.seq (.ops [o 11 (.mov (t 0)), o 12 (.lenSl (t 11)), o 13 (.mov (t 1)), o 14 (.bin .gtr (t 12) (t 13))])
 (.cond (t 14) (.seq (.ops [o 4 (.mov (c (.sl 6 true []))), o 5 (.mov (c (.int .i64 3)))])
 .ret) .skip))
 (.seq (.ops [o 6 (.mov (c (.sl 6 true [])))])
 (.gh (.tmp 6 99 6 89) (.seq (.seq (.ops [o 15 (.mov (t 0)), o 16 (.lenSl (t 15)), o 17 (.mov (c (.int .i64 0)))])
 (.block 0 (.loop (.seq (.ops [o 18 (.bin .lss (t 17) (t 16))])
 (.seq (.cond (t 18) .skip (.exit 0))
 (.seq (.block 1 (.seq (.ops [o 19 (.iAddrS 4 (t 15) (t 17)), o 20 (.load 4 true (t 19)), o 8 (.alloc [(.str ⟨#[]⟩), (.int .i64 0), (.sl 1 true []), (.int .i64 0)]), w (.store 4 (t 8) (t 20))])
 (.seq (.ops [o 22 (.load 4 true (t 8)), o 23 (.call false (c (.fn 180 [] [])) [(t 22)]), o 21 (.mov (t 23)), o 24 (.ext 0 (t 21)), o 25 (.ext 1 (t 21)), o 9 (.alloc [(.bool false), (.bool false), (.bool false), (.sl 1 true []), (.int .i64 0), (.int .i64 0)]), w (.store 6 (t 9) (t 24)), o 10 (.mov (t 25))])
 (.seq (.seq (.ops [o 26 (.mov (t 10)), o 27 (.bin .neq (t 26) (c (.int .i64 0)))])
 (.cond (t 27) (.seq (.ops [o 28 (.mov (t 10)), o 4 (.mov (c (.sl 6 true []))), o 5 (.mov (t 28))])
 .ret) .skip))
 (.ops [o 29 (.mov (t 6)), o 30 (.load 6 true (t 9)), o 31 (.mkSl false 6 89 (.agg [(.bool false), (.bool false), (.bool false), (.sl 1 true []), (.int .i64 0), (.int .i64 0)]) 1 [(0, (t 30))]), o 32 (.app 6 89 48 (t 29) (t 31)), o 6 (.mov (t 32))])))))
 (.ops [o 33 (.bin .add (t 17) (c (.int .i64 1))), o 17 (.mov (t 33))])))))))
 (.seq (.ops [o 34 (.mov (t 6)), o 4 (.mov (t 34)), o 5 (.mov (c (.int .i64 0)))])
 .ret))))))⟩
def c36 : Func :=
⟨1, 11, [.tmp 2],
 (.seq (.ops [o 2 (.mov (c (.int .i64 0)))])
 (.seq (.ops [o 6 (.mov (t 0)), o 7 (.call false (c (.fn 84 [] [])) [(t 6), (c (.int .i64 8))]), o 5 (.mov (t 7)), o 8 (.ext 0 (t 5)), o 9 (.ext 1 (t 5)), o 3 (.mov (t 8)), o 4 (.mov (t 9))])
 (.seq (.ops [o 10 (.mov (t 4)), o 2 (.mov (t 10))])
 .ret)))⟩
def c91 : Func :=
⟨1, 23, [.tmp 2],
 (.seq (.ops [o 2 (.mov (c (.int .i64 0)))])
 (.seq (.seq (.ops [o 3 (.mov (c (.int .i64 0)))])
 (.block 0 (.loop (.seq (.seq (.ops [o 6 (.mov (t 3)), o 7 (.mov (t 0)), o 8 (.lenSl (t 7)), o 9 (.bin .lss (t 6) (t 8))])
 (.cond (t 9) .skip (.exit 0)))
 (.seq (.block 1 (.seq (.ops [o 13 (.mov (t 0)), o 14 (.mov (t 3)), o 15 (.iAddrS 4 (t 13) (t 14)), o 16 (.load 4 true (t 15)), o 17 (.call false (c (.fn 93 [] [])) [(t 16)]), o 12 (.mov (t 17)), o 18 (.ext 0 (t 12)), o 19 (.ext 1 (t 12)), o 4 (.alloc [(.bool false), (.bool false), (.bool false), (.sl 1 true []), (.int .i64 0), (.int .i64 0)]), w (.store 6 (t 4) (t 18)), o 5 (.mov (t 19))])
 (.seq (.ops [o 20 (.mov (t 5)), o 21 (.bin .neq (t 20) (c (.int .i64 0)))])
 (.cond (t 21) (.seq (.ops [o 22 (.mov (t 5)), o 2 (.mov (t 22))])
 .ret) .skip))))
 (.ops [o 10 (.mov (t 3)), o 11 (.bin .add (t 10) (c (.int .i64 1))), o 3 (.mov (t 11))]))))))
 (.seq (.ops [o 2 (.mov (c (.int .i64 0)))])
 .ret)))⟩
def c37 : Func :=
⟨1, 8, [.tmp 2],
 (.seq (.ops [o 2 (.mov (c (.int .i64 0)))])
 (.seq (.seq (.ops [o 3 (.mov (t 0)), o 4 (.lenSl (t 3)), o 5 (.bin .gtr (t 4) (c (.int .i64 8)))])
 (.cond (t 5) (.seq (.ops [o 2 (.mov (c (.int .i64 3)))])
 .ret) .skip))
 (.seq (.ops [o 6 (.mov (t 0)), o 7 (.call false (c (.fn 91 [] [])) [(t 6)]), o 2 (.mov (t 7))])
 .ret)))⟩
end Go.Proofs.AM
namespace Go.Proofs.AM
open Go Cd
def c34 : Func :=
⟨2, 90, [.tmp 4, .tmp 5],
 (.seq (.ops [o 4 (.mov (c (.bool false))), o 5 (.mov (c (.int .i64 0)))])
 (.seq (.ops [o 18 (.mov (t 0)), o 19 (.call false (c (.fn 84 [] [])) [(t 18), (c (.int .i64 16))]), o 17 (.mov (t 19)), o 20 (.ext 0 (t 17)), o 21 (.ext 1 (t 17)), o 6 (.mov (t 20)), o 7 (.mov (t 21))])
 (.seq (.seq (.ops [o 22 (.mov (t 7)), o 23 (.bin .neq (t 22) (c (.int .i64 0)))])
 (.cond (t 23) (.seq (.ops [o 24 (.mov (t 7)), o 4 (.mov (c (.bool false))), o 5 (.mov (t 24))])
 .ret) .skip))
 (.seq (.ops [o 25 (.mkMap), o 8 (.mov (t 25))])
 (.seq (.seq (.ops [o 26 (.mov (t 1)), o 27 (.lenSl (t 26)), o 28 (.mov (c (.int .i64 0)))])
 (.block 0 (.loop (.seq (.ops [o 29 (.bin .lss (t 28) (t 27))])
 (.seq (.cond (t 29) .skip (.exit 0))
 (.seq (.block 1 (.seq (.ops [o 30 (.iAddrS 2 (t 26) (t 28)), o 31 (.load 2 true (t 30)), o 10 (.alloc [(.str ⟨#[]⟩), (.str ⟨#[]⟩)]), w (.store 2 (t 10) (t 31))])
 (.seq (.seq (.ops [o 32 (.fAddr 0 (t 10)), o 33 (.load 1 false (t 32)), o 34 (.call false (c (.fn 89 [] [])) [(t 33)]), o 35 (.un .not (t 34)), o 36 (.mov (t 35)), ⟨some 37, .fAddr 1 (t 10), some (36, false)⟩, ⟨some 38, .load 1 false (t 37), some (36, false)⟩, ⟨some 39, .call false (c (.fn 90 [] [])) [(t 38)], some (36, false)⟩, ⟨some 40, .un .not (t 39), some (36, false)⟩, o 41 (.pick (t 36) (c (.bool true)) (t 40))])
 (.cond (t 41) (.seq (.ops [o 4 (.mov (c (.bool false))), o 5 (.mov (c (.int .i64 20)))])
 .ret) .skip))
 (.seq (.seq (.ops [o 43 (.mov (t 8)), o 44 (.fAddr 0 (t 10)), o 45 (.load 1 false (t 44)), o 46 (.look (false, [(0, .str)]) (.str ⟨#[]⟩) true (t 43) (t 45)), o 42 (.mov (t 46)), o 47 (.ext 0 (t 42)), o 48 (.ext 1 (t 42)), o 11 (.mov (t 47)), o 12 (.mov (t 48))])
 (.seq (.ops [o 49 (.mov (t 12))])
 (.cond (t 49) (.seq (.ops [o 4 (.mov (c (.bool false))), o 5 (.mov (c (.int .i64 6)))])
 .ret) .skip)))
 (.ops [o 50 (.mov (t 8)), o 51 (.fAddr 0 (t 10)), o 52 (.load 1 false (t 51)), o 53 (.fAddr 1 (t 10)), o 54 (.load 1 false (t 53)), w (.mput (false, [(0, .str)]) (t 50) (t 52) (t 54))])))))
 (.ops [o 55 (.bin .add (t 28) (c (.int .i64 1))), o 28 (.mov (t 55))])))))))
 (.seq (.seq (.ops [o 56 (.mov (t 6)), o 57 (.lenSl (t 56)), o 58 (.mov (c (.int .i64 0)))])
 (.block 2 (.loop (.seq (.ops [o 59 (.bin .lss (t 58) (t 57))])
 (.seq (.cond (t 59) .skip (.exit 2))
 (.seq (.block 3 (.seq (.ops [o 60 (.mov (t 58)), o 61 (.iAddrS 6 (t 56) (t 58)), o 62 (.load 6 true (t 61)), o 14 (.alloc [(.bool false), (.bool false), (.bool false), (.sl 1 true []), (.int .i64 0), (.int .i64 0)]), o 13 (.mov (t 60)), w (.store 6 (t 14) (t 62))])
 (.seq (.ops [o 64 (.mov (t 8)), o 65 (.mov (t 0)), o 66 (.mov (t 13)), o 67 (.iAddrS 4 (t 65) (t 66)), o 68 (.fAddr 0 (t 67)), o 69 (.load 1 false (t 68)), o 70 (.look (false, [(0, .str)]) (.str ⟨#[]⟩) true (t 64) (t 69)), o 63 (.mov (t 70)), o 71 (.ext 0 (t 63)), o 72 (.ext 1 (t 63)), o 15 (.mov (t 71)), o 16 (.mov (t 72))])
 (.seq (.ops [o 73 (.mov (t 16)), o 74 (.mov (t 73)), ⟨some 75, .load 6 true (t 14), some (74, true)⟩, ⟨some 76, .mov (t 15), some (74, true)⟩, ⟨some 77, .call false (c (.fn 45 [] [])) [(t 75), (t 76)], some (74, true)⟩, ⟨some 78, .un .not (t 77), some (74, true)⟩, o 79 (.pick (t 74) (t 78) (c (.bool false))), o 80 (.mov (t 79)), ⟨some 81, .mov (t 16), some (80, false)⟩, ⟨some 82, .un .not (t 81), some (80, false)⟩, ⟨some 83, .mov (t 82), some (80, false)⟩, ⟨some 84, .fAddr 0 (t 14), some (83, true)⟩, ⟨some 85, .load 1 false (t 84), some (83, true)⟩, ⟨some 86, .un .not (t 85), some (83, true)⟩, ⟨some 87, .pick (t 83) (t 86) (c (.bool false)), some (80, false)⟩, o 88 (.pick (t 80) (c (.bool true)) (t 87))])
 (.cond (t 88) (.seq (.ops [o 4 (.mov (c (.bool false))), o 5 (.mov (c (.int .i64 0)))])
 .ret) .skip)))))
 (.ops [o 89 (.bin .add (t 58) (c (.int .i64 1))), o 58 (.mov (t 89))])))))))
 (.seq (.ops [o 4 (.mov (c (.bool true))), o 5 (.mov (c (.int .i64 0)))])
 .ret)))))))⟩
def c92 : Func :=
⟨1, 8, [.tmp 2],
 (.seq (.ops [o 2 (.mov (c (.int .i64 0)))])
 (.seq (.seq (.ops [o 3 (.mov (t 0)), o 4 (.lenSl (t 3)), o 5 (.bin .gtr (t 4) (c (.int .i64 16)))])
 (.cond (t 5) (.seq (.ops [o 2 (.mov (c (.int .i64 3)))])
 .ret) .skip))
 (.seq (.ops [o 6 (.mov (t 0)), o 7 (.call false (c (.fn 91 [] [])) [(t 6)]), o 2 (.mov (t 7))])
 .ret)))⟩
def c94 : Func :=
⟨2, 20, [.tmp 4],
 (.seq (.ops [o 4 (.mov (c (.int .i64 0)))])
 (.seq (.seq (.ops [o 5 (.mov (c (.int .i64 0)))])
 (.block 0 (.loop (.seq (.seq (.ops [o 6 (.mov (t 5)), o 7 (.mov (t 0)), o 8 (.lenSl (t 7)), o 9 (.bin .lss (t 6) (t 8))])
 (.cond (t 9) .skip (.exit 0)))
 (.seq (.block 1 (.seq (.ops [o 12 (.mov (t 0)), o 13 (.mov (t 5)), o 14 (.iAddrS 7 (t 12) (t 13)), o 15 (.fAddr 0 (t 14)), o 16 (.load 1 false (t 15)), o 17 (.mov (t 1)), o 18 (.bin .eql (t 16) (t 17))])
 (.cond (t 18) (.seq (.ops [o 19 (.mov (t 5)), o 4 (.mov (t 19))])
 .ret) .skip)))
 (.ops [o 10 (.mov (t 5)), o 11 (.bin .add (t 10) (c (.int .i64 1))), o 5 (.mov (t 11))]))))))
 (.seq (.ops [o 4 (.mov (c (.int .i64 (-1))))])
 .ret)))⟩
def c96 : Func :=
⟨1, 47, [.tmp 2],
 (.seq (.ops [o 2 (.mov (c (.int .i64 0)))])
 (.seq (.seq (.ops [o 3 (.mov (c (.int .i64 0)))])
 (.block 0 (.loop (.seq (.seq (.ops [o 7 (.mov (t 3)), o 8 (.mov (t 0)), o 9 (.lenSl (t 8)), o 10 (.bin .lss (t 7) (t 9))])
 (.cond (t 10) .skip (.exit 0)))
 (.seq (.block 1 (.seq (.ops [o 13 (.mov (t 0)), o 14 (.mov (t 3)), o 15 (.iAddrS 2 (t 13) (t 14)), o 16 (.fAddr 0 (t 15)), o 17 (.load 1 false (t 16)), o 18 (.call false (c (.fn 110 [] [])) [(t 17)]), o 4 (.mov (t 18))])
 (.seq (.ops [o 19 (.mov (t 0)), o 20 (.mov (t 3)), o 21 (.iAddrS 2 (t 19) (t 20)), o 22 (.fAddr 1 (t 21)), o 23 (.load 1 false (t 22)), o 24 (.call false (c (.fn 193 [] [])) [(t 23)]), o 5 (.mov (t 24))])
 (.seq (.seq (.ops [o 25 (.mov (t 4)), o 26 (.un .not (t 25)), o 27 (.mov (t 26)), ⟨some 28, .mov (t 5), some (27, false)⟩, ⟨some 29, .un .not (t 28), some (27, false)⟩, o 30 (.pick (t 27) (c (.bool true)) (t 29))])
 (.cond (t 30) (.seq (.ops [o 2 (.mov (c (.int .i64 20)))])
 .ret) .skip))
 (.seq (.ops [o 6 (.mov (c (.int .i64 0)))])
 (.block 2 (.loop (.seq (.seq (.ops [o 31 (.mov (t 6)), o 32 (.mov (t 3)), o 33 (.bin .lss (t 31) (t 32))])
 (.cond (t 33) .skip (.exit 2)))
 (.seq (.block 3 (.seq (.ops [o 36 (.mov (t 0)), o 37 (.mov (t 6)), o 38 (.iAddrS 2 (t 36) (t 37)), o 39 (.fAddr 0 (t 38)), o 40 (.load 1 false (t 39)), o 41 (.mov (t 0)), o 42 (.mov (t 3)), o 43 (.iAddrS 2 (t 41) (t 42)), o 44 (.fAddr 0 (t 43)), o 45 (.load 1 false (t 44)), o 46 (.bin .eql (t 40) (t 45))])
 (.cond (t 46) (.seq (.ops [o 2 (.mov (c (.int .i64 6)))])
 .ret) .skip)))
 (.ops [o 34 (.mov (t 6)), o 35 (.bin .add (t 34) (c (.int .i64 1))), o 6 (.mov (t 35))]))))))))))
 (.ops [o 11 (.mov (t 3)), o 12 (.bin .add (t 11) (c (.int .i64 1))), o 3 (.mov (t 12))]))))))
 (.seq (.ops [o 2 (.mov (c (.int .i64 0)))])
 .ret)))⟩
def c97 : Func :=
⟨2, 36, [.tmp 4],
 (.seq (.ops [o 2 (.box (t 0)), o 4 (.mov (c (.bool false)))])
 (.seq (.ops [o 9 (.load 4 true (t 2)), o 10 (.call false (c (.fn 93 [] [])) [(t 9)]), o 8 (.mov (t 10)), o 11 (.ext 0 (t 8)), o 12 (.ext 1 (t 8)), o 5 (.alloc [(.bool false), (.bool false), (.bool false), (.sl 1 true []), (.int .i64 0), (.int .i64 0)]), w (.store 6 (t 5) (t 11)), o 6 (.mov (t 12))])
 (.seq (.seq (.ops [o 7 (.mov (c (.int .i64 0)))])
 (.block 0 (.loop (.seq (.seq (.ops [o 13 (.mov (t 7)), o 14 (.mov (t 1)), o 15 (.lenSl (t 14)), o 16 (.bin .lss (t 13) (t 15))])
 (.cond (t 16) .skip (.exit 0)))
 (.seq (.block 1 (.seq (.ops [o 19 (.mov (t 1)), o 20 (.mov (t 7)), o 21 (.iAddrS 2 (t 19) (t 20)), o 22 (.fAddr 0 (t 21)), o 23 (.load 1 false (t 22)), o 24 (.fAddr 0 (t 2)), o 25 (.load 1 false (t 24)), o 26 (.bin .eql (t 23) (t 25))])
 (.cond (t 26) (.seq (.ops [o 27 (.load 6 true (t 5)), o 28 (.mov (t 1)), o 29 (.mov (t 7)), o 30 (.iAddrS 2 (t 28) (t 29)), o 31 (.fAddr 1 (t 30)), o 32 (.load 1 false (t 31)), o 33 (.call true (c (.fn 194 [] [])) [(t 27), (t 32)]), o 4 (.mov (t 33))])
 .ret) .skip)))
 (.ops [o 17 (.mov (t 7)), o 18 (.bin .add (t 17) (c (.int .i64 1))), o 7 (.mov (t 18))]))))))
 (.seq (.ops [o 34 (.fAddr 0 (t 5)), o 35 (.load 1 false (t 34)), o 4 (.mov (t 35))])
 .ret))))⟩
def c40 : Func :=
⟨2, 34, [.tmp 4, .tmp 5],
 (.seq (.ops [o 4 (.mov (c (.bool false))), o 5 (.mov (c (.int .i64 0)))])
 (.seq (.ops [o 10 (.mov (t 0)), o 11 (.call false (c (.fn 92 [] [])) [(t 10)]), o 6 (.mov (t 11))])
 (.seq (.seq (.ops [o 12 (.mov (t 6)), o 13 (.bin .neq (t 12) (c (.int .i64 0)))])
 (.cond (t 13) (.seq (.ops [o 14 (.mov (t 6)), o 4 (.mov (c (.bool false))), o 5 (.mov (t 14))])
 .ret) .skip))
 (.seq (.ops [o 15 (.mov (t 1)), o 16 (.call false (c (.fn 96 [] [])) [(t 15)]), o 7 (.mov (t 16))])
 (.seq (.seq (.ops [o 17 (.mov (t 7)), o 18 (.bin .neq (t 17) (c (.int .i64 0)))])
 (.cond (t 18) (.seq (.ops [o 19 (.mov (t 7)), o 4 (.mov (c (.bool false))), o 5 (.mov (t 19))])
 .ret) .skip))
 (.seq (.seq (.ops [o 8 (.mov (c (.int .i64 0)))])
 (.block 0 (.loop (.seq (.seq (.ops [o 20 (.mov (t 8)), o 21 (.mov (t 0)), o 22 (.lenSl (t 21)), o 23 (.bin .lss (t 20) (t 22))])
 (.cond (t 23) .skip (.exit 0)))
 (.seq (.block 1 (.seq (.ops [o 26 (.mov (t 0)), o 27 (.mov (t 8)), o 28 (.iAddrS 4 (t 26) (t 27)), o 29 (.load 4 true (t 28)), o 30 (.mov (t 1)), o 31 (.call false (c (.fn 97 [] [])) [(t 29), (t 30)]), o 9 (.mov (t 31))])
 (.seq (.ops [o 32 (.mov (t 9)), o 33 (.un .not (t 32))])
 (.cond (t 33) (.seq (.ops [o 4 (.mov (c (.bool false))), o 5 (.mov (c (.int .i64 0)))])
 .ret) .skip))))
 (.ops [o 24 (.mov (t 8)), o 25 (.bin .add (t 24) (c (.int .i64 1))), o 8 (.mov (t 25))]))))))
 (.seq (.ops [o 4 (.mov (c (.bool true))), o 5 (.mov (c (.int .i64 0)))])
 .ret)))))))⟩
def c41 : Func :=
⟨1, 17, [.tmp 2, .tmp 3],
 (.seq (.ops [o 2 (.mov (c (.bool false))), o 3 (.mov (c (.int .i64 0)))])
 (.seq (.ops [o 7 (.mov (t 0)), o 8 (.call false (c (.fn 33 [] [])) [(t 7)]), o 6 (.mov (t 8)), o 9 (.ext 0 (t 6)), o 10 (.ext 1 (t 6)), o 4 (.mov (t 9)), o 5 (.mov (t 10))])
 (.seq (.seq (.ops [o 11 (.mov (t 5)), o 12 (.bin .neq (t 11) (c (.int .i64 0)))])
 (.cond (t 12) (.seq (.ops [o 13 (.mov (t 5)), o 2 (.mov (c (.bool false))), o 3 (.mov (t 13))])
 .ret) .skip))
 (.seq (.ops [o 14 (.mov (t 4)), o 15 (.call false (c (.fn 98 [] [])) [(t 14), (c (.fn 99 [] []))]), o 16 (.un .not (t 15)), o 2 (.mov (t 16)), o 3 (.mov (c (.int .i64 0)))])
 .ret))))⟩
def c42 : Func :=
⟨1, 29, [.tmp 2, .tmp 3],
 (.seq (.ops [o 2 (.mov (c (.bool false))), o 3 (.mov (c (.int .i64 0)))])
 (.seq (.ops [o 9 (.mov (t 0)), o 10 (.call false (c (.fn 38 [] [])) [(t 9)]), o 8 (.mov (t 10)), o 11 (.ext 0 (t 8)), o 12 (.ext 1 (t 8)), o 4 (.mov (t 11)), o 5 (.mov (t 12))])
 (.seq (.seq (.ops [o 13 (.mov (t 5)), o 14 (.bin .neq (t 13) (c (.int .i64 0)))])
 (.cond (t 14) (.seq (.ops [o 15 (.mov (t 5)), o 2 (.mov (c (.bool false))), o 3 (.mov (t 15))])
 .ret) .skip))
 (.seq (.seq (.ops [o 6 (.mov (c (.int .i64 0)))])
 (.block 0 (.loop (.seq (.seq (.ops [o 16 (.mov (t 6)), o 17 (.mov (t 4)), o 18 (.lenSl (t 17)), o 19 (.bin .lss (t 16) (t 18))])
 (.cond (t 19) .skip (.exit 0)))
 (.seq (.block 1 (.seq (.ops [o 22 (.mov (t 4)), o 23 (.mov (t 6)), o 24 (.iAddrS 7 (t 22) (t 23)), o 25 (.fAddr 1 (t 24)), o 26 (.load 6 true (t 25)), o 27 (.call false (c (.fn 101 [] [])) [(t 26)]), o 7 (.mov (t 27))])
 (.seq (.ops [o 28 (.mov (t 7))])
 (.cond (t 28) (.seq (.ops [o 2 (.mov (c (.bool false))), o 3 (.mov (c (.int .i64 0)))])
 .ret) .skip))))
 (.ops [o 20 (.mov (t 6)), o 21 (.bin .add (t 20) (c (.int .i64 1))), o 6 (.mov (t 21))]))))))
 (.seq (.ops [o 2 (.mov (c (.bool true))), o 3 (.mov (c (.int .i64 0)))])
 .ret)))))⟩
def c43 : Func :=
⟨2, 25, [.tmp 4, .tmp 5],
 (.seq (.ops [o 4 (.mov (c (.bool false))), o 5 (.mov (c (.int .i64 0)))])
 (.seq (.seq (.ops [o 8 (.mov (t 0)), o 9 (.call false (c (.fn 36 [] [])) [(t 8)]), o 6 (.mov (t 9))])
 (.seq (.ops [o 10 (.mov (t 6)), o 11 (.bin .neq (t 10) (c (.int .i64 0)))])
 (.cond (t 11) (.seq (.ops [o 12 (.mov (t 6)), o 4 (.mov (c (.bool false))), o 5 (.mov (t 12))])
 .ret) .skip)))
 (.seq (.seq (.ops [o 13 (.mov (t 1)), o 14 (.call false (c (.fn 36 [] [])) [(t 13)]), o 7 (.mov (t 14))])
 (.seq (.ops [o 15 (.mov (t 7)), o 16 (.bin .neq (t 15) (c (.int .i64 0)))])
 (.cond (t 16) (.seq (.ops [o 17 (.mov (t 7)), o 4 (.mov (c (.bool false))), o 5 (.mov (t 17))])
 .ret) .skip)))
 (.seq (.ops [o 18 (.mov (t 0)), o 19 (.mov (t 1)), o 20 (.mkSl false 1 24 (.sl 4 true []) 2 [(0, (t 18)), (1, (t 19))]), o 21 (.call false (c (.fn 102 [] [])) [(t 20)]), o 22 (.call false (c (.fn 41 [] [])) [(t 21)]), o 23 (.ext 0 (t 22)), o 24 (.ext 1 (t 22)), o 4 (.mov (t 23)), o 5 (.mov (t 24))])
 .ret))))⟩
def c44 : Func :=
⟨2, 29, [.tmp 4, .tmp 5],
 (.seq (.ops [o 4 (.mov (c (.bool false))), o 5 (.mov (c (.int .i64 0)))])
 (.seq (.ops [o 9 (.mov (t 0)), o 10 (.call false (c (.fn 37 [] [])) [(t 9)]), o 6 (.mov (t 10))])
 (.seq (.seq (.ops [o 11 (.mov (t 6)), o 12 (.bin .neq (t 11) (c (.int .i64 0)))])
 (.cond (t 12) (.seq (.ops [o 13 (.mov (t 6)), o 4 (.mov (c (.bool false))), o 5 (.mov (t 13))])
 .ret) .skip))
 (.seq (.ops [o 14 (.mov (t 1)), o 15 (.call false (c (.fn 37 [] [])) [(t 14)]), o 7 (.mov (t 15))])
 (.seq (.seq (.ops [o 16 (.mov (t 7)), o 17 (.bin .neq (t 16) (c (.int .i64 0)))])
 (.cond (t 17) (.seq (.ops [o 18 (.mov (t 7)), o 4 (.mov (c (.bool false))), o 5 (.mov (t 18))])
 .ret) .skip))
 (.seq (.ops [o 8 (.mov (c (.sl 4 true [])))])
 (.seq (.ops [o 19 (.mov (t 8)), o 20 (.mov (t 0)), o 21 (.app 4 75 56 (t 19) (t 20)), o 8 (.mov (t 21))])
 (.seq (.ops [o 22 (.mov (t 8)), o 23 (.mov (t 1)), o 24 (.app 4 75 56 (t 22) (t 23)), o 8 (.mov (t 24))])
 (.seq (.ops [o 25 (.mov (t 8)), o 26 (.call false (c (.fn 42 [] [])) [(t 25)]), o 27 (.ext 0 (t 26)), o 28 (.ext 1 (t 26)), o 4 (.mov (t 27)), o 5 (.mov (t 28))])
 .ret)))))))))⟩
def c87 : Func :=
⟨2, 10, [.tmp 4],
 (.seq (.ops [o 2 (.box (t 0)), o 3 (.box (t 1)), o 4 (.mov (c (.int .i64 0)))])
 (.seq (.ops [o 5 (.fAddr 0 (t 2)), o 6 (.load 1 false (t 5)), o 7 (.fAddr 0 (t 3)), o 8 (.load 1 false (t 7)), o 9 (.call false (c (.fn 88 [] [])) [(t 6), (t 8)]), o 4 (.mov (t 9))])
 .ret))⟩
def c98 : Func :=
⟨2, 9, [.tmp 4],
 (.seq (.ops [o 4 (.mov (c (.bool false)))])
 (.seq (.ops [o 5 (.mov (t 0)), o 6 (.mov (t 1)), o 7 (.call false (c (.fn 195 [] [])) [(t 5), (t 6)]), o 8 (.bin .geq (t 7) (c (.int .i64 0))), o 4 (.mov (t 8))])
 .ret))⟩
def c99 : Func :=
⟨1, 6, [.tmp 2],
 (.seq (.ops [o 1 (.box (t 0)), o 2 (.mov (c (.bool false)))])
 (.seq (.ops [o 3 (.fAddr 1 (t 1)), o 4 (.load 6 true (t 3)), o 5 (.call false (c (.fn 100 [] [])) [(t 4)]), o 2 (.mov (t 5))])
 .ret))⟩
def c195 : Func :=
⟨2, 19, [.tmp 4],
 (.seq (.ops [o 4 (.mov (c (.int .i64 0)))])
 (.seq (.seq (.ops [o 6 (.mov (t 0)), o 7 (.lenSl (t 6)), o 8 (.mov (c (.int .i64 0)))])
 (.block 0 (.loop (.seq (.ops [o 9 (.bin .lss (t 8) (t 7))])
 (.seq (.cond (t 9) .skip (.exit 0))
 (.seq (.block 1 (.seq (.ops [o 10 (.mov (t 8)), o 5 (.mov (t 10))])
 (.seq (.ops [o 11 (.mov (t 1)), o 12 (.mov (t 0)), o 13 (.mov (t 5)), o 14 (.iAddrS 7 (t 12) (t 13)), o 15 (.load 7 true (t 14)), o 16 (.call false (t 11) [(t 15)])])
 (.cond (t 16) (.seq (.ops [o 17 (.mov (t 5)), o 4 (.mov (t 17))])
 .ret) .skip))))
 (.ops [o 18 (.bin .add (t 8) (c (.int .i64 1))), o 8 (.mov (t 18))])))))))
 (.seq (.ops [o 4 (.mov (c (.int .i64 (-1))))])
 .ret)))⟩
end Go.Proofs.AM
namespace Go.Proofs.AM
open Go Cd
def c33 : Func :=
⟨1, 74, [.tmp 2, .tmp 3],
 (.seq (.ops [o 2 (.mov (c (.sl 7 true []))), o 3 (.mov (c (.int .i64 0)))])
 (.seq (.ops [o 15 (.mov (t 0)), o 16 (.call false (c (.fn 84 [] [])) [(t 15), (c (.int .i64 16))]), o 14 (.mov (t 16)), o 17 (.ext 0 (t 14)), o 18 (.ext 1 (t 14)), o 4 (.mov (t 17)), o 5 (.mov (t 18))])
 (.seq (.seq (.ops [o 19 (.mov (t 5)), o 20 (.bin .neq (t 19) (c (.int .i64 0)))])
 (.cond (t 20) (.seq (.ops [o 21 (.mov (t 5)), o 2 (.mov (c (.sl 7 true []))), o 3 (.mov (t 21))])
 .ret) .skip))
 (.seq (.ops [o 22 (.mkMap), o 6 (.mov (t 22))])
 (.seq (.seq (.ops [o 23 (.mov (t 4)), o 24 (.lenSl (t 23)), o 25 (.mov (c (.int .i64 0)))])
 (.block 0 (.loop (.seq (.ops [o 26 (.bin .lss (t 25) (t 24))])
 (.seq (.cond (t 26) .skip (.exit 0))
 (.seq (.block 1 (.seq (.ops [o 27 (.mov (t 25)), o 28 (.iAddrS 6 (t 23) (t 25)), o 29 (.load 6 true (t 28)), o 8 (.alloc [(.bool false), (.bool false), (.bool false), (.sl 1 true []), (.int .i64 0), (.int .i64 0)]), o 7 (.mov (t 27)), w (.store 6 (t 8) (t 29))])
 (.seq (.seq (.ops [o 31 (.mov (t 6)), o 32 (.mov (t 0)), o 33 (.mov (t 7)), o 34 (.iAddrS 4 (t 32) (t 33)), o 35 (.fAddr 0 (t 34)), o 36 (.load 1 false (t 35)), o 37 (.look (false, [(0, .str)]) (.agg [(.bool false), (.bool false), (.bool false), (.sl 1 true []), (.int .i64 0), (.int .i64 0)]) true (t 31) (t 36)), o 30 (.mov (t 37)), o 38 (.ext 0 (t 30)), o 39 (.ext 1 (t 30)), o 9 (.alloc [(.bool false), (.bool false), (.bool false), (.sl 1 true []), (.int .i64 0), (.int .i64 0)]), w (.store 6 (t 9) (t 38)), o 10 (.mov (t 39))])
 (.seq (.ops [o 40 (.mov (t 10))])
 (.cond (t 40) (.seq (.ops [o 42 (.load 6 true (t 9)), o 43 (.load 6 true (t 8)), o 44 (.call false (c (.fn 85 [] [])) [(t 42), (t 43)]), o 41 (.mov (t 44)), o 45 (.ext 0 (t 41)), o 46 (.ext 1 (t 41)), w (.store 6 (t 8) (t 45)), o 5 (.mov (t 46))])
 (.seq (.ops [o 47 (.mov (t 5)), o 48 (.bin .neq (t 47) (c (.int .i64 0)))])
 (.cond (t 48) (.seq (.ops [o 49 (.mov (t 5)), o 2 (.mov (c (.sl 7 true []))), o 3 (.mov (t 49))])
 .ret) .skip))) .skip)))
 (.ops [o 50 (.mov (t 6)), o 51 (.mov (t 0)), o 52 (.mov (t 7)), o 53 (.iAddrS 4 (t 51) (t 52)), o 54 (.fAddr 0 (t 53)), o 55 (.load 1 false (t 54)), o 56 (.load 6 true (t 8)), w (.mput (false, [(0, .str)]) (t 50) (t 55) (t 56))]))))
 (.ops [o 57 (.bin .add (t 25) (c (.int .i64 1))), o 25 (.mov (t 57))])))))))
 (.seq (.ops [o 11 (.mov (c (.sl 7 true [])))])
 (.gh (.tmp 11 99 7 91) (.seq (.seq (.ops [o 58 (.mov (t 6)), o 59 (.mkIter (t 58))])
 (.block 2 (.loop (.seq (.ops [o 60 (.next (t 59)), o 61 (.ext 0 (t 60))])
 (.seq (.cond (t 61) .skip (.exit 2))
 (.block 3 (.seq (.ops [o 62 (.entry (t 59)), o 63 (.ext 0 (t 62)), o 64 (.ext 1 (t 62)), o 13 (.alloc [(.bool false), (.bool false), (.bool false), (.sl 1 true []), (.int .i64 0), (.int .i64 0)]), o 12 (.mov (t 63)), w (.store 6 (t 13) (t 64))])
 (.ops [o 65 (.mov (t 11)), o 66 (.mov (t 12)), o 67 (.load 6 true (t 13)), o 68 (.build [(.str ⟨#[]⟩), (.bool false), (.bool false), (.bool false), (.sl 1 true []), (.int .i64 0), (.int .i64 0)] [(0, 1, (t 66)), (1, 6, (t 67))]), o 69 (.mkSl false 7 91 (.agg [(.str ⟨#[]⟩), (.bool false), (.bool false), (.bool false), (.sl 1 true []), (.int .i64 0), (.int .i64 0)]) 1 [(0, (t 68))]), o 70 (.app 7 91 64 (t 65) (t 69)), o 11 (.mov (t 70))]))))))))
 (.seq (.ops [o 71 (.mov (t 11)), o 72 (.icall (c (.fn 86 [] [])) [(t 71), (c (.fn 87 [] []))])])
 (.seq (.ops [o 73 (.mov (t 11)), o 2 (.mov (t 73)), o 3 (.mov (c (.int .i64 0)))])
 .ret))))))))))⟩
end Go.Proofs.AM
namespace Go.Proofs.AM
open Go Cd
def c102 : Func :=
⟨1, 36, [.tmp 2],
 (.seq (.ops [o 2 (.mov (c (.sl 4 true [])))])
 (.seq (.ops [o 3 (.mov (c (.int .i64 0)))])
 (.seq (.seq (.ops [o 9 (.mov (t 0)), o 10 (.lenSl (t 9)), o 11 (.mov (c (.int .i64 0)))])
 (.block 0 (.loop (.seq (.ops [o 12 (.bin .lss (t 11) (t 10))])
 (.seq (.cond (t 12) .skip (.exit 0))
 (.seq (.block 1 (.seq (.ops [o 13 (.iAddrS 1 (t 9) (t 11)), o 14 (.load 1 false (t 13)), o 5 (.mov (t 14))])
 (.seq (.ops [o 15 (.mov (t 3)), o 16 (.mov (t 5)), o 17 (.lenSl (t 16)), o 18 (.bin .add (t 15) (t 17)), o 3 (.mov (t 18))])
 (.seq (.ops [o 19 (.mov (t 3)), o 20 (.bin .lss (t 19) (c (.int .i64 0)))])
 (.cond (t 20) (.ops [o 21 (.mki 9 (c (.str ⟨#[108, 101, 110, 32, 111, 117, 116, 32, 111, 102, 32, 114, 97, 110, 103, 101]⟩))), w (.lenStr (c .junk))]) .skip)))))
 (.ops [o 22 (.bin .add (t 11) (c (.int .i64 1))), o 11 (.mov (t 22))])))))))
 (.seq (.ops [o 23 (.mov (t 3)), o 24 (.icall (c (.fn 196 [] [])) [(c (.sl 4 true [])), (t 23)]), o 6 (.mov (t 24))])
 (.seq (.seq (.ops [o 25 (.mov (t 0)), o 26 (.lenSl (t 25)), o 27 (.mov (c (.int .i64 0)))])
 (.block 2 (.loop (.seq (.ops [o 28 (.bin .lss (t 27) (t 26))])
 (.seq (.cond (t 28) .skip (.exit 2))
 (.seq (.block 3 (.seq (.ops [o 29 (.iAddrS 1 (t 25) (t 27)), o 30 (.load 1 false (t 29)), o 8 (.mov (t 30))])
 (.ops [o 31 (.mov (t 6)), o 32 (.mov (t 8)), o 33 (.app 4 75 56 (t 31) (t 32)), o 6 (.mov (t 33))])))
 (.ops [o 34 (.bin .add (t 27) (c (.int .i64 1))), o 27 (.mov (t 34))])))))))
 (.seq (.ops [o 35 (.mov (t 6)), o 2 (.mov (t 35))])
 .ret))))))⟩
def c32 : Func :=
⟨4, 14, [.cell 8 4 true],
 (.seq (.ops [o 8 (.alloc [(.str ⟨#[]⟩), (.int .i64 0), (.sl 1 true []), (.int .i64 0)])])
 (.seq (.ops [o 9 (.mov (t 0)), o 10 (.mov (t 1)), o 11 (.mov (t 2)), o 12 (.mov (t 3)), o 13 (.build [(.str ⟨#[]⟩), (.int .i64 0), (.sl 1 true []), (.int .i64 0)] [(0, 1, (t 9)), (1, 1, (t 10)), (3, 1, (t 11)), (2, 1, (t 12))]), w (.store 4 (t 8) (t 13))])
 .ret))⟩
def c35 : Func :=
⟨0, 110, [.tmp 0],
 (.seq (.ops [o 0 (.mov (c (.bool false)))])
 (.seq (.ops [o 12 (.mkSl false 1 9 (.str ⟨#[]⟩) 3 [(0, (c (.str ⟨#[97]⟩))), (1, (c (.str ⟨#[98]⟩))), (2, (c (.str ⟨#[99]⟩)))]), o 13 (.call false (c (.fn 32 [] [])) [(c (.str ⟨#[122, 111, 110, 101]⟩)), (c (.int .i64 1)), (c (.int .i64 0)), (t 12)]), o 14 (.mkSl false 1 9 (.str ⟨#[]⟩) 1 [(0, (c (.str ⟨#[98]⟩)))]), o 15 (.call false (c (.fn 32 [] [])) [(c (.str ⟨#[122, 111, 110, 101]⟩)), (c (.int .i64 2)), (c (.int .i64 0)), (t 14)]), o 16 (.call false (c (.fn 32 [] [])) [(c (.str ⟨#[103, 101, 110]⟩)), (c (.int .i64 5)), (c (.int .i64 3)), (c (.sl 1 true []))]), o 17 (.mkSl false 4 75 (.agg [(.str ⟨#[]⟩), (.int .i64 0), (.sl 1 true []), (.int .i64 0)]) 3 [(0, (t 13)), (1, (t 15)), (2, (t 16))]), o 1 (.mov (t 17))])
 (.seq (.ops [o 19 (.mov (t 1)), o 20 (.call false (c (.fn 33 [] [])) [(t 19)]), o 18 (.mov (t 20)), o 21 (.ext 0 (t 18)), o 22 (.ext 1 (t 18)), o 2 (.mov (t 21)), o 3 (.mov (t 22))])
 (.seq (.seq (.ops [o 23 (.mov (t 3)), o 24 (.bin .neq (t 23) (c (.int .i64 0))), o 25 (.mov (t 24)), ⟨some 26, .mov (t 2), some (25, false)⟩, ⟨some 27, .lenSl (t 26), some (25, false)⟩, ⟨some 28, .bin .neq (t 27) (c (.int .i64 2)), some (25, false)⟩, o 29 (.pick (t 25) (c (.bool true)) (t 28)), o 30 (.mov (t 29)), ⟨some 31, .mov (t 2), some (30, false)⟩, ⟨some 32, .iAddrS 7 (t 31) (c (.int .i64 0)), some (30, false)⟩, ⟨some 33, .fAddr 0 (t 32), some (30, false)⟩, ⟨some 34, .load 1 false (t 33), some (30, false)⟩, ⟨some 35, .bin .neq (t 34) (c (.str ⟨#[103, 101, 110]⟩)), some (30, false)⟩, o 36 (.pick (t 30) (c (.bool true)) (t 35)), o 37 (.mov (t 36)), ⟨some 38, .mov (t 2), some (37, false)⟩, ⟨some 39, .iAddrS 7 (t 38) (c (.int .i64 1)), some (37, false)⟩, ⟨some 40, .fAddr 0 (t 39), some (37, false)⟩, ⟨some 41, .load 1 false (t 40), some (37, false)⟩, ⟨some 42, .bin .neq (t 41) (c (.str ⟨#[122, 111, 110, 101]⟩)), some (37, false)⟩, o 43 (.pick (t 37) (c (.bool true)) (t 42)), o 44 (.mov (t 43)), ⟨some 45, .mov (t 2), some (44, false)⟩, ⟨some 46, .iAddrS 7 (t 45) (c (.int .i64 1)), some (44, false)⟩, ⟨some 47, .fAddr 1 (t 46), some (44, false)⟩, ⟨some 48, .fAddr 3 (t 47), some (44, false)⟩, ⟨some 49, .load 1 false (t 48), some (44, false)⟩, ⟨some 50, .lenSl (t 49), some (44, false)⟩, ⟨some 51, .bin .neq (t 50) (c (.int .i64 2)), some (44, false)⟩, o 52 (.pick (t 44) (c (.bool true)) (t 51))])
 (.cond (t 52) (.seq (.ops [o 0 (.mov (c (.bool false)))])
 .ret) .skip))
 (.seq (.ops [o 54 (.mov (t 1)), o 55 (.build [(.str ⟨#[]⟩), (.str ⟨#[]⟩)] [(0, 1, (c (.str ⟨#[122, 111, 110, 101]⟩))), (1, 1, (c (.str ⟨#[97]⟩)))]), o 56 (.build [(.str ⟨#[]⟩), (.str ⟨#[]⟩)] [(0, 1, (c (.str ⟨#[103, 101, 110]⟩))), (1, 1, (c (.str ⟨#[53]⟩)))]), o 57 (.mkSl false 2 83 (.agg [(.str ⟨#[]⟩), (.str ⟨#[]⟩)]) 2 [(0, (t 55)), (1, (t 56))]), o 58 (.call false (c (.fn 34 [] [])) [(t 54), (t 57)]), o 53 (.mov (t 58)), o 59 (.ext 0 (t 53)), o 60 (.ext 1 (t 53)), o 4 (.mov (t 59)), o 5 (.mov (t 60))])
 (.seq (.ops [o 62 (.mov (t 1)), o 63 (.build [(.str ⟨#[]⟩), (.str ⟨#[]⟩)] [(0, 1, (c (.str ⟨#[122, 111, 110, 101]⟩))), (1, 1, (c (.str ⟨#[97]⟩)))]), o 64 (.mkSl false 2 83 (.agg [(.str ⟨#[]⟩), (.str ⟨#[]⟩)]) 1 [(0, (t 63))]), o 65 (.call false (c (.fn 34 [] [])) [(t 62), (t 64)]), o 61 (.mov (t 65)), o 66 (.ext 0 (t 61)), o 67 (.ext 1 (t 61)), o 6 (.mov (t 66)), o 7 (.mov (t 67))])
 (.seq (.ops [o 69 (.mkSl false 1 9 (.str ⟨#[]⟩) 1 [(0, (c (.str ⟨#[97]⟩)))]), o 70 (.call false (c (.fn 32 [] [])) [(c (.str ⟨#[122, 111, 110, 101]⟩)), (c (.int .i64 1)), (c (.int .i64 0)), (t 69)]), o 71 (.mkSl false 1 9 (.str ⟨#[]⟩) 1 [(0, (c (.str ⟨#[98]⟩)))]), o 72 (.call false (c (.fn 32 [] [])) [(c (.str ⟨#[122, 111, 110, 101]⟩)), (c (.int .i64 1)), (c (.int .i64 0)), (t 71)]), o 73 (.mkSl false 4 75 (.agg [(.str ⟨#[]⟩), (.int .i64 0), (.sl 1 true []), (.int .i64 0)]) 2 [(0, (t 70)), (1, (t 72))]), o 74 (.call false (c (.fn 41 [] [])) [(t 73)]), o 68 (.mov (t 74)), o 75 (.ext 0 (t 68)), o 76 (.ext 1 (t 68)), o 8 (.mov (t 75)), o 9 (.mov (t 76))])
 (.seq (.ops [o 78 (.mov (t 1)), o 79 (.call false (c (.fn 43 [] [])) [(t 78), (c (.sl 4 true []))]), o 77 (.mov (t 79)), o 80 (.ext 0 (t 77)), o 81 (.ext 1 (t 77)), o 10 (.mov (t 80)), o 11 (.mov (t 81))])
 (.seq (.ops [o 82 (.mov (t 4)), o 83 (.mov (t 82)), ⟨some 84, .mov (t 6), some (83, true)⟩, ⟨some 85, .un .not (t 84), some (83, true)⟩, o 86 (.pick (t 83) (t 85) (c (.bool false))), o 87 (.mov (t 86)), ⟨some 88, .mov (t 8), some (87, true)⟩, ⟨some 89, .un .not (t 88), some (87, true)⟩, o 90 (.pick (t 87) (t 89) (c (.bool false))), o 91 (.mov (t 90)), ⟨some 92, .mov (t 10), some (91, true)⟩, o 93 (.pick (t 91) (t 92) (c (.bool false))), o 94 (.mov (t 93)), ⟨some 95, .mov (t 5), some (94, true)⟩, ⟨some 96, .bin .eql (t 95) (c (.int .i64 0)), some (94, true)⟩, o 97 (.pick (t 94) (t 96) (c (.bool false))), o 98 (.mov (t 97)), ⟨some 99, .mov (t 7), some (98, true)⟩, ⟨some 100, .bin .eql (t 99) (c (.int .i64 0)), some (98, true)⟩, o 101 (.pick (t 98) (t 100) (c (.bool false))), o 102 (.mov (t 101)), ⟨some 103, .mov (t 9), some (102, true)⟩, ⟨some 104, .bin .eql (t 103) (c (.int .i64 0)), some (102, true)⟩, o 105 (.pick (t 102) (t 104) (c (.bool false))), o 106 (.mov (t 105)), ⟨some 107, .mov (t 11), some (106, true)⟩, ⟨some 108, .bin .eql (t 107) (c (.int .i64 0)), some (106, true)⟩, o 109 (.pick (t 106) (t 108) (c (.bool false))), o 0 (.mov (t 109))])
 .ret)))))))))⟩
def c12 : Func :=
⟨2, 32, [.tmp 4],
 (.seq (.ops [o 4 (.mov (c (.bool false)))])
 (.seq (.ops [o 10 (.mov (t 0)), o 11 (.mov (t 1)), o 12 (.call false (c (.fn 34 [] [])) [(t 10), (t 11)]), o 9 (.mov (t 12)), o 13 (.ext 0 (t 9)), o 14 (.ext 1 (t 9)), o 5 (.mov (t 13)), o 6 (.mov (t 14))])
 (.seq (.ops [o 16 (.mov (t 0)), o 17 (.mov (t 1)), o 18 (.call false (c (.fn 40 [] [])) [(t 16), (t 17)]), o 15 (.mov (t 18)), o 19 (.ext 0 (t 15)), o 20 (.ext 1 (t 15)), o 7 (.mov (t 19)), o 8 (.mov (t 20))])
 (.seq (.ops [o 21 (.call false (c (.fn 35 [] [])) []), o 22 (.mov (t 21)), ⟨some 23, .mov (t 5), some (22, true)⟩, ⟨some 24, .mov (t 7), some (22, true)⟩, ⟨some 25, .eqb false (t 23) (t 24), some (22, true)⟩, o 26 (.pick (t 22) (t 25) (c (.bool false))), o 27 (.mov (t 26)), ⟨some 28, .mov (t 6), some (27, true)⟩, ⟨some 29, .mov (t 8), some (27, true)⟩, ⟨some 30, .bin .eql (t 28) (t 29), some (27, true)⟩, o 31 (.pick (t 27) (t 30) (c (.bool false))), o 4 (.mov (t 31))])
 .ret))))⟩
def c14 : Func :=
⟨2, 105, [.tmp 4],
 (.seq (.ops [o 4 (.mov (c (.bool false)))])
 (.seq (.ops [o 16 (.mov (t 0)), o 17 (.mov (t 1)), o 18 (.call false (c (.fn 34 [] [])) [(t 16), (t 17)]), o 15 (.mov (t 18)), o 19 (.ext 0 (t 15)), o 20 (.ext 1 (t 15)), o 5 (.mov (t 19)), o 6 (.mov (t 20))])
 (.seq (.seq (.ops [o 21 (.mov (t 6)), o 22 (.bin .neq (t 21) (c (.int .i64 0)))])
 (.cond (t 22) (.seq (.ops [o 23 (.call false (c (.fn 35 [] [])) []), o 24 (.mov (t 23)), ⟨some 25, .mov (t 5), some (24, true)⟩, ⟨some 26, .un .not (t 25), some (24, true)⟩, o 27 (.pick (t 24) (t 26) (c (.bool false))), o 4 (.mov (t 27))])
 .ret) .skip))
 (.seq (.ops [o 29 (.mov (t 0)), o 30 (.call false (c (.fn 41 [] [])) [(t 29)]), o 28 (.mov (t 30)), o 31 (.ext 0 (t 28)), o 32 (.ext 1 (t 28)), o 7 (.mov (t 31)), o 8 (.mov (t 32))])
 (.seq (.ops [o 34 (.mov (t 0)), o 35 (.call false (c (.fn 33 [] [])) [(t 34)]), o 33 (.mov (t 35)), o 36 (.ext 0 (t 33)), o 37 (.ext 1 (t 33)), o 9 (.mov (t 36)), o 10 (.mov (t 37))])
 (.seq (.seq (.ops [o 38 (.mov (t 8)), o 39 (.mov (t 10)), o 40 (.bin .neq (t 38) (t 39))])
 (.cond (t 40) (.seq (.ops [o 4 (.mov (c (.bool false)))])
 .ret) .skip))
 (.seq (.seq (.ops [o 41 (.mov (t 8)), o 42 (.bin .neq (t 41) (c (.int .i64 0)))])
 (.cond (t 42) (.seq (.ops [o 43 (.call false (c (.fn 35 [] [])) []), o 44 (.mov (t 43)), ⟨some 45, .mov (t 8), some (44, true)⟩, ⟨some 46, .bin .eql (t 45) (c (.int .i64 3)), some (44, true)⟩, o 47 (.pick (t 44) (t 46) (c (.bool false))), o 4 (.mov (t 47))])
 .ret) .skip))
 (.seq (.ops [o 11 (.mov (c (.bool true)))])
 (.seq (.seq (.ops [o 12 (.mov (c (.int .i64 0)))])
 (.block 0 (.loop (.seq (.seq (.ops [o 48 (.mov (t 12)), o 49 (.mov (t 9)), o 50 (.lenSl (t 49)), o 51 (.bin .lss (t 48) (t 50))])
 (.cond (t 51) .skip (.exit 0)))
 (.seq (.block 1 (.seq (.ops [o 54 (.mov (t 9)), o 55 (.mov (t 12)), o 56 (.iAddrS 7 (t 54) (t 55)), o 57 (.fAddr 1 (t 56)), o 58 (.fAddr 0 (t 57)), o 59 (.load 1 false (t 58)), o 13 (.mov (t 59))])
 (.seq (.seq (.ops [o 14 (.mov (c (.int .i64 0)))])
 (.block 2 (.loop (.seq (.seq (.ops [o 60 (.mov (t 14)), o 61 (.mov (t 1)), o 62 (.lenSl (t 61)), o 63 (.bin .lss (t 60) (t 62))])
 (.cond (t 63) .skip (.exit 2)))
 (.seq (.block 3 (.seq (.ops [o 66 (.mov (t 1)), o 67 (.mov (t 14)), o 68 (.iAddrS 2 (t 66) (t 67)), o 69 (.fAddr 0 (t 68)), o 70 (.load 1 false (t 69)), o 71 (.mov (t 9)), o 72 (.mov (t 12)), o 73 (.iAddrS 7 (t 71) (t 72)), o 74 (.fAddr 0 (t 73)), o 75 (.load 1 false (t 74)), o 76 (.bin .eql (t 70) (t 75))])
 (.cond (t 76) (.ops [o 77 (.mov (t 9)), o 78 (.mov (t 12)), o 79 (.iAddrS 7 (t 77) (t 78)), o 80 (.fAddr 1 (t 79)), o 81 (.load 6 true (t 80)), o 82 (.mov (t 1)), o 83 (.mov (t 14)), o 84 (.iAddrS 2 (t 82) (t 83)), o 85 (.fAddr 1 (t 84)), o 86 (.load 1 false (t 85)), o 87 (.call true (c (.fn 45 [] [])) [(t 81), (t 86)]), o 13 (.mov (t 87))]) .skip)))
 (.ops [o 64 (.mov (t 14)), o 65 (.bin .add (t 64) (c (.int .i64 1))), o 14 (.mov (t 65))]))))))
 (.ops [o 88 (.mov (t 11)), o 89 (.mov (t 88)), ⟨some 90, .mov (t 13), some (89, true)⟩, o 91 (.pick (t 89) (t 90) (c (.bool false))), o 11 (.mov (t 91))]))))
 (.ops [o 52 (.mov (t 12)), o 53 (.bin .add (t 52) (c (.int .i64 1))), o 12 (.mov (t 53))]))))))
 (.seq (.ops [o 92 (.call false (c (.fn 35 [] [])) []), o 93 (.mov (t 92)), ⟨some 94, .mov (t 11), some (93, true)⟩, ⟨some 95, .mov (t 5), some (93, true)⟩, ⟨some 96, .eqb false (t 94) (t 95), some (93, true)⟩, o 97 (.pick (t 93) (t 96) (c (.bool false))), o 98 (.mov (t 97)), ⟨some 99, .mov (t 5), some (98, true)⟩, ⟨some 100, .un .not (t 99), some (98, true)⟩, ⟨some 101, .mov (t 100), some (98, true)⟩, ⟨some 102, .mov (t 7), some (101, false)⟩, ⟨some 103, .pick (t 101) (c (.bool true)) (t 102), some (98, true)⟩, o 104 (.pick (t 98) (t 103) (c (.bool false))), o 4 (.mov (t 104))])
 .ret))))))))))⟩
end Go.Proofs.AM
namespace Go.Proofs.AM
open Go Cd
def c38 : Func :=
⟨1, 100, [.tmp 2, .tmp 3],
 (.seq (.ops [o 2 (.mov (c (.sl 7 true []))), o 3 (.mov (c (.int .i64 0)))])
 (.seq (.ops [o 14 (.mov (t 0)), o 15 (.call false (c (.fn 92 [] [])) [(t 14)]), o 4 (.mov (t 15))])
 (.seq (.seq (.ops [o 16 (.mov (t 4)), o 17 (.bin .neq (t 16) (c (.int .i64 0)))])
 (.cond (t 17) (.seq (.ops [o 18 (.mov (t 4)), o 2 (.mov (c (.sl 7 true []))), o 3 (.mov (t 18))])
 .ret) .skip))
 (.seq (.ops [o 5 (.mov (c (.sl 7 true [])))])
 (.gh (.tmp 5 83 7 92) (.seq (.seq (.ops [o 6 (.mov (c (.int .i64 0)))])
 (.block 0 (.loop (.seq (.seq (.ops [o 19 (.mov (t 6)), o 20 (.mov (t 0)), o 21 (.lenSl (t 20)), o 22 (.bin .lss (t 19) (t 21))])
 (.cond (t 22) .skip (.exit 0)))
 (.seq (.block 1 (.seq (.ops [o 26 (.mov (t 0)), o 27 (.mov (t 6)), o 28 (.iAddrS 4 (t 26) (t 27)), o 29 (.load 4 true (t 28)), o 30 (.call false (c (.fn 93 [] [])) [(t 29)]), o 25 (.mov (t 30)), o 31 (.ext 0 (t 25)), o 32 (.ext 1 (t 25)), o 7 (.alloc [(.bool false), (.bool false), (.bool false), (.sl 1 true []), (.int .i64 0), (.int .i64 0)]), w (.store 6 (t 7) (t 31)), o 8 (.mov (t 32))])
 (.seq (.ops [o 33 (.mov (t 5)), o 34 (.mov (t 0)), o 35 (.mov (t 6)), o 36 (.iAddrS 4 (t 34) (t 35)), o 37 (.fAddr 0 (t 36)), o 38 (.load 1 false (t 37)), o 39 (.call false (c (.fn 94 [] [])) [(t 33), (t 38)]), o 9 (.mov (t 39))])
 (.gh (.kill 10) (.seq (.seq (.ops [o 40 (.mov (t 9)), o 41 (.bin .geq (t 40) (c (.int .i64 0)))])
 (.cond (t 41) (.seq (.ops [o 43 (.mov (t 5)), o 44 (.mov (t 9)), o 45 (.iAddrS 7 (t 43) (t 44)), o 46 (.fAddr 1 (t 45)), o 47 (.load 6 true (t 46)), o 48 (.load 6 true (t 7)), o 49 (.call true (c (.fn 95 [] [])) [(t 47), (t 48)]), o 42 (.mov (t 49)), o 50 (.ext 0 (t 42)), o 51 (.ext 1 (t 42)), o 10 (.allocF [(.bool false), (.bool false), (.bool false), (.sl 1 true []), (.int .i64 0), (.int .i64 0)]), w (.store 6 (t 10) (t 50)), o 11 (.mov (t 51))])
 (.seq (.seq (.ops [o 52 (.mov (t 11)), o 53 (.bin .neq (t 52) (c (.int .i64 0)))])
 (.cond (t 53) (.seq (.ops [o 54 (.mov (t 11)), o 2 (.mov (c (.sl 7 true []))), o 3 (.mov (t 54))])
 .ret) .skip))
 (.seq (.ops [o 55 (.mov (t 5)), o 56 (.mov (t 9)), o 57 (.load 6 true (t 10)), o 58 (.iAddrS 7 (t 55) (t 56)), o 59 (.fAddr 1 (t 58)), w (.store 6 (t 59) (t 57))])
 (.exit 1)))) .skip))
 (.seq (.ops [o 12 (.mov (c (.int .i64 0)))])
 (.seq (.block 2 (.loop (.seq (.seq (.ops [o 60 (.mov (t 12)), o 61 (.mov (t 5)), o 62 (.lenSl (t 61)), o 63 (.bin .lss (t 60) (t 62)), o 64 (.mov (t 63)), ⟨some 65, .mov (t 5), some (64, true)⟩, ⟨some 66, .mov (t 12), some (64, true)⟩, ⟨some 67, .iAddrS 7 (t 65) (t 66), some (64, true)⟩, ⟨some 68, .fAddr 0 (t 67), some (64, true)⟩, ⟨some 69, .load 1 false (t 68), some (64, true)⟩, ⟨some 70, .mov (t 0), some (64, true)⟩, ⟨some 71, .mov (t 6), some (64, true)⟩, ⟨some 72, .iAddrS 4 (t 70) (t 71), some (64, true)⟩, ⟨some 73, .fAddr 0 (t 72), some (64, true)⟩, ⟨some 74, .load 1 false (t 73), some (64, true)⟩, ⟨some 75, .bin .lss (t 69) (t 74), some (64, true)⟩, o 76 (.pick (t 64) (t 75) (c (.bool false)))])
 (.cond (t 76) .skip (.exit 2)))
 (.block 3 (.ops [o 77 (.mov (t 12)), o 78 (.bin .add (t 77) (c (.int .i64 1))), o 12 (.mov (t 78))])))))
 (.gh (.tell 5) (.seq (.ops [o 13 (.mov (c (.sl 7 true [])))])
 (.seq (.ops [o 79 (.mov (t 13)), o 80 (.mov (t 5)), o 81 (.mov (t 12)), o 82 (.slc 7 (t 80) none (some (t 81))), o 83 (.app 7 92 64 (t 79) (t 82)), o 13 (.mov (t 83))])
 (.seq (.ops [o 84 (.mov (t 13)), o 85 (.mov (t 0)), o 86 (.mov (t 6)), o 87 (.iAddrS 4 (t 85) (t 86)), o 88 (.fAddrP 0 (t 87)), o 89 (.loadP 1 false (t 88)), o 90 (.loadP 6 true (t 7)), o 91 (.build [(.str ⟨#[]⟩), (.bool false), (.bool false), (.bool false), (.sl 1 true []), (.int .i64 0), (.int .i64 0)] [(0, 1, (t 89)), (1, 6, (t 90))]), o 92 (.mkSl true 7 92 (.agg [(.str ⟨#[]⟩), (.bool false), (.bool false), (.bool false), (.sl 1 true []), (.int .i64 0), (.int .i64 0)]) 1 [(0, (t 91))]), o 93 (.appD 7 92 64 (t 84) (t 92)), o 13 (.mov (t 93))])
 (.ops [o 94 (.mov (t 13)), o 95 (.mov (t 5)), o 96 (.mov (t 12)), o 97 (.slc 7 (t 95) (some (t 96)) none), o 98 (.app 7 92 64 (t 94) (t 97)), o 5 (.mov (t 98))]))))))))))))
 (.ops [o 23 (.mov (t 6)), o 24 (.bin .add (t 23) (c (.int .i64 1))), o 6 (.mov (t 24))]))))))
 (.seq (.ops [o 99 (.mov (t 5)), o 2 (.mov (t 99)), o 3 (.mov (c (.int .i64 0)))])
 .ret)))))))⟩
def c10 : Func :=
⟨0, 62, [.tmp 0],
 (.seq (.ops [o 0 (.mov (c (.bool false)))])
 (.seq (.ops [o 1 (.mov (c (.sl 4 true [])))])
 (.gh (.tmp 1 16 4 75) (.seq (.seq (.ops [o 2 (.mov (c (.int .i64 0)))])
 (.block 0 (.loop (.seq (.seq (.ops [o 9 (.mov (t 2)), o 10 (.bin .lss (t 9) (c (.int .i64 17)))])
 (.cond (t 10) .skip (.exit 0)))
 (.seq (.block 1 (.ops [o 13 (.mov (t 1)), o 14 (.call false (c (.fn 32 [] [])) [(c (.str ⟨#[122, 111, 110, 101]⟩)), (c (.int .i64 3)), (c (.int .i64 0)), (c (.sl 1 true []))]), o 15 (.mkSl false 4 75 (.agg [(.str ⟨#[]⟩), (.int .i64 0), (.sl 1 true []), (.int .i64 0)]) 1 [(0, (t 14))]), o 16 (.app 4 75 56 (t 13) (t 15)), o 1 (.mov (t 16))]))
 (.ops [o 11 (.mov (t 2)), o 12 (.bin .add (t 11) (c (.int .i64 1))), o 2 (.mov (t 12))]))))))
 (.gh (.tell 1) (.seq (.ops [o 18 (.mov (t 1)), o 19 (.call false (c (.fn 33 [] [])) [(t 18)]), o 17 (.mov (t 19)), o 20 (.ext 0 (t 17)), o 21 (.ext 1 (t 17)), o 3 (.mov (t 20)), o 4 (.mov (t 21))])
 (.seq (.ops [o 23 (.mov (t 1)), o 24 (.slc 4 (t 23) none (some (c (.int .i64 16)))), o 25 (.call false (c (.fn 33 [] [])) [(t 24)]), o 22 (.mov (t 25)), o 26 (.ext 0 (t 22)), o 27 (.ext 1 (t 22)), o 5 (.mov (t 26)), o 6 (.mov (t 27))])
 (.seq (.ops [o 29 (.build [(.str ⟨#[]⟩), (.str ⟨#[]⟩)] [(0, 1, (c (.str ⟨#[122, 111, 110, 101]⟩))), (1, 1, (c (.str ⟨#[97]⟩)))]), o 30 (.build [(.str ⟨#[]⟩), (.str ⟨#[]⟩)] [(0, 1, (c (.str ⟨#[122, 111, 110, 101]⟩))), (1, 1, (c (.str ⟨#[97]⟩)))]), o 31 (.mkSl false 2 83 (.agg [(.str ⟨#[]⟩), (.str ⟨#[]⟩)]) 2 [(0, (t 29)), (1, (t 30))]), o 32 (.call false (c (.fn 34 [] [])) [(c (.sl 4 true [])), (t 31)]), o 28 (.mov (t 32)), o 33 (.ext 0 (t 28)), o 34 (.ext 1 (t 28)), o 7 (.mov (t 33)), o 8 (.mov (t 34))])
 (.seq (.ops [o 35 (.mov (c (.bool true))), ⟨some 36, .call false (c (.fn 35 [] [])) [], some (35, true)⟩, o 37 (.pick (t 35) (t 36) (c (.bool false))), o 38 (.mov (t 37)), ⟨some 39, .mov (t 1), some (38, true)⟩, ⟨some 40, .slc 4 (t 39) none (some (c (.int .i64 9))), some (38, true)⟩, ⟨some 41, .call false (c (.fn 36 [] [])) [(t 40)], some (38, true)⟩, ⟨some 42, .bin .eql (t 41) (c (.int .i64 3)), some (38, true)⟩, o 43 (.pick (t 38) (t 42) (c (.bool false))), o 44 (.mov (t 43)), ⟨some 45, .mov (t 1), some (44, true)⟩, ⟨some 46, .slc 4 (t 45) none (some (c (.int .i64 8))), some (44, true)⟩, ⟨some 47, .call false (c (.fn 36 [] [])) [(t 46)], some (44, true)⟩, ⟨some 48, .bin .eql (t 47) (c (.int .i64 0)), some (44, true)⟩, o 49 (.pick (t 44) (t 48) (c (.bool false))), o 50 (.mov (t 49)), ⟨some 51, .mov (t 4), some (50, true)⟩, ⟨some 52, .bin .eql (t 51) (c (.int .i64 3)), some (50, true)⟩, o 53 (.pick (t 50) (t 52) (c (.bool false))), o 54 (.mov (t 53)), ⟨some 55, .mov (t 6), some (54, true)⟩, ⟨some 56, .bin .eql (t 55) (c (.int .i64 0)), some (54, true)⟩, o 57 (.pick (t 54) (t 56) (c (.bool false))), o 58 (.mov (t 57)), ⟨some 59, .mov (t 8), some (58, true)⟩, ⟨some 60, .bin .eql (t 59) (c (.int .i64 6)), some (58, true)⟩, o 61 (.pick (t 58) (t 60) (c (.bool false))), o 0 (.mov (t 61))])
 .ret)))))))))⟩
def c13 : Func :=
⟨2, 56, [.tmp 4],
 (.seq (.ops [o 4 (.mov (c (.bool false)))])
 (.seq (.ops [o 14 (.mov (t 0)), o 15 (.call false (c (.fn 41 [] [])) [(t 14)]), o 13 (.mov (t 15)), o 16 (.ext 0 (t 13)), o 17 (.ext 1 (t 13)), o 5 (.mov (t 16)), o 6 (.mov (t 17))])
 (.seq (.ops [o 19 (.mov (t 0)), o 20 (.call false (c (.fn 42 [] [])) [(t 19)]), o 18 (.mov (t 20)), o 21 (.ext 0 (t 18)), o 22 (.ext 1 (t 18)), o 7 (.mov (t 21)), o 8 (.mov (t 22))])
 (.seq (.ops [o 24 (.mov (t 0)), o 25 (.mov (t 1)), o 26 (.call false (c (.fn 43 [] [])) [(t 24), (t 25)]), o 23 (.mov (t 26)), o 27 (.ext 0 (t 23)), o 28 (.ext 1 (t 23)), o 9 (.mov (t 27)), o 10 (.mov (t 28))])
 (.seq (.ops [o 30 (.mov (t 0)), o 31 (.mov (t 1)), o 32 (.call false (c (.fn 44 [] [])) [(t 30), (t 31)]), o 29 (.mov (t 32)), o 33 (.ext 0 (t 29)), o 34 (.ext 1 (t 29)), o 11 (.mov (t 33)), o 12 (.mov (t 34))])
 (.seq (.ops [o 35 (.call false (c (.fn 35 [] [])) []), o 36 (.mov (t 35)), ⟨some 37, .mov (t 5), some (36, true)⟩, ⟨some 38, .mov (t 7), some (36, true)⟩, ⟨some 39, .eqb false (t 37) (t 38), some (36, true)⟩, o 40 (.pick (t 36) (t 39) (c (.bool false))), o 41 (.mov (t 40)), ⟨some 42, .mov (t 6), some (41, true)⟩, ⟨some 43, .mov (t 8), some (41, true)⟩, ⟨some 44, .bin .eql (t 42) (t 43), some (41, true)⟩, o 45 (.pick (t 41) (t 44) (c (.bool false))), o 46 (.mov (t 45)), ⟨some 47, .mov (t 9), some (46, true)⟩, ⟨some 48, .mov (t 11), some (46, true)⟩, ⟨some 49, .eqb false (t 47) (t 48), some (46, true)⟩, o 50 (.pick (t 46) (t 49) (c (.bool false))), o 51 (.mov (t 50)), ⟨some 52, .mov (t 10), some (51, true)⟩, ⟨some 53, .mov (t 12), some (51, true)⟩, ⟨some 54, .bin .eql (t 52) (t 53), some (51, true)⟩, o 55 (.pick (t 51) (t 54) (c (.bool false))), o 4 (.mov (t 55))])
 .ret))))))⟩
end Go.Proofs.AM
