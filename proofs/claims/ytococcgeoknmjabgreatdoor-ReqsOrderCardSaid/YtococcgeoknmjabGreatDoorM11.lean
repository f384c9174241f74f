/- Part 11 of the lemmas: BPWb, BPXa, BPXb, BPXc, BPOr, BPOs, BGNb. -/
import Derived.Test.YtococcgeoknmjabGreatDoorM07
import Derived.Test.YtococcgeoknmjabGreatDoorProg
import Derived.Shelf.Abstract
import Derived.Test.YtococcgeoknmjabGreatDoorM09
import Derived.WalkKit
import Derived.Test.YtococcgeoknmjabGreatDoorM10
namespace Go.Proofs.AM
open Go Cd
def c10 : Func :=
⟨2, 35, [.tmp 4, .tmp 5],
 (.seq (.ops [o 4 (.mov (c (.sl 6 true []))), o 5 (.mov (c (.int .i64 0)))])
 (.seq (.seq (.ops [o 11 (.mov (t 0)), o 12 (.lenSl (t 11)), o 13 (.mov (t 1)), o 14 (.bin .gtr (t 12) (t 13))])
 (.cond (t 14) (.seq (.ops [o 4 (.mov (c (.sl 6 true []))), o 5 (.mov (c (.int .i64 3)))])
 .ret) .skip))
 (.seq (.ops [o 6 (.mov (c (.sl 6 true [])))])
 (.gh (.tmp 6 99 6 35) (.seq (.seq (.ops [o 15 (.mov (t 0)), o 16 (.lenSl (t 15)), o 17 (.mov (c (.int .i64 0)))])
 (.block 0 (.loop (.seq (.ops [o 18 (.bin .lss (t 17) (t 16))])
 (.seq (.cond (t 18) .skip (.exit 0))
 (.seq (.block 1 (.seq (.ops [o 19 (.iAddrS 4 (t 15) (t 17)), o 20 (.load 4 true (t 19)), o 8 (.alloc [(.str ⟨#[]⟩), (.int .i64 0), (.sl 1 true []), (.int .i64 0)]), w (.store 4 (t 8) (t 20))])
 (.seq (.ops [o 22 (.load 4 true (t 8)), o 23 (.call false (c (.fn 22 [] [])) [(t 22)]), o 21 (.mov (t 23)), o 24 (.ext 0 (t 21)), o 25 (.ext 1 (t 21)), o 9 (.alloc [(.bool false), (.bool false), (.bool false), (.sl 1 true []), (.int .i64 0), (.int .i64 0)]), w (.store 6 (t 9) (t 24)), o 10 (.mov (t 25))])
 (.seq (.seq (.ops [o 26 (.mov (t 10)), o 27 (.bin .neq (t 26) (c (.int .i64 0)))])
 (.cond (t 27) (.seq (.ops [o 28 (.mov (t 10)), o 4 (.mov (c (.sl 6 true []))), o 5 (.mov (t 28))])
 .ret) .skip))
 (.ops [o 29 (.mov (t 6)), o 30 (.load 6 true (t 9)), o 31 (.mkSl false 6 35 (.agg [(.bool false), (.bool false), (.bool false), (.sl 1 true []), (.int .i64 0), (.int .i64 0)]) 1 [(0, (t 30))]), o 32 (.app 6 35 48 (t 29) (t 31)), o 6 (.mov (t 32))])))))
 (.ops [o 33 (.bin .add (t 17) (c (.int .i64 1))), o 17 (.mov (t 33))])))))))
 (.seq (.ops [o 34 (.mov (t 6)), o 4 (.mov (t 34)), o 5 (.mov (c (.int .i64 0)))])
 .ret))))))⟩
def c4 : Func :=
⟨1, 11, [.tmp 2],
 (.seq (.ops [o 2 (.mov (c (.int .i64 0)))])
 (.seq (.ops [o 6 (.mov (t 0)), o 7 (.call false (c (.fn 10 [] [])) [(t 6), (c (.int .i64 8))]), o 5 (.mov (t 7)), o 8 (.ext 0 (t 5)), o 9 (.ext 1 (t 5)), o 3 (.mov (t 8)), o 4 (.mov (t 9))])
 (.seq (.ops [o 10 (.mov (t 4)), o 2 (.mov (t 10))])
 .ret)))⟩
end Go.Proofs.AM
namespace Go.Proofs.AM
open Go Cd
def c6 : Func :=
⟨2, 90, [.tmp 4, .tmp 5],
 (.seq (.ops [o 4 (.mov (c (.bool false))), o 5 (.mov (c (.int .i64 0)))])
 (.seq (.ops [o 18 (.mov (t 0)), o 19 (.call false (c (.fn 10 [] [])) [(t 18), (c (.int .i64 16))]), o 17 (.mov (t 19)), o 20 (.ext 0 (t 17)), o 21 (.ext 1 (t 17)), o 6 (.mov (t 20)), o 7 (.mov (t 21))])
 (.seq (.seq (.ops [o 22 (.mov (t 7)), o 23 (.bin .neq (t 22) (c (.int .i64 0)))])
 (.cond (t 23) (.seq (.ops [o 24 (.mov (t 7)), o 4 (.mov (c (.bool false))), o 5 (.mov (t 24))])
 .ret) .skip))
 (.seq (.ops [o 25 (.mkMap), o 8 (.mov (t 25))])
 (.seq (.seq (.ops [o 26 (.mov (t 1)), o 27 (.lenSl (t 26)), o 28 (.mov (c (.int .i64 0)))])
 (.block 0 (.loop (.seq (.ops [o 29 (.bin .lss (t 28) (t 27))])
 (.seq (.cond (t 29) .skip (.exit 0))
 (.seq (.block 1 (.seq (.ops [o 30 (.iAddrS 2 (t 26) (t 28)), o 31 (.load 2 true (t 30)), o 10 (.alloc [(.str ⟨#[]⟩), (.str ⟨#[]⟩)]), w (.store 2 (t 10) (t 31))])
 (.seq (.seq (.ops [o 32 (.fAddr 0 (t 10)), o 33 (.load 1 false (t 32)), o 34 (.call false (c (.fn 14 [] [])) [(t 33)]), o 35 (.un .not (t 34)), o 36 (.mov (t 35)), ⟨some 37, .fAddr 1 (t 10), some (36, false)⟩, ⟨some 38, .load 1 false (t 37), some (36, false)⟩, ⟨some 39, .call false (c (.fn 15 [] [])) [(t 38)], some (36, false)⟩, ⟨some 40, .un .not (t 39), some (36, false)⟩, o 41 (.pick (t 36) (c (.bool true)) (t 40))])
 (.cond (t 41) (.seq (.ops [o 4 (.mov (c (.bool false))), o 5 (.mov (c (.int .i64 20)))])
 .ret) .skip))
 (.seq (.seq (.ops [o 43 (.mov (t 8)), o 44 (.fAddr 0 (t 10)), o 45 (.load 1 false (t 44)), o 46 (.look (false, [(0, .str)]) (.str ⟨#[]⟩) true (t 43) (t 45)), o 42 (.mov (t 46)), o 47 (.ext 0 (t 42)), o 48 (.ext 1 (t 42)), o 11 (.mov (t 47)), o 12 (.mov (t 48))])
 (.seq (.ops [o 49 (.mov (t 12))])
 (.cond (t 49) (.seq (.ops [o 4 (.mov (c (.bool false))), o 5 (.mov (c (.int .i64 6)))])
 .ret) .skip)))
 (.ops [o 50 (.mov (t 8)), o 51 (.fAddr 0 (t 10)), o 52 (.load 1 false (t 51)), o 53 (.fAddr 1 (t 10)), o 54 (.load 1 false (t 53)), w (.mput (false, [(0, .str)]) (t 50) (t 52) (t 54))])))))
 (.ops [o 55 (.bin .add (t 28) (c (.int .i64 1))), o 28 (.mov (t 55))])))))))
 (.seq (.seq (.ops [o 56 (.mov (t 6)), o 57 (.lenSl (t 56)), o 58 (.mov (c (.int .i64 0)))])
 (.block 2 (.loop (.seq (.ops [o 59 (.bin .lss (t 58) (t 57))])
 (.seq (.cond (t 59) .skip (.exit 2))
 (.seq (.block 3 (.seq (.ops [o 60 (.mov (t 58)), o 61 (.iAddrS 6 (t 56) (t 58)), o 62 (.load 6 true (t 61)), o 14 (.alloc [(.bool false), (.bool false), (.bool false), (.sl 1 true []), (.int .i64 0), (.int .i64 0)]), o 13 (.mov (t 60)), w (.store 6 (t 14) (t 62))])
 (.seq (.ops [o 64 (.mov (t 8)), o 65 (.mov (t 0)), o 66 (.mov (t 13)), o 67 (.iAddrS 4 (t 65) (t 66)), o 68 (.fAddr 0 (t 67)), o 69 (.load 1 false (t 68)), o 70 (.look (false, [(0, .str)]) (.str ⟨#[]⟩) true (t 64) (t 69)), o 63 (.mov (t 70)), o 71 (.ext 0 (t 63)), o 72 (.ext 1 (t 63)), o 15 (.mov (t 71)), o 16 (.mov (t 72))])
 (.seq (.ops [o 73 (.mov (t 16)), o 74 (.mov (t 73)), ⟨some 75, .load 6 true (t 14), some (74, true)⟩, ⟨some 76, .mov (t 15), some (74, true)⟩, ⟨some 77, .call false (c (.fn 16 [] [])) [(t 75), (t 76)], some (74, true)⟩, ⟨some 78, .un .not (t 77), some (74, true)⟩, o 79 (.pick (t 74) (t 78) (c (.bool false))), o 80 (.mov (t 79)), ⟨some 81, .mov (t 16), some (80, false)⟩, ⟨some 82, .un .not (t 81), some (80, false)⟩, ⟨some 83, .mov (t 82), some (80, false)⟩, ⟨some 84, .fAddr 0 (t 14), some (83, true)⟩, ⟨some 85, .load 1 false (t 84), some (83, true)⟩, ⟨some 86, .un .not (t 85), some (83, true)⟩, ⟨some 87, .pick (t 83) (t 86) (c (.bool false)), some (80, false)⟩, o 88 (.pick (t 80) (c (.bool true)) (t 87))])
 (.cond (t 88) (.seq (.ops [o 4 (.mov (c (.bool false))), o 5 (.mov (c (.int .i64 0)))])
 .ret) .skip)))))
 (.ops [o 89 (.bin .add (t 58) (c (.int .i64 1))), o 58 (.mov (t 89))])))))))
 (.seq (.ops [o 4 (.mov (c (.bool true))), o 5 (.mov (c (.int .i64 0)))])
 .ret)))))))⟩
def c12 : Func :=
⟨1, 17, [.tmp 2, .tmp 3],
 (.seq (.ops [o 2 (.mov (c (.bool false))), o 3 (.mov (c (.int .i64 0)))])
 (.seq (.ops [o 7 (.mov (t 0)), o 8 (.call false (c (.fn 8 [] [])) [(t 7)]), o 6 (.mov (t 8)), o 9 (.ext 0 (t 6)), o 10 (.ext 1 (t 6)), o 4 (.mov (t 9)), o 5 (.mov (t 10))])
 (.seq (.seq (.ops [o 11 (.mov (t 5)), o 12 (.bin .neq (t 11) (c (.int .i64 0)))])
 (.cond (t 12) (.seq (.ops [o 13 (.mov (t 5)), o 2 (.mov (c (.bool false))), o 3 (.mov (t 13))])
 .ret) .skip))
 (.seq (.ops [o 14 (.mov (t 4)), o 15 (.call false (c (.fn 23 [] [])) [(t 14), (c (.fn 24 [] []))]), o 16 (.un .not (t 15)), o 2 (.mov (t 16)), o 3 (.mov (c (.int .i64 0)))])
 .ret))))⟩
def c13 : Func :=
⟨2, 25, [.tmp 4, .tmp 5],
 (.seq (.ops [o 4 (.mov (c (.bool false))), o 5 (.mov (c (.int .i64 0)))])
 (.seq (.seq (.ops [o 8 (.mov (t 0)), o 9 (.call false (c (.fn 4 [] [])) [(t 8)]), o 6 (.mov (t 9))])
 (.seq (.ops [o 10 (.mov (t 6)), o 11 (.bin .neq (t 10) (c (.int .i64 0)))])
 (.cond (t 11) (.seq (.ops [o 12 (.mov (t 6)), o 4 (.mov (c (.bool false))), o 5 (.mov (t 12))])
 .ret) .skip)))
 (.seq (.seq (.ops [o 13 (.mov (t 1)), o 14 (.call false (c (.fn 4 [] [])) [(t 13)]), o 7 (.mov (t 14))])
 (.seq (.ops [o 15 (.mov (t 7)), o 16 (.bin .neq (t 15) (c (.int .i64 0)))])
 (.cond (t 16) (.seq (.ops [o 17 (.mov (t 7)), o 4 (.mov (c (.bool false))), o 5 (.mov (t 17))])
 .ret) .skip)))
 (.seq (.ops [o 18 (.mov (t 0)), o 19 (.mov (t 1)), o 20 (.mkSl false 1 22 (.sl 4 true []) 2 [(0, (t 18)), (1, (t 19))]), o 21 (.call false (c (.fn 26 [] [])) [(t 20)]), o 22 (.call false (c (.fn 12 [] [])) [(t 21)]), o 23 (.ext 0 (t 22)), o 24 (.ext 1 (t 22)), o 4 (.mov (t 23)), o 5 (.mov (t 24))])
 .ret))))⟩
def c19 : Func :=
⟨2, 10, [.tmp 4],
 (.seq (.ops [o 2 (.box (t 0)), o 3 (.box (t 1)), o 4 (.mov (c (.int .i64 0)))])
 (.seq (.ops [o 5 (.fAddr 0 (t 2)), o 6 (.load 1 false (t 5)), o 7 (.fAddr 0 (t 3)), o 8 (.load 1 false (t 7)), o 9 (.call false (c (.fn 20 [] [])) [(t 6), (t 8)]), o 4 (.mov (t 9))])
 .ret))⟩
def c23 : Func :=
⟨2, 9, [.tmp 4],
 (.seq (.ops [o 4 (.mov (c (.bool false)))])
 (.seq (.ops [o 5 (.mov (t 0)), o 6 (.mov (t 1)), o 7 (.call false (c (.fn 37 [] [])) [(t 5), (t 6)]), o 8 (.bin .geq (t 7) (c (.int .i64 0))), o 4 (.mov (t 8))])
 .ret))⟩
def c24 : Func :=
⟨1, 6, [.tmp 2],
 (.seq (.ops [o 1 (.box (t 0)), o 2 (.mov (c (.bool false)))])
 (.seq (.ops [o 3 (.fAddr 1 (t 1)), o 4 (.load 6 true (t 3)), o 5 (.call false (c (.fn 25 [] [])) [(t 4)]), o 2 (.mov (t 5))])
 .ret))⟩
def c37 : Func :=
⟨2, 19, [.tmp 4],
 (.seq (.ops [o 4 (.mov (c (.int .i64 0)))])
 (.seq (.seq (.ops [o 6 (.mov (t 0)), o 7 (.lenSl (t 6)), o 8 (.mov (c (.int .i64 0)))])
 (.block 0 (.loop (.seq (.ops [o 9 (.bin .lss (t 8) (t 7))])
 (.seq (.cond (t 9) .skip (.exit 0))
 (.seq (.block 1 (.seq (.ops [o 10 (.mov (t 8)), o 5 (.mov (t 10))])
 (.seq (.ops [o 11 (.mov (t 1)), o 12 (.mov (t 0)), o 13 (.mov (t 5)), o 14 (.iAddrS 7 (t 12) (t 13)), o 15 (.load 7 true (t 14)), o 16 (.call false (t 11) [(t 15)])])
 (.cond (t 16) (.seq (.ops [o 17 (.mov (t 5)), o 4 (.mov (t 17))])
 .ret) .skip))))
 (.ops [o 18 (.bin .add (t 8) (c (.int .i64 1))), o 8 (.mov (t 18))])))))))
 (.seq (.ops [o 4 (.mov (c (.int .i64 (-1))))])
 .ret)))⟩
end Go.Proofs.AM
namespace Go.Proofs.AM
open Go Cd
def c8 : Func :=
⟨1, 74, [.tmp 2, .tmp 3],
 (.seq (.ops [o 2 (.mov (c (.sl 7 true []))), o 3 (.mov (c (.int .i64 0)))])
 (.seq (.ops [o 15 (.mov (t 0)), o 16 (.call false (c (.fn 10 [] [])) [(t 15), (c (.int .i64 16))]), o 14 (.mov (t 16)), o 17 (.ext 0 (t 14)), o 18 (.ext 1 (t 14)), o 4 (.mov (t 17)), o 5 (.mov (t 18))])
 (.seq (.seq (.ops [o 19 (.mov (t 5)), o 20 (.bin .neq (t 19) (c (.int .i64 0)))])
 (.cond (t 20) (.seq (.ops [o 21 (.mov (t 5)), o 2 (.mov (c (.sl 7 true []))), o 3 (.mov (t 21))])
 .ret) .skip))
 (.seq (.ops [o 22 (.mkMap), o 6 (.mov (t 22))])
 (.seq (.seq (.ops [o 23 (.mov (t 4)), o 24 (.lenSl (t 23)), o 25 (.mov (c (.int .i64 0)))])
 (.block 0 (.loop (.seq (.ops [o 26 (.bin .lss (t 25) (t 24))])
 (.seq (.cond (t 26) .skip (.exit 0))
 (.seq (.block 1 (.seq (.ops [o 27 (.mov (t 25)), o 28 (.iAddrS 6 (t 23) (t 25)), o 29 (.load 6 true (t 28)), o 8 (.alloc [(.bool false), (.bool false), (.bool false), (.sl 1 true []), (.int .i64 0), (.int .i64 0)]), o 7 (.mov (t 27)), w (.store 6 (t 8) (t 29))])
 (.seq (.seq (.ops [o 31 (.mov (t 6)), o 32 (.mov (t 0)), o 33 (.mov (t 7)), o 34 (.iAddrS 4 (t 32) (t 33)), o 35 (.fAddr 0 (t 34)), o 36 (.load 1 false (t 35)), o 37 (.look (false, [(0, .str)]) (.agg [(.bool false), (.bool false), (.bool false), (.sl 1 true []), (.int .i64 0), (.int .i64 0)]) true (t 31) (t 36)), o 30 (.mov (t 37)), o 38 (.ext 0 (t 30)), o 39 (.ext 1 (t 30)), o 9 (.alloc [(.bool false), (.bool false), (.bool false), (.sl 1 true []), (.int .i64 0), (.int .i64 0)]), w (.store 6 (t 9) (t 38)), o 10 (.mov (t 39))])
 (.seq (.ops [o 40 (.mov (t 10))])
 (.cond (t 40) (.seq (.ops [o 42 (.load 6 true (t 9)), o 43 (.load 6 true (t 8)), o 44 (.call false (c (.fn 17 [] [])) [(t 42), (t 43)]), o 41 (.mov (t 44)), o 45 (.ext 0 (t 41)), o 46 (.ext 1 (t 41)), w (.store 6 (t 8) (t 45)), o 5 (.mov (t 46))])
 (.seq (.ops [o 47 (.mov (t 5)), o 48 (.bin .neq (t 47) (c (.int .i64 0)))])
 (.cond (t 48) (.seq (.ops [o 49 (.mov (t 5)), o 2 (.mov (c (.sl 7 true []))), o 3 (.mov (t 49))])
 .ret) .skip))) .skip)))
 (.ops [o 50 (.mov (t 6)), o 51 (.mov (t 0)), o 52 (.mov (t 7)), o 53 (.iAddrS 4 (t 51) (t 52)), o 54 (.fAddr 0 (t 53)), o 55 (.load 1 false (t 54)), o 56 (.load 6 true (t 8)), w (.mput (false, [(0, .str)]) (t 50) (t 55) (t 56))]))))
 (.ops [o 57 (.bin .add (t 25) (c (.int .i64 1))), o 25 (.mov (t 57))])))))))
 (.seq (.ops [o 11 (.mov (c (.sl 7 true [])))])
 (.gh (.tmp 11 99 7 37) (.seq (.seq (.ops [o 58 (.mov (t 6)), o 59 (.mkIter (t 58))])
 (.block 2 (.loop (.seq (.ops [o 60 (.next (t 59)), o 61 (.ext 0 (t 60))])
 (.seq (.cond (t 61) .skip (.exit 2))
 (.block 3 (.seq (.ops [o 62 (.entry (t 59)), o 63 (.ext 0 (t 62)), o 64 (.ext 1 (t 62)), o 13 (.alloc [(.bool false), (.bool false), (.bool false), (.sl 1 true []), (.int .i64 0), (.int .i64 0)]), o 12 (.mov (t 63)), w (.store 6 (t 13) (t 64))])
 (.ops [o 65 (.mov (t 11)), o 66 (.mov (t 12)), o 67 (.load 6 true (t 13)), o 68 (.build [(.str ⟨#[]⟩), (.bool false), (.bool false), (.bool false), (.sl 1 true []), (.int .i64 0), (.int .i64 0)] [(0, 1, (t 66)), (1, 6, (t 67))]), o 69 (.mkSl false 7 37 (.agg [(.str ⟨#[]⟩), (.bool false), (.bool false), (.bool false), (.sl 1 true []), (.int .i64 0), (.int .i64 0)]) 1 [(0, (t 68))]), o 70 (.app 7 37 64 (t 65) (t 69)), o 11 (.mov (t 70))]))))))))
 (.seq (.ops [o 71 (.mov (t 11)), o 72 (.icall (c (.fn 18 [] [])) [(t 71), (c (.fn 19 [] []))])])
 (.seq (.ops [o 73 (.mov (t 11)), o 2 (.mov (t 73)), o 3 (.mov (c (.int .i64 0)))])
 .ret))))))))))⟩
end Go.Proofs.AM
namespace Go.Proofs.AM
open Go Cd
def c26 : Func :=
⟨1, 36, [.tmp 2],
 (.seq (.ops [o 2 (.mov (c (.sl 4 true [])))])
 (.seq (.ops [o 3 (.mov (c (.int .i64 0)))])
 (.seq (.seq (.ops [o 9 (.mov (t 0)), o 10 (.lenSl (t 9)), o 11 (.mov (c (.int .i64 0)))])
 (.block 0 (.loop (.seq (.ops [o 12 (.bin .lss (t 11) (t 10))])
 (.seq (.cond (t 12) .skip (.exit 0))
 (.seq (.block 1 (.seq (.ops [o 13 (.iAddrS 1 (t 9) (t 11)), o 14 (.load 1 false (t 13)), o 5 (.mov (t 14))])
 (.seq (.ops [o 15 (.mov (t 3)), o 16 (.mov (t 5)), o 17 (.lenSl (t 16)), o 18 (.bin .add (t 15) (t 17)), o 3 (.mov (t 18))])
 (.seq (.ops [o 19 (.mov (t 3)), o 20 (.bin .lss (t 19) (c (.int .i64 0)))])
 (.cond (t 20) (.ops [o 21 (.mki 9 (c (.str ⟨#[108, 101, 110, 32, 111, 117, 116, 32, 111, 102, 32, 114, 97, 110, 103, 101]⟩))), w (.lenStr (c .junk))]) .skip)))))
 (.ops [o 22 (.bin .add (t 11) (c (.int .i64 1))), o 11 (.mov (t 22))])))))))
 (.seq (.ops [o 23 (.mov (t 3)), o 24 (.icall (c (.fn 38 [] [])) [(c (.sl 4 true [])), (t 23)]), o 6 (.mov (t 24))])
 (.seq (.seq (.ops [o 25 (.mov (t 0)), o 26 (.lenSl (t 25)), o 27 (.mov (c (.int .i64 0)))])
 (.block 2 (.loop (.seq (.ops [o 28 (.bin .lss (t 27) (t 26))])
 (.seq (.cond (t 28) .skip (.exit 2))
 (.seq (.block 3 (.seq (.ops [o 29 (.iAddrS 1 (t 25) (t 27)), o 30 (.load 1 false (t 29)), o 8 (.mov (t 30))])
 (.ops [o 31 (.mov (t 6)), o 32 (.mov (t 8)), o 33 (.app 4 44 56 (t 31) (t 32)), o 6 (.mov (t 33))])))
 (.ops [o 34 (.bin .add (t 27) (c (.int .i64 1))), o 27 (.mov (t 34))])))))))
 (.seq (.ops [o 35 (.mov (t 6)), o 2 (.mov (t 35))])
 .ret))))))⟩
def c11 : Func :=
⟨4, 14, [.cell 8 4 true],
 (.seq (.ops [o 8 (.alloc [(.str ⟨#[]⟩), (.int .i64 0), (.sl 1 true []), (.int .i64 0)])])
 (.seq (.ops [o 9 (.mov (t 0)), o 10 (.mov (t 1)), o 11 (.mov (t 2)), o 12 (.mov (t 3)), o 13 (.build [(.str ⟨#[]⟩), (.int .i64 0), (.sl 1 true []), (.int .i64 0)] [(0, 1, (t 9)), (1, 1, (t 10)), (3, 1, (t 11)), (2, 1, (t 12))]), w (.store 4 (t 8) (t 13))])
 .ret))⟩
def c5 : Func :=
⟨0, 110, [.tmp 0],
 (.seq (.ops [o 0 (.mov (c (.bool false)))])
 (.seq (.ops [o 12 (.mkSl false 1 9 (.str ⟨#[]⟩) 3 [(0, (c (.str ⟨#[97]⟩))), (1, (c (.str ⟨#[98]⟩))), (2, (c (.str ⟨#[99]⟩)))]), o 13 (.call false (c (.fn 11 [] [])) [(c (.str ⟨#[122, 111, 110, 101]⟩)), (c (.int .i64 1)), (c (.int .i64 0)), (t 12)]), o 14 (.mkSl false 1 9 (.str ⟨#[]⟩) 1 [(0, (c (.str ⟨#[98]⟩)))]), o 15 (.call false (c (.fn 11 [] [])) [(c (.str ⟨#[122, 111, 110, 101]⟩)), (c (.int .i64 2)), (c (.int .i64 0)), (t 14)]), o 16 (.call false (c (.fn 11 [] [])) [(c (.str ⟨#[103, 101, 110]⟩)), (c (.int .i64 5)), (c (.int .i64 3)), (c (.sl 1 true []))]), o 17 (.mkSl false 4 44 (.agg [(.str ⟨#[]⟩), (.int .i64 0), (.sl 1 true []), (.int .i64 0)]) 3 [(0, (t 13)), (1, (t 15)), (2, (t 16))]), o 1 (.mov (t 17))])
 (.seq (.ops [o 19 (.mov (t 1)), o 20 (.call false (c (.fn 8 [] [])) [(t 19)]), o 18 (.mov (t 20)), o 21 (.ext 0 (t 18)), o 22 (.ext 1 (t 18)), o 2 (.mov (t 21)), o 3 (.mov (t 22))])
 (.seq (.seq (.ops [o 23 (.mov (t 3)), o 24 (.bin .neq (t 23) (c (.int .i64 0))), o 25 (.mov (t 24)), ⟨some 26, .mov (t 2), some (25, false)⟩, ⟨some 27, .lenSl (t 26), some (25, false)⟩, ⟨some 28, .bin .neq (t 27) (c (.int .i64 2)), some (25, false)⟩, o 29 (.pick (t 25) (c (.bool true)) (t 28)), o 30 (.mov (t 29)), ⟨some 31, .mov (t 2), some (30, false)⟩, ⟨some 32, .iAddrS 7 (t 31) (c (.int .i64 0)), some (30, false)⟩, ⟨some 33, .fAddr 0 (t 32), some (30, false)⟩, ⟨some 34, .load 1 false (t 33), some (30, false)⟩, ⟨some 35, .bin .neq (t 34) (c (.str ⟨#[103, 101, 110]⟩)), some (30, false)⟩, o 36 (.pick (t 30) (c (.bool true)) (t 35)), o 37 (.mov (t 36)), ⟨some 38, .mov (t 2), some (37, false)⟩, ⟨some 39, .iAddrS 7 (t 38) (c (.int .i64 1)), some (37, false)⟩, ⟨some 40, .fAddr 0 (t 39), some (37, false)⟩, ⟨some 41, .load 1 false (t 40), some (37, false)⟩, ⟨some 42, .bin .neq (t 41) (c (.str ⟨#[122, 111, 110, 101]⟩)), some (37, false)⟩, o 43 (.pick (t 37) (c (.bool true)) (t 42)), o 44 (.mov (t 43)), ⟨some 45, .mov (t 2), some (44, false)⟩, ⟨some 46, .iAddrS 7 (t 45) (c (.int .i64 1)), some (44, false)⟩, ⟨some 47, .fAddr 1 (t 46), some (44, false)⟩, ⟨some 48, .fAddr 3 (t 47), some (44, false)⟩, ⟨some 49, .load 1 false (t 48), some (44, false)⟩, ⟨some 50, .lenSl (t 49), some (44, false)⟩, ⟨some 51, .bin .neq (t 50) (c (.int .i64 2)), some (44, false)⟩, o 52 (.pick (t 44) (c (.bool true)) (t 51))])
 (.cond (t 52) (.seq (.ops [o 0 (.mov (c (.bool false)))])
 .ret) .skip))
 (.seq (.ops [o 54 (.mov (t 1)), o 55 (.build [(.str ⟨#[]⟩), (.str ⟨#[]⟩)] [(0, 1, (c (.str ⟨#[122, 111, 110, 101]⟩))), (1, 1, (c (.str ⟨#[97]⟩)))]), o 56 (.build [(.str ⟨#[]⟩), (.str ⟨#[]⟩)] [(0, 1, (c (.str ⟨#[103, 101, 110]⟩))), (1, 1, (c (.str ⟨#[53]⟩)))]), o 57 (.mkSl false 2 47 (.agg [(.str ⟨#[]⟩), (.str ⟨#[]⟩)]) 2 [(0, (t 55)), (1, (t 56))]), o 58 (.call false (c (.fn 6 [] [])) [(t 54), (t 57)]), o 53 (.mov (t 58)), o 59 (.ext 0 (t 53)), o 60 (.ext 1 (t 53)), o 4 (.mov (t 59)), o 5 (.mov (t 60))])
 (.seq (.ops [o 62 (.mov (t 1)), o 63 (.build [(.str ⟨#[]⟩), (.str ⟨#[]⟩)] [(0, 1, (c (.str ⟨#[122, 111, 110, 101]⟩))), (1, 1, (c (.str ⟨#[97]⟩)))]), o 64 (.mkSl false 2 47 (.agg [(.str ⟨#[]⟩), (.str ⟨#[]⟩)]) 1 [(0, (t 63))]), o 65 (.call false (c (.fn 6 [] [])) [(t 62), (t 64)]), o 61 (.mov (t 65)), o 66 (.ext 0 (t 61)), o 67 (.ext 1 (t 61)), o 6 (.mov (t 66)), o 7 (.mov (t 67))])
 (.seq (.ops [o 69 (.mkSl false 1 9 (.str ⟨#[]⟩) 1 [(0, (c (.str ⟨#[97]⟩)))]), o 70 (.call false (c (.fn 11 [] [])) [(c (.str ⟨#[122, 111, 110, 101]⟩)), (c (.int .i64 1)), (c (.int .i64 0)), (t 69)]), o 71 (.mkSl false 1 9 (.str ⟨#[]⟩) 1 [(0, (c (.str ⟨#[98]⟩)))]), o 72 (.call false (c (.fn 11 [] [])) [(c (.str ⟨#[122, 111, 110, 101]⟩)), (c (.int .i64 1)), (c (.int .i64 0)), (t 71)]), o 73 (.mkSl false 4 44 (.agg [(.str ⟨#[]⟩), (.int .i64 0), (.sl 1 true []), (.int .i64 0)]) 2 [(0, (t 70)), (1, (t 72))]), o 74 (.call false (c (.fn 12 [] [])) [(t 73)]), o 68 (.mov (t 74)), o 75 (.ext 0 (t 68)), o 76 (.ext 1 (t 68)), o 8 (.mov (t 75)), o 9 (.mov (t 76))])
 (.seq (.ops [o 78 (.mov (t 1)), o 79 (.call false (c (.fn 13 [] [])) [(t 78), (c (.sl 4 true []))]), o 77 (.mov (t 79)), o 80 (.ext 0 (t 77)), o 81 (.ext 1 (t 77)), o 10 (.mov (t 80)), o 11 (.mov (t 81))])
 (.seq (.ops [o 82 (.mov (t 4)), o 83 (.mov (t 82)), ⟨some 84, .mov (t 6), some (83, true)⟩, ⟨some 85, .un .not (t 84), some (83, true)⟩, o 86 (.pick (t 83) (t 85) (c (.bool false))), o 87 (.mov (t 86)), ⟨some 88, .mov (t 8), some (87, true)⟩, ⟨some 89, .un .not (t 88), some (87, true)⟩, o 90 (.pick (t 87) (t 89) (c (.bool false))), o 91 (.mov (t 90)), ⟨some 92, .mov (t 10), some (91, true)⟩, o 93 (.pick (t 91) (t 92) (c (.bool false))), o 94 (.mov (t 93)), ⟨some 95, .mov (t 5), some (94, true)⟩, ⟨some 96, .bin .eql (t 95) (c (.int .i64 0)), some (94, true)⟩, o 97 (.pick (t 94) (t 96) (c (.bool false))), o 98 (.mov (t 97)), ⟨some 99, .mov (t 7), some (98, true)⟩, ⟨some 100, .bin .eql (t 99) (c (.int .i64 0)), some (98, true)⟩, o 101 (.pick (t 98) (t 100) (c (.bool false))), o 102 (.mov (t 101)), ⟨some 103, .mov (t 9), some (102, true)⟩, ⟨some 104, .bin .eql (t 103) (c (.int .i64 0)), some (102, true)⟩, o 105 (.pick (t 102) (t 104) (c (.bool false))), o 106 (.mov (t 105)), ⟨some 107, .mov (t 11), some (106, true)⟩, ⟨some 108, .bin .eql (t 107) (c (.int .i64 0)), some (106, true)⟩, o 109 (.pick (t 106) (t 108) (c (.bool false))), o 0 (.mov (t 109))])
 .ret)))))))))⟩
end Go.Proofs.AM
namespace Go.Proofs.AM
open Go Cd
def c7 : Func :=
⟨1, 22, [.tmp 2],
 (.seq (.ops [o 2 (.mov (c (.sl 4 true [])))])
 (.seq (.ops [o 3 (.mov (c (.sl 4 true [])))])
 (.gh (.tmp 3 18 4 44) (.seq (.seq (.ops [o 5 (.mov (t 0)), o 6 (.lenSl (t 5)), o 7 (.bin .sub (t 6) (c (.int .i64 1))), o 4 (.mov (t 7))])
 (.block 0 (.loop (.seq (.seq (.ops [o 8 (.mov (t 4)), o 9 (.bin .geq (t 8) (c (.int .i64 0)))])
 (.cond (t 9) .skip (.exit 0)))
 (.seq (.block 1 (.ops [o 12 (.mov (t 3)), o 13 (.mov (t 0)), o 14 (.mov (t 4)), o 15 (.iAddrS 4 (t 13) (t 14)), o 16 (.load 4 true (t 15)), o 17 (.mkSl false 4 44 (.agg [(.str ⟨#[]⟩), (.int .i64 0), (.sl 1 true []), (.int .i64 0)]) 1 [(0, (t 16))]), o 18 (.app 4 44 56 (t 12) (t 17)), o 3 (.mov (t 18))]))
 (.ops [o 10 (.mov (t 4)), o 11 (.bin .sub (t 10) (c (.int .i64 1))), o 4 (.mov (t 11))]))))))
 (.seq (.ops [o 19 (.mov (t 3)), o 20 (.mov (t 0)), o 21 (.app 4 44 56 (t 19) (t 20)), o 2 (.mov (t 21))])
 .ret)))))⟩
def c3 : Func :=
⟨3, 137, [.tmp 6],
 (.seq (.ops [o 6 (.mov (c (.bool false)))])
 (.seq (.seq (.ops [o 20 (.mov (t 0)), o 21 (.call false (c (.fn 4 [] [])) [(t 20)]), o 22 (.bin .neq (t 21) (c (.int .i64 0))), o 23 (.mov (t 22)), ⟨some 24, .mov (t 1), some (23, false)⟩, ⟨some 25, .call false (c (.fn 4 [] [])) [(t 24)], some (23, false)⟩, ⟨some 26, .bin .neq (t 25) (c (.int .i64 0)), some (23, false)⟩, o 27 (.pick (t 23) (c (.bool true)) (t 26))])
 (.cond (t 27) (.seq (.ops [o 28 (.call false (c (.fn 5 [] [])) []), o 6 (.mov (t 28))])
 .ret) .skip))
 (.seq (.ops [o 30 (.mov (t 0)), o 31 (.mov (t 2)), o 32 (.call false (c (.fn 6 [] [])) [(t 30), (t 31)]), o 29 (.mov (t 32)), o 33 (.ext 0 (t 29)), o 34 (.ext 1 (t 29)), o 7 (.mov (t 33)), o 8 (.mov (t 34))])
 (.seq (.ops [o 36 (.mov (t 0)), o 37 (.call false (c (.fn 7 [] [])) [(t 36)]), o 38 (.mov (t 2)), o 39 (.call false (c (.fn 6 [] [])) [(t 37), (t 38)]), o 35 (.mov (t 39)), o 40 (.ext 0 (t 35)), o 41 (.ext 1 (t 35)), o 9 (.mov (t 40)), o 10 (.mov (t 41))])
 (.seq (.ops [o 43 (.mov (t 1)), o 44 (.mov (t 2)), o 45 (.call false (c (.fn 6 [] [])) [(t 43), (t 44)]), o 42 (.mov (t 45)), o 46 (.ext 0 (t 42)), o 47 (.ext 1 (t 42)), o 11 (.mov (t 46)), o 12 (.mov (t 47))])
 (.seq (.ops [o 49 (.mkSl false 4 44 (.agg [(.str ⟨#[]⟩), (.int .i64 0), (.sl 1 true []), (.int .i64 0)]) 0 []), o 50 (.mov (t 0)), o 51 (.app 4 44 56 (t 49) (t 50)), o 52 (.mov (t 1)), o 53 (.app 4 44 56 (t 51) (t 52)), o 54 (.mov (t 2)), o 55 (.call false (c (.fn 6 [] [])) [(t 53), (t 54)]), o 48 (.mov (t 55)), o 56 (.ext 0 (t 48)), o 57 (.ext 1 (t 48)), o 13 (.mov (t 56)), o 14 (.mov (t 57))])
 (.seq (.seq (.ops [o 58 (.mov (t 8)), o 59 (.mov (t 10)), o 60 (.bin .neq (t 58) (t 59)), o 61 (.mov (t 60)), ⟨some 62, .mov (t 8), some (61, false)⟩, ⟨some 63, .mov (t 12), some (61, false)⟩, ⟨some 64, .bin .neq (t 62) (t 63), some (61, false)⟩, o 65 (.pick (t 61) (c (.bool true)) (t 64)), o 66 (.mov (t 65)), ⟨some 67, .mov (t 8), some (66, false)⟩, ⟨some 68, .mov (t 14), some (66, false)⟩, ⟨some 69, .bin .neq (t 67) (t 68), some (66, false)⟩, o 70 (.pick (t 66) (c (.bool true)) (t 69)), o 71 (.mov (t 70)), ⟨some 72, .mov (t 7), some (71, false)⟩, ⟨some 73, .mov (t 9), some (71, false)⟩, ⟨some 74, .eqb true (t 72) (t 73), some (71, false)⟩, o 75 (.pick (t 71) (c (.bool true)) (t 74)), o 76 (.mov (t 75)), ⟨some 77, .mov (t 13), some (76, false)⟩, ⟨some 78, .mov (t 7), some (76, false)⟩, ⟨some 79, .mov (t 78), some (76, false)⟩, ⟨some 80, .mov (t 11), some (79, true)⟩, ⟨some 81, .pick (t 79) (t 80) (c (.bool false)), some (76, false)⟩, ⟨some 82, .eqb true (t 77) (t 81), some (76, false)⟩, o 83 (.pick (t 76) (c (.bool true)) (t 82))])
 (.cond (t 83) (.seq (.ops [o 6 (.mov (c (.bool false)))])
 .ret) .skip))
 (.seq (.ops [o 85 (.mov (t 0)), o 86 (.call false (c (.fn 8 [] [])) [(t 85)]), o 84 (.mov (t 86)), o 87 (.ext 0 (t 84)), o 88 (.ext 1 (t 84)), o 15 (.mov (t 87)), o 16 (.mov (t 88))])
 (.seq (.ops [o 90 (.mov (t 0)), o 91 (.call false (c (.fn 7 [] [])) [(t 90)]), o 92 (.call false (c (.fn 8 [] [])) [(t 91)]), o 89 (.mov (t 92)), o 93 (.ext 0 (t 89)), o 94 (.ext 1 (t 89)), o 17 (.mov (t 93)), o 18 (.mov (t 94))])
 (.seq (.seq (.ops [o 95 (.mov (t 16)), o 96 (.mov (t 18)), o 97 (.bin .neq (t 95) (t 96)), o 98 (.mov (t 97)), ⟨some 99, .mov (t 15), some (98, false)⟩, ⟨some 100, .lenSl (t 99), some (98, false)⟩, ⟨some 101, .mov (t 17), some (98, false)⟩, ⟨some 102, .lenSl (t 101), some (98, false)⟩, ⟨some 103, .bin .neq (t 100) (t 102), some (98, false)⟩, o 104 (.pick (t 98) (c (.bool true)) (t 103))])
 (.cond (t 104) (.seq (.ops [o 6 (.mov (c (.bool false)))])
 .ret) .skip))
 (.seq (.seq (.ops [o 19 (.mov (c (.int .i64 0)))])
 (.block 0 (.loop (.seq (.seq (.ops [o 105 (.mov (t 19)), o 106 (.mov (t 15)), o 107 (.lenSl (t 106)), o 108 (.bin .lss (t 105) (t 107))])
 (.cond (t 108) .skip (.exit 0)))
 (.seq (.block 1 (.seq (.ops [o 111 (.mov (t 15)), o 112 (.mov (t 19)), o 113 (.iAddrS 7 (t 111) (t 112)), o 114 (.fAddr 0 (t 113)), o 115 (.load 1 false (t 114)), o 116 (.mov (t 17)), o 117 (.mov (t 19)), o 118 (.iAddrS 7 (t 116) (t 117)), o 119 (.fAddr 0 (t 118)), o 120 (.load 1 false (t 119)), o 121 (.bin .neq (t 115) (t 120)), o 122 (.mov (t 121)), ⟨some 123, .mov (t 15), some (122, false)⟩, ⟨some 124, .mov (t 19), some (122, false)⟩, ⟨some 125, .iAddrS 7 (t 123) (t 124), some (122, false)⟩, ⟨some 126, .fAddr 1 (t 125), some (122, false)⟩, ⟨some 127, .load 6 true (t 126), some (122, false)⟩, ⟨some 128, .mov (t 17), some (122, false)⟩, ⟨some 129, .mov (t 19), some (122, false)⟩, ⟨some 130, .iAddrS 7 (t 128) (t 129), some (122, false)⟩, ⟨some 131, .fAddr 1 (t 130), some (122, false)⟩, ⟨some 132, .load 6 true (t 131), some (122, false)⟩, ⟨some 133, .call true (c (.fn 9 [] [])) [(t 127), (t 132)], some (122, false)⟩, ⟨some 134, .un .not (t 133), some (122, false)⟩, o 135 (.pick (t 122) (c (.bool true)) (t 134))])
 (.cond (t 135) (.seq (.ops [o 6 (.mov (c (.bool false)))])
 .ret) .skip)))
 (.ops [o 109 (.mov (t 19)), o 110 (.bin .add (t 109) (c (.int .i64 1))), o 19 (.mov (t 110))]))))))
 (.seq (.ops [o 136 (.call false (c (.fn 5 [] [])) []), o 6 (.mov (t 136))])
 .ret))))))))))))⟩
end Go.Proofs.AM
namespace Go.Proofs.AM
open Go Cd
def c9 : Func :=
⟨2, 45, [.tmp 4],
 (.seq (.ops [o 2 (.box (t 0)), o 3 (.box (t 1)), o 4 (.mov (c (.bool false)))])
 (.seq (.ops [o 5 (.fAddr 0 (t 2)), o 6 (.load 1 false (t 5)), o 7 (.fAddr 0 (t 3)), o 8 (.load 1 false (t 7)), o 9 (.eqb false (t 6) (t 8)), o 10 (.mov (t 9)), ⟨some 11, .fAddr 1 (t 2), some (10, true)⟩, ⟨some 12, .load 1 false (t 11), some (10, true)⟩, ⟨some 13, .fAddr 1 (t 3), some (10, true)⟩, ⟨some 14, .load 1 false (t 13), some (10, true)⟩, ⟨some 15, .eqb false (t 12) (t 14), some (10, true)⟩, o 16 (.pick (t 10) (t 15) (c (.bool false))), o 17 (.mov (t 16)), ⟨some 18, .fAddr 2 (t 2), some (17, true)⟩, ⟨some 19, .load 1 false (t 18), some (17, true)⟩, ⟨some 20, .fAddr 2 (t 3), some (17, true)⟩, ⟨some 21, .load 1 false (t 20), some (17, true)⟩, ⟨some 22, .eqb false (t 19) (t 21), some (17, true)⟩, o 23 (.pick (t 17) (t 22) (c (.bool false))), o 24 (.mov (t 23)), ⟨some 25, .fAddr 4 (t 2), some (24, true)⟩, ⟨some 26, .load 1 false (t 25), some (24, true)⟩, ⟨some 27, .fAddr 4 (t 3), some (24, true)⟩, ⟨some 28, .load 1 false (t 27), some (24, true)⟩, ⟨some 29, .bin .eql (t 26) (t 28), some (24, true)⟩, o 30 (.pick (t 24) (t 29) (c (.bool false))), o 31 (.mov (t 30)), ⟨some 32, .fAddr 5 (t 2), some (31, true)⟩, ⟨some 33, .load 1 false (t 32), some (31, true)⟩, ⟨some 34, .fAddr 5 (t 3), some (31, true)⟩, ⟨some 35, .load 1 false (t 34), some (31, true)⟩, ⟨some 36, .bin .eql (t 33) (t 35), some (31, true)⟩, o 37 (.pick (t 31) (t 36) (c (.bool false))), o 38 (.mov (t 37)), ⟨some 39, .fAddr 3 (t 2), some (38, true)⟩, ⟨some 40, .load 1 false (t 39), some (38, true)⟩, ⟨some 41, .fAddr 3 (t 3), some (38, true)⟩, ⟨some 42, .load 1 false (t 41), some (38, true)⟩, ⟨some 43, .call false (c (.fn 21 [] [])) [(t 40), (t 42)], some (38, true)⟩, o 44 (.pick (t 38) (t 43) (c (.bool false))), o 4 (.mov (t 44))])
 .ret))⟩
def c21 : Func :=
⟨2, 26, [.tmp 4],
 (.seq (.ops [o 4 (.mov (c (.bool false)))])
 (.seq (.seq (.ops [o 6 (.mov (t 0)), o 7 (.lenSl (t 6)), o 8 (.mov (t 1)), o 9 (.lenSl (t 8)), o 10 (.bin .neq (t 7) (t 9))])
 (.cond (t 10) (.seq (.ops [o 4 (.mov (c (.bool false)))])
 .ret) .skip))
 (.seq (.seq (.ops [o 11 (.mov (t 0)), o 12 (.lenSl (t 11)), o 13 (.mov (c (.int .i64 0)))])
 (.block 0 (.loop (.seq (.ops [o 14 (.bin .lss (t 13) (t 12))])
 (.seq (.cond (t 14) .skip (.exit 0))
 (.seq (.block 1 (.seq (.ops [o 15 (.mov (t 13)), o 5 (.mov (t 15))])
 (.seq (.ops [o 16 (.mov (t 0)), o 17 (.mov (t 5)), o 18 (.iAddrS 1 (t 16) (t 17)), o 19 (.load 1 false (t 18)), o 20 (.mov (t 1)), o 21 (.mov (t 5)), o 22 (.iAddrS 1 (t 20) (t 21)), o 23 (.load 1 false (t 22)), o 24 (.bin .neq (t 19) (t 23))])
 (.cond (t 24) (.seq (.ops [o 4 (.mov (c (.bool false)))])
 .ret) .skip))))
 (.ops [o 25 (.bin .add (t 13) (c (.int .i64 1))), o 13 (.mov (t 25))])))))))
 (.seq (.ops [o 4 (.mov (c (.bool true)))])
 .ret))))⟩
end Go.Proofs.AM
namespace Go.Proofs.AM
open Go Go.RowKit Go.Shelf Cd
set_option maxRecDepth 100000
theorem E3 : Enters Tryz.prog 3 := enters_of Tryz.func3 (by kernel_rfl) rfl
theorem T3 : funcT Tryz.prog [] Tryz.f3 = some c3.erase := by kernel_rfl
theorem E4 : Enters Tryz.prog 4 := enters_of Tryz.func4 (by kernel_rfl) rfl
theorem T4 : funcT Tryz.prog [] Tryz.f4 = some c4.erase := by kernel_rfl
theorem E5 : Enters Tryz.prog 5 := enters_of Tryz.func5 (by kernel_rfl) rfl
theorem T5 : funcT Tryz.prog [] Tryz.f5 = some c5.erase := by kernel_rfl
theorem E6 : Enters Tryz.prog 6 := enters_of Tryz.func6 (by kernel_rfl) rfl
theorem T6 : funcT Tryz.prog [] Tryz.f6 = some c6.erase := by kernel_rfl
theorem E7 : Enters Tryz.prog 7 := enters_of Tryz.func7 (by kernel_rfl) rfl
theorem T7 : funcT Tryz.prog [] Tryz.f7 = some c7.erase := by kernel_rfl
theorem E8 : Enters Tryz.prog 8 := enters_of Tryz.func8 (by kernel_rfl) rfl
theorem T8 : funcT Tryz.prog [72] Tryz.f8 = some c8.erase := by kernel_rfl
theorem E9 : Enters Tryz.prog 9 := enters_of Tryz.func9 (by kernel_rfl) rfl
theorem T9 : funcT Tryz.prog [] Tryz.f9 = some c9.erase := by kernel_rfl
theorem E10 : Enters Tryz.prog 10 := enters_of Tryz.func10 (by kernel_rfl) rfl
theorem T10 : funcT Tryz.prog [] Tryz.f10 = some c10.erase := by kernel_rfl
theorem E11 : Enters Tryz.prog 11 := enters_of Tryz.func11 (by kernel_rfl) rfl
theorem T11 : funcT Tryz.prog [] Tryz.f11 = some c11.erase := by kernel_rfl
theorem E12 : Enters Tryz.prog 12 := enters_of Tryz.func12 (by kernel_rfl) rfl
theorem T12 : funcT Tryz.prog [] Tryz.f12 = some c12.erase := by kernel_rfl
theorem E13 : Enters Tryz.prog 13 := enters_of Tryz.func13 (by kernel_rfl) rfl
theorem T13 : funcT Tryz.prog [] Tryz.f13 = some c13.erase := by kernel_rfl
theorem E19 : Enters Tryz.prog 19 := enters_of Tryz.func19 (by kernel_rfl) rfl
theorem T19 : funcT Tryz.prog [] Tryz.f19 = some c19.erase := by kernel_rfl
theorem E21 : Enters Tryz.prog 21 := enters_of Tryz.func21 (by kernel_rfl) rfl
theorem T21 : funcT Tryz.prog [] Tryz.f21 = some c21.erase := by kernel_rfl
theorem E23 : Enters Tryz.prog 23 := enters_of Tryz.func23 (by kernel_rfl) rfl
theorem T23 : funcT Tryz.prog [] Tryz.f23 = some c23.erase := by kernel_rfl
theorem E24 : Enters Tryz.prog 24 := enters_of Tryz.func24 (by kernel_rfl) rfl
theorem T24 : funcT Tryz.prog [] Tryz.f24 = some c24.erase := by kernel_rfl
theorem E26 : Enters Tryz.prog 26 := enters_of Tryz.func26 (by kernel_rfl) rfl
theorem T26 : funcT Tryz.prog [24] Tryz.f26 = some c26.erase := by kernel_rfl
theorem E37 : Enters Tryz.prog 37 := enters_of Tryz.func37 (by kernel_rfl) rfl
theorem T37 : funcT Tryz.prog [] Tryz.f37 = some c37.erase := by kernel_rfl
end Go.Proofs.AM
