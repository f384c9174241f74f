/- Part 15 of the lemmas: ZPWa, ZOa, ZOb, ZOc, ZOe, PXa. -/
import Derived.Test.YtococcgeoknmjaaGreatDoorM07
import Derived.Test.YtococcgeoknmjaaGreatDoorM11
import Derived.Test.YtococcgeoknmjaaGreatDoorM14
import Derived.Test.YtococcgeoknmjaaGreatDoorM12
import Derived.Test.YtococcgeoknmjaaGreatDoorM08
namespace Go.Proofs.AM
open Go Cd
def c3 : Func :=
⟨1, 83, [.tmp 2],
 (.seq (.ops [o 1 (.box (t 0)), o 2 (.mov (c (.bool false)))])
 (.seq (.ops [o 8 (.call false (c (.fn 15 [] [])) []), o 3 (.mov (t 8))])
 (.seq (.ops [o 10 (.load 50 true (t 1)), o 11 (.call false (c (.fn 17 [] [])) [(t 10)]), o 12 (.call false (c (.fn 16 [] [])) [(t 11)]), o 9 (.mov (t 12)), o 13 (.ext 0 (t 9)), o 14 (.ext 1 (t 9)), o 4 (.mov (t 13)), o 5 (.mov (t 14))])
 (.seq (.ops [o 16 (.load 50 true (t 1)), o 17 (.call false (c (.fn 18 [] [])) [(t 16)]), o 15 (.mov (t 17)), o 18 (.ext 0 (t 15)), o 19 (.ext 1 (t 15)), o 6 (.mov (t 18)), o 7 (.mov (t 19))])
 (.seq (.seq (.ops [o 20 (.load 50 true (t 1)), o 21 (.call true (c (.fn 17 [] [])) [(t 20)]), o 22 (.call true (c (.fn 19 [] [])) [(t 21)]), o 23 (.load 50 true (t 1)), o 24 (.call true (c (.fn 20 [] [])) [(t 23)]), o 25 (.bin .neq (t 22) (t 24)), o 26 (.mov (t 25)), ⟨some 27, .mov (t 4), some (26, false)⟩, ⟨some 28, .mov (t 6), some (26, false)⟩, ⟨some 29, .bin .neq (t 27) (t 28), some (26, false)⟩, o 30 (.pick (t 26) (c (.bool true)) (t 29)), o 31 (.mov (t 30)), ⟨some 32, .mov (t 5), some (31, false)⟩, ⟨some 33, .mov (t 7), some (31, false)⟩, ⟨some 34, .bin .neq (t 32) (t 33), some (31, false)⟩, o 35 (.pick (t 31) (c (.bool true)) (t 34))])
 (.cond (t 35) (.seq (.ops [o 2 (.mov (c (.bool false)))])
 .ret) .skip))
 (.seq (.seq (.ops [o 36 (.fAddr 0 (t 1)), o 37 (.load 1 false (t 36))])
 (.block 0 (.seq (.ops [o 39 (.bin .eql (t 37) (c (.int .i64 1))), o 38 (.mov (t 39))])
 (.cond (t 38) (.seq (.ops [o 40 (.mov (t 3)), o 41 (.mov (t 40)), ⟨some 42, .fAddr 1 (t 1), some (41, true)⟩, ⟨some 43, .load 12 true (t 42), some (41, true)⟩, ⟨some 44, .call true (c (.fn 21 [] [])) [(t 43)], some (41, true)⟩, ⟨some 45, .load 50 true (t 1), some (41, true)⟩, ⟨some 46, .call true (c (.fn 20 [] [])) [(t 45)], some (41, true)⟩, ⟨some 47, .bin .eql (t 44) (t 46), some (41, true)⟩, o 48 (.pick (t 41) (t 47) (c (.bool false))), o 2 (.mov (t 48))])
 .ret) (.seq (.ops [o 50 (.bin .eql (t 37) (c (.int .i64 2))), o 49 (.mov (t 50))])
 (.cond (t 49) (.seq (.ops [o 51 (.mov (t 3)), o 52 (.mov (t 51)), ⟨some 53, .fAddr 13 (t 1), some (52, true)⟩, ⟨some 54, .load 10 true (t 53), some (52, true)⟩, ⟨some 55, .call true (c (.fn 22 [] [])) [(t 54)], some (52, true)⟩, ⟨some 56, .load 50 true (t 1), some (52, true)⟩, ⟨some 57, .call true (c (.fn 20 [] [])) [(t 56)], some (52, true)⟩, ⟨some 58, .bin .eql (t 55) (t 57), some (52, true)⟩, o 59 (.pick (t 52) (t 58) (c (.bool false))), o 2 (.mov (t 59))])
 .ret) (.seq (.ops [o 61 (.bin .eql (t 37) (c (.int .i64 3))), o 60 (.mov (t 61))])
 (.cond (t 60) (.seq (.ops [o 62 (.mov (t 3)), o 63 (.mov (t 62)), ⟨some 64, .fAddr 23 (t 1), some (63, true)⟩, ⟨some 65, .load 15 true (t 64), some (63, true)⟩, ⟨some 66, .call true (c (.fn 23 [] [])) [(t 65)], some (63, true)⟩, ⟨some 67, .load 50 true (t 1), some (63, true)⟩, ⟨some 68, .call true (c (.fn 20 [] [])) [(t 67)], some (63, true)⟩, ⟨some 69, .bin .eql (t 66) (t 68), some (63, true)⟩, o 70 (.pick (t 63) (t 69) (c (.bool false))), o 2 (.mov (t 70))])
 .ret) (.seq (.ops [o 72 (.bin .eql (t 37) (c (.int .i64 4))), o 71 (.mov (t 72))])
 (.cond (t 71) (.seq (.ops [o 73 (.mov (t 3)), o 74 (.mov (t 73)), ⟨some 75, .fAddr 38 (t 1), some (74, true)⟩, ⟨some 76, .load 8 true (t 75), some (74, true)⟩, ⟨some 77, .call true (c (.fn 24 [] [])) [(t 76)], some (74, true)⟩, ⟨some 78, .load 50 true (t 1), some (74, true)⟩, ⟨some 79, .call true (c (.fn 20 [] [])) [(t 78)], some (74, true)⟩, ⟨some 80, .bin .eql (t 77) (t 79), some (74, true)⟩, o 81 (.pick (t 74) (t 80) (c (.bool false))), o 2 (.mov (t 81))])
 .ret) .skip))))))))))
 (.seq (.ops [o 82 (.mov (t 3)), o 2 (.mov (t 82))])
 .ret)))))))⟩
def c4 : Func :=
⟨2, 94, [.tmp 4],
 (.seq (.ops [o 2 (.box (t 0)), o 4 (.mov (c (.bool false)))])
 (.seq (.ops [o 8 (.call false (c (.fn 15 [] [])) []), o 5 (.mov (t 8))])
 (.seq (.seq (.ops [o 9 (.load 12 true (t 2)), o 10 (.call false (c (.fn 21 [] [])) [(t 9)]), o 11 (.bin .neq (t 10) (c (.int .i64 0)))])
 (.cond (t 11) (.seq (.ops [o 12 (.mov (t 5)), o 4 (.mov (t 12))])
 .ret) .skip))
 (.seq (.ops [o 13 (.mov (t 1)), o 14 (.bin .rem (t 13) (c (.int .i64 8))), o 15 (.mov (t 1)), o 16 (.bin .rem (t 15) (c (.int .i64 8))), o 17 (.un .neg (t 16)), o 18 (.mm true .i64 (t 14) [(t 17)]), o 6 (.mov (t 18))])
 (.seq (.ops [o 19 (.load 12 true (t 2)), o 7 (.alloc [(.str ⟨#[]⟩), (.str ⟨#[]⟩), (.int .i64 0), (.int .i64 0), (.int .i64 0), (.sl 4 true []), (.sl 3 true []), (.sl 3 true []), (.sl 2 true []), (.sl 2 true []), (.int .i64 0), (.str ⟨#[]⟩)]), w (.store 12 (t 7) (t 19))])
 (.seq (.seq (.ops [o 20 (.mov (t 6)), o 21 (.fAddr 5 (t 2)), o 22 (.load 1 false (t 21)), o 23 (.lenSl (t 22)), o 24 (.bin .lss (t 20) (t 23))])
 (.cond (t 24) (.ops [o 25 (.fAddrP 5 (t 2)), o 26 (.loadP 1 false (t 25)), o 27 (.mov (t 6)), o 28 (.slc 4 (t 26) none (some (t 27))), o 29 (.appD 4 75 56 (c (.sl 4 true [])) (t 28)), o 30 (.fAddrP 5 (t 2)), o 31 (.loadP 1 false (t 30)), o 32 (.mov (t 6)), o 33 (.bin .add (t 32) (c (.int .i64 1))), o 34 (.slc 4 (t 31) (some (t 33)) none), o 35 (.appD 4 75 56 (t 29) (t 34)), o 36 (.fAddrP 5 (t 7)), w (.store 1 (t 36) (t 35))]) .skip))
 (.seq (.seq (.ops [o 37 (.mov (t 6)), o 38 (.fAddr 6 (t 2)), o 39 (.load 1 false (t 38)), o 40 (.lenSl (t 39)), o 41 (.bin .lss (t 37) (t 40))])
 (.cond (t 41) (.ops [o 42 (.fAddrP 6 (t 2)), o 43 (.loadP 1 false (t 42)), o 44 (.mov (t 6)), o 45 (.slc 3 (t 43) none (some (t 44))), o 46 (.appD 3 187 40 (c (.sl 3 true [])) (t 45)), o 47 (.fAddrP 6 (t 2)), o 48 (.loadP 1 false (t 47)), o 49 (.mov (t 6)), o 50 (.bin .add (t 49) (c (.int .i64 1))), o 51 (.slc 3 (t 48) (some (t 50)) none), o 52 (.appD 3 187 40 (t 46) (t 51)), o 53 (.fAddrP 6 (t 7)), w (.store 1 (t 53) (t 52))]) .skip))
 (.seq (.seq (.ops [o 54 (.mov (t 6)), o 55 (.fAddr 7 (t 2)), o 56 (.load 1 false (t 55)), o 57 (.lenSl (t 56)), o 58 (.bin .lss (t 54) (t 57))])
 (.cond (t 58) (.ops [o 59 (.fAddrP 7 (t 2)), o 60 (.loadP 1 false (t 59)), o 61 (.mov (t 6)), o 62 (.slc 3 (t 60) none (some (t 61))), o 63 (.appD 3 101 40 (c (.sl 3 true [])) (t 62)), o 64 (.fAddrP 7 (t 2)), o 65 (.loadP 1 false (t 64)), o 66 (.mov (t 6)), o 67 (.bin .add (t 66) (c (.int .i64 1))), o 68 (.slc 3 (t 65) (some (t 67)) none), o 69 (.appD 3 101 40 (t 63) (t 68)), o 70 (.fAddrP 7 (t 7)), w (.store 1 (t 70) (t 69))]) .skip))
 (.seq (.seq (.ops [o 71 (.mov (t 6)), o 72 (.fAddr 8 (t 2)), o 73 (.load 1 false (t 72)), o 74 (.lenSl (t 73)), o 75 (.bin .lss (t 71) (t 74))])
 (.cond (t 75) (.ops [o 76 (.fAddrP 8 (t 2)), o 77 (.loadP 1 false (t 76)), o 78 (.mov (t 6)), o 79 (.slc 2 (t 77) none (some (t 78))), o 80 (.appD 2 181 32 (c (.sl 2 true [])) (t 79)), o 81 (.fAddrP 8 (t 2)), o 82 (.loadP 1 false (t 81)), o 83 (.mov (t 6)), o 84 (.bin .add (t 83) (c (.int .i64 1))), o 85 (.slc 2 (t 82) (some (t 84)) none), o 86 (.appD 2 181 32 (t 80) (t 85)), o 87 (.fAddrP 8 (t 7)), w (.store 1 (t 87) (t 86))]) .skip))
 (.seq (.ops [o 88 (.mov (t 5)), o 89 (.mov (t 88)), ⟨some 90, .load 12 true (t 7), some (89, true)⟩, ⟨some 91, .call false (c (.fn 21 [] [])) [(t 90)], some (89, true)⟩, ⟨some 92, .bin .eql (t 91) (c (.int .i64 0)), some (89, true)⟩, o 93 (.pick (t 89) (t 92) (c (.bool false))), o 4 (.mov (t 93))])
 .ret))))))))))⟩
def c5 : Func :=
⟨1, 53, [.tmp 2],
 (.seq (.ops [o 1 (.box (t 0)), o 2 (.mov (c (.bool false)))])
 (.seq (.ops [o 7 (.call false (c (.fn 15 [] [])) []), o 3 (.mov (t 7))])
 (.seq (.seq (.ops [o 8 (.load 8 true (t 1)), o 9 (.call false (c (.fn 24 [] [])) [(t 8)]), o 10 (.bin .neq (t 9) (c (.int .i64 0)))])
 (.cond (t 10) (.seq (.ops [o 11 (.mov (t 3)), o 2 (.mov (t 11))])
 .ret) .skip))
 (.seq (.seq (.ops [o 12 (.fAddr 1 (t 1)), o 13 (.load 1 false (t 12)), o 14 (.lenSl (t 13)), o 15 (.mov (c (.int .i64 0)))])
 (.block 0 (.loop (.seq (.ops [o 16 (.bin .lss (t 15) (t 14))])
 (.seq (.cond (t 16) .skip (.exit 0))
 (.seq (.block 1 (.seq (.ops [o 17 (.mov (t 15)), o 18 (.iAddrS 1 (t 13) (t 15)), o 19 (.load 1 false (t 18)), o 4 (.mov (t 17)), o 5 (.mov (t 19))])
 (.seq (.seq (.ops [o 20 (.mov (t 4)), o 21 (.bin .gtr (t 20) (c (.int .i64 0))), o 22 (.mov (t 21)), ⟨some 23, .fAddr 1 (t 1), some (22, true)⟩, ⟨some 24, .load 1 false (t 23), some (22, true)⟩, ⟨some 25, .mov (t 4), some (22, true)⟩, ⟨some 26, .bin .sub (t 25) (c (.int .i64 1)), some (22, true)⟩, ⟨some 27, .iAddrS 1 (t 24) (t 26), some (22, true)⟩, ⟨some 28, .load 1 false (t 27), some (22, true)⟩, ⟨some 29, .mov (t 5), some (22, true)⟩, ⟨some 30, .bin .geq (t 28) (t 29), some (22, true)⟩, o 31 (.pick (t 22) (t 30) (c (.bool false)))])
 (.cond (t 31) (.seq (.ops [o 2 (.mov (c (.bool false)))])
 .ret) .skip))
 (.seq (.ops [o 32 (.load 8 true (t 1)), o 6 (.alloc [(.int .i64 0), (.sl 1 true []), (.int .i64 0), (.int .i64 0), (.str ⟨#[]⟩), (.str ⟨#[]⟩), (.sl 3 true []), (.bool false)]), w (.store 8 (t 6) (t 32))])
 (.seq (.ops [o 33 (.mov (t 5)), o 34 (.mkSl false 1 9 (.str ⟨#[]⟩) 1 [(0, (t 33))]), o 35 (.fAddr 1 (t 6)), w (.store 1 (t 35) (t 34))])
 (.seq (.ops [o 36 (.load 8 true (t 6)), o 37 (.call false (c (.fn 24 [] [])) [(t 36)]), o 38 (.bin .neq (t 37) (c (.int .i64 0)))])
 (.cond (t 38) (.seq (.ops [o 2 (.mov (c (.bool false)))])
 .ret) .skip)))))))
 (.ops [o 39 (.bin .add (t 15) (c (.int .i64 1))), o 15 (.mov (t 39))])))))))
 (.seq (.ops [o 40 (.mov (t 3)), o 41 (.mov (t 40)), ⟨some 42, .fAddr 1 (t 1), some (41, true)⟩, ⟨some 43, .load 1 false (t 42), some (41, true)⟩, ⟨some 44, .lenSl (t 43), some (41, true)⟩, ⟨some 45, .bin .geq (t 44) (c (.int .i64 1)), some (41, true)⟩, o 46 (.pick (t 41) (t 45) (c (.bool false))), o 47 (.mov (t 46)), ⟨some 48, .fAddr 1 (t 1), some (47, true)⟩, ⟨some 49, .load 1 false (t 48), some (47, true)⟩, ⟨some 50, .lenSl (t 49), some (47, true)⟩, ⟨some 51, .bin .leq (t 50) (c (.int .i64 4)), some (47, true)⟩, o 52 (.pick (t 47) (t 51) (c (.bool false))), o 2 (.mov (t 52))])
 .ret)))))⟩
def c15 : Func :=
⟨0, 51, [.tmp 0],
 (.seq (.ops [o 0 (.mov (c (.bool false)))])
 (.seq (.ops [o 6 (.build [(.int .i64 0), (.int .i64 0)] [(0, 1, (c (.int .i64 500))), (1, 1, (c (.int .i64 1073741824)))]), o 7 (.build [(.str ⟨#[]⟩), (.str ⟨#[]⟩), (.int .i64 0), (.int .i64 0), (.int .i64 0), (.sl 4 true []), (.sl 3 true []), (.sl 3 true []), (.sl 2 true []), (.sl 2 true []), (.int .i64 0), (.str ⟨#[]⟩)] [(0, 1, (c (.str ⟨#[120]⟩))), (1, 1, (c (.str ⟨#[119, 101, 98]⟩))), (2, 2, (t 6))]), o 1 (.alloc [(.str ⟨#[]⟩), (.str ⟨#[]⟩), (.int .i64 0), (.int .i64 0), (.int .i64 0), (.sl 4 true []), (.sl 3 true []), (.sl 3 true []), (.sl 2 true []), (.sl 2 true []), (.int .i64 0), (.str ⟨#[]⟩)]), w (.store 12 (t 1) (t 7))])
 (.seq (.ops [o 8 (.load 12 true (t 1)), o 2 (.alloc [(.str ⟨#[]⟩), (.str ⟨#[]⟩), (.int .i64 0), (.int .i64 0), (.int .i64 0), (.sl 4 true []), (.sl 3 true []), (.sl 3 true []), (.sl 2 true []), (.sl 2 true []), (.int .i64 0), (.str ⟨#[]⟩)]), w (.store 12 (t 2) (t 8))])
 (.seq (.ops [o 9 (.fAddr 0 (t 2)), w (.store 1 (t 9) (c (.str ⟨#[88]⟩)))])
 (.seq (.ops [o 10 (.load 12 true (t 1)), o 3 (.alloc [(.str ⟨#[]⟩), (.str ⟨#[]⟩), (.int .i64 0), (.int .i64 0), (.int .i64 0), (.sl 4 true []), (.sl 3 true []), (.sl 3 true []), (.sl 2 true []), (.sl 2 true []), (.int .i64 0), (.str ⟨#[]⟩)]), w (.store 12 (t 3) (t 10))])
 (.seq (.ops [o 11 (.build [(.str ⟨#[]⟩), (.str ⟨#[]⟩), (.int .i64 0)] [(0, 1, (c (.str ⟨#[114, 97, 99, 107]⟩))), (1, 1, (c (.str ⟨#[119, 101, 98]⟩))), (2, 1, (c (.int .i64 1)))]), o 12 (.mkSl false 3 101 (.agg [(.str ⟨#[]⟩), (.str ⟨#[]⟩), (.int .i64 0)]) 1 [(0, (t 11))]), o 13 (.fAddr 7 (t 3)), w (.store 1 (t 13) (t 12))])
 (.seq (.ops [o 15 (.build [(.str ⟨#[]⟩), (.str ⟨#[]⟩), (.str ⟨#[]⟩)] [(0, 1, (c (.str ⟨#[115]⟩))), (1, 1, (c (.str ⟨#[97]⟩))), (2, 1, (c (.str ⟨#[115, 112, 111, 116]⟩)))]), o 16 (.build [(.str ⟨#[]⟩), (.str ⟨#[]⟩), (.str ⟨#[]⟩), (.int .i64 0)] [(0, 3, (t 15))]), o 17 (.mki 42 (t 16)), o 18 (.call false (c (.fn 16 [] [])) [(t 17)]), o 14 (.mov (t 18)), o 19 (.ext 0 (t 14)), o 20 (.ext 1 (t 14)), o 4 (.mov (t 19)), o 5 (.mov (t 20))])
 (.seq (.ops [o 21 (.load 12 true (t 1)), o 22 (.call false (c (.fn 21 [] [])) [(t 21)]), o 23 (.bin .eql (t 22) (c (.int .i64 0))), o 24 (.mov (t 23)), ⟨some 25, .load 12 true (t 2), some (24, true)⟩, ⟨some 26, .call false (c (.fn 21 [] [])) [(t 25)], some (24, true)⟩, ⟨some 27, .bin .eql (t 26) (c (.int .i64 7)), some (24, true)⟩, o 28 (.pick (t 24) (t 27) (c (.bool false))), o 29 (.mov (t 28)), ⟨some 30, .load 12 true (t 3), some (29, true)⟩, ⟨some 31, .call false (c (.fn 21 [] [])) [(t 30)], some (29, true)⟩, ⟨some 32, .bin .eql (t 31) (c (.int .i64 1)), some (29, true)⟩, o 33 (.pick (t 29) (t 32) (c (.bool false))), o 34 (.mov (t 33)), ⟨some 35, .mov (t 5), some (34, true)⟩, ⟨some 36, .bin .eql (t 35) (c (.int .i64 0)), some (34, true)⟩, o 37 (.pick (t 34) (t 36) (c (.bool false))), o 38 (.mov (t 37)), ⟨some 39, .mov (t 4), some (38, true)⟩, ⟨some 40, .bin .eql (t 39) (c (.str ⟨#[115, 47, 97, 47, 115, 112, 111, 116]⟩)), some (38, true)⟩, o 41 (.pick (t 38) (t 40) (c (.bool false))), o 42 (.mov (t 41)), ⟨some 43, .mki 3 (c (.int .i64 5)), some (42, true)⟩, ⟨some 44, .call false (c (.fn 19 [] [])) [(t 43)], some (42, true)⟩, ⟨some 45, .bin .eql (t 44) (c (.int .i64 1)), some (42, true)⟩, o 46 (.pick (t 42) (t 45) (c (.bool false))), o 47 (.mov (t 46)), ⟨some 48, .call false (c (.fn 19 [] [])) [(c .nili)], some (47, true)⟩, ⟨some 49, .bin .eql (t 48) (c (.int .i64 1)), some (47, true)⟩, o 50 (.pick (t 47) (t 49) (c (.bool false))), o 0 (.mov (t 50))])
 .ret))))))))⟩
def c16 : Func :=
⟨1, 44, [.tmp 2, .tmp 3],
 (.seq (.ops [o 2 (.mov (c (.str ⟨#[]⟩))), o 3 (.mov (c (.int .i64 0)))])
 (.seq (.seq (.ops [o 9 (.mov (t 0)), o 10 (.call false (c (.fn 19 [] [])) [(t 9)]), o 4 (.mov (t 10))])
 (.seq (.ops [o 11 (.mov (t 4)), o 12 (.bin .neq (t 11) (c (.int .i64 0)))])
 (.cond (t 12) (.seq (.ops [o 13 (.mov (t 4)), o 2 (.mov (c (.str ⟨#[]⟩))), o 3 (.mov (t 13))])
 .ret) .skip)))
 (.seq (.seq (.ops [o 14 (.mov (t 0))])
 (.block 0 (.seq (.ops [o 15 (.asr 29 (.agg [(.str ⟨#[]⟩), (.str ⟨#[]⟩), (.int .i64 0), (.int .i64 0), (.int .i64 0), (.sl 4 true []), (.sl 3 true []), (.sl 3 true []), (.sl 2 true []), (.sl 2 true []), (.int .i64 0), (.str ⟨#[]⟩)]) true (t 14)), o 16 (.ext 1 (t 15)), o 17 (.ext 0 (t 15))])
 (.cond (t 16) (.seq (.ops [o 5 (.alloc [(.str ⟨#[]⟩), (.str ⟨#[]⟩), (.int .i64 0), (.int .i64 0), (.int .i64 0), (.sl 4 true []), (.sl 3 true []), (.sl 3 true []), (.sl 2 true []), (.sl 2 true []), (.int .i64 0), (.str ⟨#[]⟩)]), w (.store 12 (t 5) (t 17))])
 (.seq (.ops [o 18 (.fAddr 0 (t 5)), o 19 (.load 1 false (t 18)), o 2 (.mov (t 19)), o 3 (.mov (c (.int .i64 0)))])
 .ret)) (.seq (.ops [o 20 (.asr 32 (.agg [(.str ⟨#[]⟩), (.int .i64 0), (.int .i64 0), (.int .i64 0), (.sl 4 true []), (.sl 2 true []), (.int .i64 0), (.int .i64 0), (.int .i64 0), (.int .i64 0)]) true (t 14)), o 21 (.ext 1 (t 20)), o 22 (.ext 0 (t 20))])
 (.cond (t 21) (.seq (.ops [o 6 (.alloc [(.str ⟨#[]⟩), (.int .i64 0), (.int .i64 0), (.int .i64 0), (.sl 4 true []), (.sl 2 true []), (.int .i64 0), (.int .i64 0), (.int .i64 0), (.int .i64 0)]), w (.store 10 (t 6) (t 22))])
 (.seq (.ops [o 23 (.fAddr 0 (t 6)), o 24 (.load 1 false (t 23)), o 2 (.mov (t 24)), o 3 (.mov (c (.int .i64 0)))])
 .ret)) (.seq (.ops [o 25 (.asr 37 (.agg [(.str ⟨#[]⟩), (.str ⟨#[]⟩), (.int .i64 0), (.str ⟨#[]⟩), (.str ⟨#[]⟩), (.str ⟨#[]⟩), (.int .i64 0), (.int .i64 0), (.int .i64 0), (.sl 3 true []), (.int .i64 0), (.str ⟨#[]⟩), (.int .i64 0), (.int .i64 0), (.bool false)]) true (t 14)), o 26 (.ext 1 (t 25)), o 27 (.ext 0 (t 25))])
 (.cond (t 26) (.seq (.ops [o 7 (.alloc [(.str ⟨#[]⟩), (.str ⟨#[]⟩), (.int .i64 0), (.str ⟨#[]⟩), (.str ⟨#[]⟩), (.str ⟨#[]⟩), (.int .i64 0), (.int .i64 0), (.int .i64 0), (.sl 3 true []), (.int .i64 0), (.str ⟨#[]⟩), (.int .i64 0), (.int .i64 0), (.bool false)]), w (.store 15 (t 7) (t 27))])
 (.seq (.ops [o 28 (.fAddr 0 (t 7)), o 29 (.load 1 false (t 28)), o 2 (.mov (t 29)), o 3 (.mov (c (.int .i64 0)))])
 .ret)) (.seq (.ops [o 30 (.asr 42 (.agg [(.str ⟨#[]⟩), (.str ⟨#[]⟩), (.str ⟨#[]⟩), (.int .i64 0)]) true (t 14)), o 31 (.ext 1 (t 30)), o 32 (.ext 0 (t 30))])
 (.cond (t 31) (.seq (.ops [o 8 (.alloc [(.str ⟨#[]⟩), (.str ⟨#[]⟩), (.str ⟨#[]⟩), (.int .i64 0)]), w (.store 4 (t 8) (t 32))])
 (.seq (.ops [o 33 (.fAddr 0 (t 8)), o 34 (.fAddr 0 (t 33)), o 35 (.load 1 false (t 34)), o 36 (.fAddr 0 (t 8)), o 37 (.fAddr 1 (t 36)), o 38 (.load 1 false (t 37)), o 39 (.fAddr 0 (t 8)), o 40 (.fAddr 2 (t 39)), o 41 (.load 1 false (t 40)), o 42 (.mkSl false 1 9 (.str ⟨#[]⟩) 3 [(0, (t 35)), (1, (t 38)), (2, (t 41))]), o 43 (.call false (c (.fn 46 [] [])) [(t 42), (c (.str ⟨#[47]⟩))]), o 2 (.mov (t 43)), o 3 (.mov (c (.int .i64 0)))])
 .ret)) .skip))))))))))
 (.seq (.ops [o 2 (.mov (c (.str ⟨#[99, 111, 109, 109, 97, 110, 100]⟩))), o 3 (.mov (c (.int .i64 0)))])
 .ret))))⟩
def c17 : Func :=
⟨1, 33, [.tmp 2],
 (.seq (.ops [o 1 (.box (t 0)), o 2 (.mov (c .nili))])
 (.seq (.seq (.ops [o 3 (.fAddr 0 (t 1)), o 4 (.load 1 false (t 3))])
 (.block 0 (.seq (.ops [o 6 (.bin .eql (t 4) (c (.int .i64 1))), o 5 (.mov (t 6))])
 (.cond (t 5) (.seq (.ops [o 7 (.fAddr 1 (t 1)), o 8 (.load 12 true (t 7)), o 9 (.mki 29 (t 8)), o 2 (.mov (t 9))])
 .ret) (.seq (.ops [o 11 (.bin .eql (t 4) (c (.int .i64 2))), o 10 (.mov (t 11))])
 (.cond (t 10) (.seq (.ops [o 12 (.fAddr 13 (t 1)), o 13 (.load 10 true (t 12)), o 14 (.mki 32 (t 13)), o 2 (.mov (t 14))])
 .ret) (.seq (.ops [o 16 (.bin .eql (t 4) (c (.int .i64 3))), o 15 (.mov (t 16))])
 (.cond (t 15) (.seq (.ops [o 17 (.fAddr 23 (t 1)), o 18 (.load 15 true (t 17)), o 19 (.mki 37 (t 18)), o 2 (.mov (t 19))])
 .ret) (.seq (.ops [o 21 (.bin .eql (t 4) (c (.int .i64 4))), o 20 (.mov (t 21))])
 (.cond (t 20) (.seq (.ops [o 22 (.fAddr 38 (t 1)), o 23 (.load 8 true (t 22)), o 24 (.mki 40 (t 23)), o 2 (.mov (t 24))])
 .ret) (.seq (.ops [o 26 (.bin .eql (t 4) (c (.int .i64 5))), o 25 (.mov (t 26))])
 (.cond (t 25) (.seq (.ops [o 27 (.fAddr 46 (t 1)), o 28 (.load 4 true (t 27)), o 29 (.mki 42 (t 28)), o 2 (.mov (t 29))])
 .ret) .skip))))))))))))
 (.seq (.ops [o 30 (.fAddr 0 (t 1)), o 31 (.load 1 false (t 30)), o 32 (.mki 3 (t 31)), o 2 (.mov (t 32))])
 .ret)))⟩
def c18 : Func :=
⟨1, 43, [.tmp 2, .tmp 3],
 (.seq (.ops [o 1 (.box (t 0)), o 2 (.mov (c (.str ⟨#[]⟩))), o 3 (.mov (c (.int .i64 0)))])
 (.seq (.seq (.ops [o 6 (.load 50 true (t 1)), o 7 (.call false (c (.fn 20 [] [])) [(t 6)]), o 4 (.mov (t 7))])
 (.seq (.ops [o 8 (.mov (t 4)), o 9 (.bin .neq (t 8) (c (.int .i64 0)))])
 (.cond (t 9) (.seq (.ops [o 10 (.mov (t 4)), o 2 (.mov (c (.str ⟨#[]⟩))), o 3 (.mov (t 10))])
 .ret) .skip)))
 (.seq (.seq (.ops [o 11 (.fAddr 0 (t 1)), o 12 (.load 1 false (t 11))])
 (.block 0 (.seq (.ops [o 14 (.bin .eql (t 12) (c (.int .i64 1))), o 13 (.mov (t 14))])
 (.cond (t 13) (.seq (.ops [o 15 (.fAddr 1 (t 1)), o 16 (.fAddr 0 (t 15)), o 17 (.load 1 false (t 16)), o 2 (.mov (t 17)), o 3 (.mov (c (.int .i64 0)))])
 .ret) (.seq (.ops [o 19 (.bin .eql (t 12) (c (.int .i64 2))), o 18 (.mov (t 19))])
 (.cond (t 18) (.seq (.ops [o 20 (.fAddr 13 (t 1)), o 21 (.fAddr 0 (t 20)), o 22 (.load 1 false (t 21)), o 2 (.mov (t 22)), o 3 (.mov (c (.int .i64 0)))])
 .ret) (.seq (.ops [o 24 (.bin .eql (t 12) (c (.int .i64 3))), o 23 (.mov (t 24))])
 (.cond (t 23) (.seq (.ops [o 25 (.fAddr 23 (t 1)), o 26 (.fAddr 0 (t 25)), o 27 (.load 1 false (t 26)), o 2 (.mov (t 27)), o 3 (.mov (c (.int .i64 0)))])
 .ret) (.seq (.ops [o 29 (.bin .eql (t 12) (c (.int .i64 4))), o 28 (.mov (t 29))])
 (.cond (t 28) (.seq (.ops [o 2 (.mov (c (.str ⟨#[99, 111, 109, 109, 97, 110, 100]⟩))), o 3 (.mov (c (.int .i64 0)))])
 .ret) .skip))))))))))
 (.seq (.ops [o 30 (.fAddr 46 (t 1)), o 31 (.fAddr 0 (t 30)), o 32 (.load 3 true (t 31)), o 5 (.alloc [(.str ⟨#[]⟩), (.str ⟨#[]⟩), (.str ⟨#[]⟩)]), w (.store 3 (t 5) (t 32))])
 (.seq (.ops [o 33 (.fAddr 0 (t 5)), o 34 (.load 1 false (t 33)), o 35 (.bin .add (t 34) (c (.str ⟨#[47]⟩))), o 36 (.fAddr 1 (t 5)), o 37 (.load 1 false (t 36)), o 38 (.bin .add (t 35) (t 37)), o 39 (.bin .add (t 38) (c (.str ⟨#[47]⟩))), o 40 (.fAddr 2 (t 5)), o 41 (.load 1 false (t 40)), o 42 (.bin .add (t 39) (t 41)), o 2 (.mov (t 42)), o 3 (.mov (c (.int .i64 0)))])
 .ret)))))⟩
def c19 : Func :=
⟨1, 35, [.tmp 2],
 (.seq (.ops [o 2 (.mov (c (.int .i64 0)))])
 (.seq (.seq (.ops [o 8 (.mov (t 0))])
 (.block 0 (.seq (.ops [o 9 (.asr 29 (.agg [(.str ⟨#[]⟩), (.str ⟨#[]⟩), (.int .i64 0), (.int .i64 0), (.int .i64 0), (.sl 4 true []), (.sl 3 true []), (.sl 3 true []), (.sl 2 true []), (.sl 2 true []), (.int .i64 0), (.str ⟨#[]⟩)]) true (t 8)), o 10 (.ext 1 (t 9)), o 11 (.ext 0 (t 9))])
 (.cond (t 10) (.seq (.ops [o 3 (.alloc [(.str ⟨#[]⟩), (.str ⟨#[]⟩), (.int .i64 0), (.int .i64 0), (.int .i64 0), (.sl 4 true []), (.sl 3 true []), (.sl 3 true []), (.sl 2 true []), (.sl 2 true []), (.int .i64 0), (.str ⟨#[]⟩)]), w (.store 12 (t 3) (t 11))])
 (.seq (.ops [o 12 (.load 12 true (t 3)), o 13 (.call false (c (.fn 21 [] [])) [(t 12)]), o 2 (.mov (t 13))])
 .ret)) (.seq (.ops [o 14 (.asr 32 (.agg [(.str ⟨#[]⟩), (.int .i64 0), (.int .i64 0), (.int .i64 0), (.sl 4 true []), (.sl 2 true []), (.int .i64 0), (.int .i64 0), (.int .i64 0), (.int .i64 0)]) true (t 8)), o 15 (.ext 1 (t 14)), o 16 (.ext 0 (t 14))])
 (.cond (t 15) (.seq (.ops [o 4 (.alloc [(.str ⟨#[]⟩), (.int .i64 0), (.int .i64 0), (.int .i64 0), (.sl 4 true []), (.sl 2 true []), (.int .i64 0), (.int .i64 0), (.int .i64 0), (.int .i64 0)]), w (.store 10 (t 4) (t 16))])
 (.seq (.ops [o 17 (.load 10 true (t 4)), o 18 (.call false (c (.fn 22 [] [])) [(t 17)]), o 2 (.mov (t 18))])
 .ret)) (.seq (.ops [o 19 (.asr 37 (.agg [(.str ⟨#[]⟩), (.str ⟨#[]⟩), (.int .i64 0), (.str ⟨#[]⟩), (.str ⟨#[]⟩), (.str ⟨#[]⟩), (.int .i64 0), (.int .i64 0), (.int .i64 0), (.sl 3 true []), (.int .i64 0), (.str ⟨#[]⟩), (.int .i64 0), (.int .i64 0), (.bool false)]) true (t 8)), o 20 (.ext 1 (t 19)), o 21 (.ext 0 (t 19))])
 (.cond (t 20) (.seq (.ops [o 5 (.alloc [(.str ⟨#[]⟩), (.str ⟨#[]⟩), (.int .i64 0), (.str ⟨#[]⟩), (.str ⟨#[]⟩), (.str ⟨#[]⟩), (.int .i64 0), (.int .i64 0), (.int .i64 0), (.sl 3 true []), (.int .i64 0), (.str ⟨#[]⟩), (.int .i64 0), (.int .i64 0), (.bool false)]), w (.store 15 (t 5) (t 21))])
 (.seq (.ops [o 22 (.load 15 true (t 5)), o 23 (.call false (c (.fn 23 [] [])) [(t 22)]), o 2 (.mov (t 23))])
 .ret)) (.seq (.ops [o 24 (.asr 40 (.agg [(.int .i64 0), (.sl 1 true []), (.int .i64 0), (.int .i64 0), (.str ⟨#[]⟩), (.str ⟨#[]⟩), (.sl 3 true []), (.bool false)]) true (t 8)), o 25 (.ext 1 (t 24)), o 26 (.ext 0 (t 24))])
 (.cond (t 25) (.seq (.ops [o 6 (.alloc [(.int .i64 0), (.sl 1 true []), (.int .i64 0), (.int .i64 0), (.str ⟨#[]⟩), (.str ⟨#[]⟩), (.sl 3 true []), (.bool false)]), w (.store 8 (t 6) (t 26))])
 (.seq (.ops [o 27 (.load 8 true (t 6)), o 28 (.call false (c (.fn 24 [] [])) [(t 27)]), o 2 (.mov (t 28))])
 .ret)) (.seq (.ops [o 29 (.asr 42 (.agg [(.str ⟨#[]⟩), (.str ⟨#[]⟩), (.str ⟨#[]⟩), (.int .i64 0)]) true (t 8)), o 30 (.ext 1 (t 29)), o 31 (.ext 0 (t 29))])
 (.cond (t 30) (.seq (.ops [o 7 (.alloc [(.str ⟨#[]⟩), (.str ⟨#[]⟩), (.str ⟨#[]⟩), (.int .i64 0)]), w (.store 4 (t 7) (t 31))])
 (.seq (.ops [o 32 (.load 4 true (t 7)), o 33 (.mkSl false 4 42 (.agg [(.str ⟨#[]⟩), (.str ⟨#[]⟩), (.str ⟨#[]⟩), (.int .i64 0)]) 1 [(0, (t 32))]), o 34 (.call false (c (.fn 47 [] [])) [(t 33)]), o 2 (.mov (t 34))])
 .ret)) .skip))))))))))))
 (.seq (.ops [o 2 (.mov (c (.int .i64 1)))])
 .ret)))⟩
def c20 : Func :=
⟨1, 31, [.tmp 2],
 (.seq (.ops [o 1 (.box (t 0)), o 2 (.mov (c (.int .i64 0)))])
 (.seq (.seq (.ops [o 3 (.fAddr 0 (t 1)), o 4 (.load 1 false (t 3))])
 (.block 0 (.seq (.ops [o 6 (.bin .eql (t 4) (c (.int .i64 1))), o 5 (.mov (t 6))])
 (.cond (t 5) (.seq (.ops [o 7 (.fAddr 1 (t 1)), o 8 (.load 12 true (t 7)), o 9 (.call false (c (.fn 48 [] [])) [(t 8)]), o 2 (.mov (t 9))])
 .ret) (.seq (.ops [o 11 (.bin .eql (t 4) (c (.int .i64 2))), o 10 (.mov (t 11))])
 (.cond (t 10) (.seq (.ops [o 12 (.fAddr 13 (t 1)), o 13 (.load 10 true (t 12)), o 14 (.call false (c (.fn 49 [] [])) [(t 13)]), o 2 (.mov (t 14))])
 .ret) (.seq (.ops [o 16 (.bin .eql (t 4) (c (.int .i64 3))), o 15 (.mov (t 16))])
 (.cond (t 15) (.seq (.ops [o 17 (.fAddr 23 (t 1)), o 18 (.load 15 true (t 17)), o 19 (.call false (c (.fn 50 [] [])) [(t 18)]), o 2 (.mov (t 19))])
 .ret) (.seq (.ops [o 21 (.bin .eql (t 4) (c (.int .i64 4))), o 20 (.mov (t 21))])
 (.cond (t 20) (.seq (.ops [o 22 (.fAddr 38 (t 1)), o 23 (.load 8 true (t 22)), o 24 (.call false (c (.fn 51 [] [])) [(t 23)]), o 2 (.mov (t 24))])
 .ret) (.seq (.ops [o 26 (.bin .eql (t 4) (c (.int .i64 5))), o 25 (.mov (t 26))])
 (.cond (t 25) (.seq (.ops [o 27 (.fAddr 46 (t 1)), o 28 (.load 4 true (t 27)), o 29 (.mkSl false 4 42 (.agg [(.str ⟨#[]⟩), (.str ⟨#[]⟩), (.str ⟨#[]⟩), (.int .i64 0)]) 1 [(0, (t 28))]), o 30 (.call false (c (.fn 52 [] [])) [(t 29)]), o 2 (.mov (t 30))])
 .ret) .skip))))))))))))
 (.seq (.ops [o 2 (.mov (c (.int .i64 1)))])
 .ret)))⟩
def c21 : Func :=
⟨1, 40, [.tmp 2],
 (.seq (.ops [o 1 (.box (t 0)), o 2 (.mov (c (.int .i64 0)))])
 (.seq (.ops [o 3 (.fAddr 0 (t 1)), o 4 (.load 1 false (t 3)), o 5 (.fAddr 1 (t 1)), o 6 (.load 1 false (t 5)), o 7 (.mkSl true 1 9 (.str ⟨#[]⟩) 2 [(0, (t 4)), (1, (t 6))]), o 8 (.call true (c (.fn 55 [] [])) [(t 7)]), o 9 (.call true (c (.fn 54 [] [])) [(t 8), (c (.int .i64 7))]), o 10 (.fAddr 2 (t 1)), o 11 (.load 2 true (t 10)), o 12 (.call true (c (.fn 56 [] [])) [(t 11)]), o 13 (.fAddr 4 (t 1)), o 14 (.load 1 false (t 13)), o 15 (.bin .geq (t 14) (c (.int .i64 (-1000)))), o 16 (.mov (t 15)), ⟨some 17, .fAddr 4 (t 1), some (16, true)⟩, ⟨some 18, .load 1 false (t 17), some (16, true)⟩, ⟨some 19, .bin .leq (t 18) (c (.int .i64 1000)), some (16, true)⟩, o 20 (.pick (t 16) (t 19) (c (.bool false))), o 21 (.call true (c (.fn 54 [] [])) [(t 20), (c (.int .i64 1))]), o 22 (.fAddr 5 (t 1)), o 23 (.load 1 false (t 22)), o 24 (.call true (c (.fn 36 [] [])) [(t 23)]), o 25 (.fAddr 6 (t 1)), o 26 (.load 1 false (t 25)), o 27 (.call true (c (.fn 57 [] [])) [(t 26)]), o 28 (.load 12 true (t 1)), o 29 (.call true (c (.fn 58 [] [])) [(t 28)]), o 30 (.fAddr 10 (t 1)), o 31 (.load 1 false (t 30)), o 32 (.call true (c (.fn 59 [] [])) [(t 31), (c (.int .i64 0)), (c (.int .i64 1099511627776))]), o 33 (.call true (c (.fn 54 [] [])) [(t 32), (c (.int .i64 1))]), o 34 (.fAddr 11 (t 1)), o 35 (.load 1 false (t 34)), o 36 (.call true (c (.fn 60 [] [])) [(t 35)]), o 37 (.call true (c (.fn 54 [] [])) [(t 36), (c (.int .i64 7))]), o 38 (.mkSl true 1 46 (.int .i64 0) 8 [(0, (t 9)), (1, (t 12)), (2, (t 21)), (3, (t 24)), (4, (t 27)), (5, (t 29)), (6, (t 33)), (7, (t 37))]), o 39 (.call true (c (.fn 53 [] [])) [(t 38)]), o 2 (.mov (t 39))])
 .ret))⟩
def c22 : Func :=
⟨1, 57, [.tmp 2],
 (.seq (.ops [o 1 (.box (t 0)), o 2 (.mov (c (.int .i64 0)))])
 (.seq (.ops [o 3 (.fAddr 0 (t 1)), o 4 (.load 1 false (t 3)), o 5 (.mkSl true 1 9 (.str ⟨#[]⟩) 1 [(0, (t 4))]), o 6 (.call true (c (.fn 55 [] [])) [(t 5)]), o 7 (.call true (c (.fn 54 [] [])) [(t 6), (c (.int .i64 7))]), o 8 (.fAddr 1 (t 1)), o 9 (.load 1 false (t 8)), o 10 (.bin .geq (t 9) (c (.int .i64 0))), o 11 (.mov (t 10)), ⟨some 12, .fAddr 1 (t 1), some (11, true)⟩, ⟨some 13, .load 1 false (t 12), some (11, true)⟩, ⟨some 14, .bin .leq (t 13) (c (.int .i64 100)), some (11, true)⟩, o 15 (.pick (t 11) (t 14) (c (.bool false))), o 16 (.call true (c (.fn 54 [] [])) [(t 15), (c (.int .i64 1))]), o 17 (.fAddr 2 (t 1)), o 18 (.load 2 true (t 17)), o 19 (.call true (c (.fn 56 [] [])) [(t 18)]), o 20 (.fAddr 4 (t 1)), o 21 (.load 1 false (t 20)), o 22 (.call true (c (.fn 36 [] [])) [(t 21)]), o 23 (.fAddr 5 (t 1)), o 24 (.load 1 false (t 23)), o 25 (.call true (c (.fn 61 [] [])) [(t 24)]), o 26 (.fAddr 6 (t 1)), o 27 (.load 1 false (t 26)), o 28 (.call true (c (.fn 59 [] [])) [(t 27), (c (.int .i64 0)), (c (.int .i64 1099511627776))]), o 29 (.mov (t 28)), ⟨some 30, .fAddr 7 (t 1), some (29, true)⟩, ⟨some 31, .load 1 false (t 30), some (29, true)⟩, ⟨some 32, .call true (c (.fn 59 [] [])) [(t 31), (c (.int .i64 0)), (c (.int .i64 1073741824))], some (29, true)⟩, o 33 (.pick (t 29) (t 32) (c (.bool false))), o 34 (.mov (t 33)), ⟨some 35, .fAddr 8 (t 1), some (34, true)⟩, ⟨some 36, .load 1 false (t 35), some (34, true)⟩, ⟨some 37, .bin .geq (t 36) (c (.int .i64 0)), some (34, true)⟩, o 38 (.pick (t 34) (t 37) (c (.bool false))), o 39 (.mov (t 38)), ⟨some 40, .fAddr 8 (t 1), some (39, true)⟩, ⟨some 41, .load 1 false (t 40), some (39, true)⟩, ⟨some 42, .bin .leq (t 41) (c (.int .i64 16)), some (39, true)⟩, o 43 (.pick (t 39) (t 42) (c (.bool false))), o 44 (.mov (t 43)), ⟨some 45, .fAddr 9 (t 1), some (44, true)⟩, ⟨some 46, .load 1 false (t 45), some (44, true)⟩, ⟨some 47, .bin .geq (t 46) (c (.int .i64 0)), some (44, true)⟩, o 48 (.pick (t 44) (t 47) (c (.bool false))), o 49 (.mov (t 48)), ⟨some 50, .fAddr 9 (t 1), some (49, true)⟩, ⟨some 51, .load 1 false (t 50), some (49, true)⟩, ⟨some 52, .bin .leq (t 51) (c (.int .i64 2)), some (49, true)⟩, o 53 (.pick (t 49) (t 52) (c (.bool false))), o 54 (.call true (c (.fn 54 [] [])) [(t 53), (c (.int .i64 1))]), o 55 (.mkSl true 1 46 (.int .i64 0) 6 [(0, (t 7)), (1, (t 16)), (2, (t 19)), (3, (t 22)), (4, (t 25)), (5, (t 54))]), o 56 (.call true (c (.fn 53 [] [])) [(t 55)]), o 2 (.mov (t 56))])
 .ret))⟩
def c23 : Func :=
⟨1, 63, [.tmp 2],
 (.seq (.ops [o 1 (.box (t 0)), o 2 (.mov (c (.int .i64 0)))])
 (.seq (.ops [o 3 (.fAddr 0 (t 1)), o 4 (.load 1 false (t 3)), o 5 (.fAddr 1 (t 1)), o 6 (.load 1 false (t 5)), o 7 (.fAddr 3 (t 1)), o 8 (.fAddr 0 (t 7)), o 9 (.load 1 false (t 8)), o 10 (.fAddr 3 (t 1)), o 11 (.fAddr 1 (t 10)), o 12 (.load 1 false (t 11)), o 13 (.fAddr 3 (t 1)), o 14 (.fAddr 2 (t 13)), o 15 (.load 1 false (t 14)), o 16 (.mkSl true 1 9 (.str ⟨#[]⟩) 5 [(0, (t 4)), (1, (t 6)), (2, (t 9)), (3, (t 12)), (4, (t 15))]), o 17 (.call true (c (.fn 55 [] [])) [(t 16)]), o 18 (.call true (c (.fn 54 [] [])) [(t 17), (c (.int .i64 7))]), o 19 (.fAddr 6 (t 1)), o 20 (.load 1 false (t 19)), o 21 (.call true (c (.fn 62 [] [])) [(t 20)]), o 22 (.fAddr 7 (t 1)), o 23 (.load 2 true (t 22)), o 24 (.call true (c (.fn 56 [] [])) [(t 23)]), o 25 (.fAddr 9 (t 1)), o 26 (.load 1 false (t 25)), o 27 (.call true (c (.fn 63 [] [])) [(t 26)]), o 28 (.fAddr 10 (t 1)), o 29 (.load 1 false (t 28)), o 30 (.bin .geq (t 29) (c (.int .i64 1))), o 31 (.mov (t 30)), ⟨some 32, .fAddr 10 (t 1), some (31, true)⟩, ⟨some 33, .load 1 false (t 32), some (31, true)⟩, ⟨some 34, .bin .leq (t 33) (c (.int .i64 32)), some (31, true)⟩, o 35 (.pick (t 31) (t 34) (c (.bool false))), o 36 (.call true (c (.fn 54 [] [])) [(t 35), (c (.int .i64 1))]), o 37 (.fAddr 11 (t 1)), o 38 (.load 1 false (t 37)), o 39 (.lenStr (t 38)), o 40 (.bin .leq (t 39) (c (.int .i64 16))), o 41 (.call true (c (.fn 54 [] [])) [(t 40), (c (.int .i64 2))]), o 42 (.fAddr 12 (t 1)), o 43 (.load 1 false (t 42)), o 44 (.bin .geq (t 43) (c (.int .i64 1))), o 45 (.mov (t 44)), ⟨some 46, .fAddr 12 (t 1), some (45, true)⟩, ⟨some 47, .load 1 false (t 46), some (45, true)⟩, ⟨some 48, .bin .leq (t 47) (c (.int .i64 4)), some (45, true)⟩, o 49 (.pick (t 45) (t 48) (c (.bool false))), o 50 (.mov (t 49)), ⟨some 51, .fAddr 2 (t 1), some (50, true)⟩, ⟨some 52, .load 1 false (t 51), some (50, true)⟩, ⟨some 53, .call true (c (.fn 59 [] [])) [(t 52), (c (.int .i64 0)), (c (.int .i64 1099511627776))], some (50, true)⟩, o 54 (.pick (t 50) (t 53) (c (.bool false))), o 55 (.mov (t 54)), ⟨some 56, .fAddr 13 (t 1), some (55, true)⟩, ⟨some 57, .load 1 false (t 56), some (55, true)⟩, ⟨some 58, .call true (c (.fn 59 [] [])) [(t 57), (c (.int .i64 0)), (c (.int .i64 1099511627776))], some (55, true)⟩, o 59 (.pick (t 55) (t 58) (c (.bool false))), o 60 (.call true (c (.fn 54 [] [])) [(t 59), (c (.int .i64 1))]), o 61 (.mkSl true 1 46 (.int .i64 0) 7 [(0, (t 18)), (1, (t 21)), (2, (t 24)), (3, (t 27)), (4, (t 36)), (5, (t 41)), (6, (t 60))]), o 62 (.call true (c (.fn 53 [] [])) [(t 61)]), o 2 (.mov (t 62))])
 .ret))⟩
def c24 : Func :=
⟨1, 87, [.tmp 2],
 (.seq (.ops [o 1 (.box (t 0)), o 2 (.mov (c (.int .i64 0)))])
 (.seq (.ops [o 6 (.fAddr 0 (t 1)), o 7 (.load 1 false (t 6)), o 8 (.bin .geq (t 7) (c (.int .i64 1))), o 9 (.mov (t 8)), ⟨some 10, .fAddr 0 (t 1), some (9, true)⟩, ⟨some 11, .load 1 false (t 10), some (9, true)⟩, ⟨some 12, .bin .leq (t 11) (c (.int .i64 4)), some (9, true)⟩, o 13 (.pick (t 9) (t 12) (c (.bool false))), o 14 (.mov (t 13)), ⟨some 15, .fAddr 2 (t 1), some (14, true)⟩, ⟨some 16, .load 1 false (t 15), some (14, true)⟩, ⟨some 17, .bin .geq (t 16) (c (.int .i64 1)), some (14, true)⟩, o 18 (.pick (t 14) (t 17) (c (.bool false))), o 19 (.mov (t 18)), ⟨some 20, .fAddr 2 (t 1), some (19, true)⟩, ⟨some 21, .load 1 false (t 20), some (19, true)⟩, ⟨some 22, .bin .leq (t 21) (c (.int .i64 3)), some (19, true)⟩, o 23 (.pick (t 19) (t 22) (c (.bool false))), o 24 (.call true (c (.fn 54 [] [])) [(t 23), (c (.int .i64 1))]), o 25 (.fAddr 1 (t 1)), o 26 (.load 1 false (t 25)), o 27 (.lenSl (t 26)), o 28 (.bin .leq (t 27) (c (.int .i64 4))), o 29 (.call true (c (.fn 54 [] [])) [(t 28), (c (.int .i64 3))]), o 30 (.fAddr 1 (t 1)), o 31 (.load 1 false (t 30)), o 32 (.lenSl (t 31)), o 33 (.bin .gtr (t 32) (c (.int .i64 0))), o 34 (.call true (c (.fn 54 [] [])) [(t 33), (c (.int .i64 1))]), o 35 (.mkSl true 1 46 (.int .i64 0) 3 [(0, (t 24)), (1, (t 29)), (2, (t 34))]), o 36 (.call true (c (.fn 53 [] [])) [(t 35)]), o 3 (.mov (t 36))])
 (.seq (.seq (.ops [o 37 (.fAddr 1 (t 1)), o 38 (.load 1 false (t 37)), o 39 (.lenSl (t 38)), o 40 (.mov (c (.int .i64 0)))])
 (.block 0 (.loop (.seq (.ops [o 41 (.bin .lss (t 40) (t 39))])
 (.seq (.cond (t 41) .skip (.exit 0))
 (.seq (.block 1 (.seq (.ops [o 42 (.mov (t 40)), o 43 (.iAddrS 1 (t 38) (t 40)), o 44 (.load 1 false (t 43)), o 4 (.mov (t 42)), o 5 (.mov (t 44))])
 (.seq (.seq (.ops [o 45 (.mov (t 3)), o 46 (.bin .neq (t 45) (c (.int .i64 0)))])
 (.cond (t 46) (.seq (.ops [o 47 (.mov (t 3)), o 2 (.mov (t 47))])
 .ret) .skip))
 (.ops [o 48 (.mov (t 5)), o 49 (.mkSl false 1 9 (.str ⟨#[]⟩) 1 [(0, (t 48))]), o 50 (.call false (c (.fn 55 [] [])) [(t 49)]), o 51 (.call false (c (.fn 54 [] [])) [(t 50), (c (.int .i64 7))]), o 52 (.mov (t 4)), o 53 (.bin .eql (t 52) (c (.int .i64 0))), o 54 (.mov (t 53)), ⟨some 55, .fAddr 1 (t 1), some (54, false)⟩, ⟨some 56, .load 1 false (t 55), some (54, false)⟩, ⟨some 57, .mov (t 4), some (54, false)⟩, ⟨some 58, .bin .sub (t 57) (c (.int .i64 1)), some (54, false)⟩, ⟨some 59, .iAddrS 1 (t 56) (t 58), some (54, false)⟩, ⟨some 60, .load 1 false (t 59), some (54, false)⟩, ⟨some 61, .mov (t 5), some (54, false)⟩, ⟨some 62, .bin .lss (t 60) (t 61), some (54, false)⟩, o 63 (.pick (t 54) (c (.bool true)) (t 62)), o 64 (.call false (c (.fn 54 [] [])) [(t 63), (c (.int .i64 6))]), o 65 (.mkSl false 1 46 (.int .i64 0) 2 [(0, (t 51)), (1, (t 64))]), o 66 (.call false (c (.fn 53 [] [])) [(t 65)]), o 3 (.mov (t 66))]))))
 (.ops [o 67 (.bin .add (t 40) (c (.int .i64 1))), o 40 (.mov (t 67))])))))))
 (.seq (.ops [o 68 (.mov (t 3)), o 69 (.fAddr 3 (t 1)), o 70 (.load 1 false (t 69)), o 71 (.call true (c (.fn 59 [] [])) [(t 70), (c (.int .i64 0)), (c (.int .i64 1099511627776))]), o 72 (.call true (c (.fn 54 [] [])) [(t 71), (c (.int .i64 1))]), o 73 (.fAddr 4 (t 1)), o 74 (.load 1 false (t 73)), o 75 (.call true (c (.fn 60 [] [])) [(t 74)]), o 76 (.mov (t 75)), ⟨some 77, .fAddr 5 (t 1), some (76, true)⟩, ⟨some 78, .load 1 false (t 77), some (76, true)⟩, ⟨some 79, .call true (c (.fn 60 [] [])) [(t 78)], some (76, true)⟩, o 80 (.pick (t 76) (t 79) (c (.bool false))), o 81 (.call true (c (.fn 54 [] [])) [(t 80), (c (.int .i64 7))]), o 82 (.fAddr 6 (t 1)), o 83 (.load 1 false (t 82)), o 84 (.call true (c (.fn 63 [] [])) [(t 83)]), o 85 (.mkSl true 1 46 (.int .i64 0) 4 [(0, (t 68)), (1, (t 72)), (2, (t 81)), (3, (t 84))]), o 86 (.call true (c (.fn 53 [] [])) [(t 85)]), o 2 (.mov (t 86))])
 .ret))))⟩
def c47 : Func :=
⟨1, 36, [.tmp 2],
 (.seq (.ops [o 2 (.mov (c (.int .i64 0)))])
 (.seq (.seq (.ops [o 6 (.mov (t 0)), o 7 (.lenSl (t 6)), o 8 (.bin .gtr (t 7) (c (.int .i64 72)))])
 (.cond (t 8) (.seq (.ops [o 2 (.mov (c (.int .i64 3)))])
 .ret) .skip))
 (.seq (.seq (.ops [o 9 (.mov (t 0)), o 10 (.lenSl (t 9)), o 11 (.mov (c (.int .i64 0)))])
 (.block 0 (.loop (.seq (.ops [o 12 (.bin .lss (t 11) (t 10))])
 (.seq (.cond (t 12) .skip (.exit 0))
 (.seq (.block 1 (.seq (.ops [o 13 (.mov (t 11)), o 14 (.iAddrS 4 (t 9) (t 11)), o 15 (.load 4 true (t 14)), o 4 (.alloc [(.str ⟨#[]⟩), (.str ⟨#[]⟩), (.str ⟨#[]⟩), (.int .i64 0)]), o 3 (.mov (t 13)), w (.store 4 (t 4) (t 15))])
 (.seq (.seq (.ops [o 16 (.load 4 true (t 4)), o 17 (.call false (c (.fn 108 [] [])) [(t 16)]), o 5 (.mov (t 17))])
 (.seq (.ops [o 18 (.mov (t 5)), o 19 (.bin .neq (t 18) (c (.int .i64 0)))])
 (.cond (t 19) (.seq (.ops [o 20 (.mov (t 5)), o 2 (.mov (t 20))])
 .ret) .skip)))
 (.seq (.ops [o 21 (.mov (t 3)), o 22 (.bin .gtr (t 21) (c (.int .i64 0))), o 23 (.mov (t 22)), ⟨some 24, .mov (t 0), some (23, true)⟩, ⟨some 25, .mov (t 3), some (23, true)⟩, ⟨some 26, .bin .sub (t 25) (c (.int .i64 1)), some (23, true)⟩, ⟨some 27, .iAddrS 4 (t 24) (t 26), some (23, true)⟩, ⟨some 28, .fAddr 0 (t 27), some (23, true)⟩, ⟨some 29, .load 3 true (t 28), some (23, true)⟩, ⟨some 30, .fAddr 0 (t 4), some (23, true)⟩, ⟨some 31, .load 3 true (t 30), some (23, true)⟩, ⟨some 32, .call true (c (.fn 109 [] [])) [(t 29), (t 31)], some (23, true)⟩, ⟨some 33, .bin .geq (t 32) (c (.int .i64 0)), some (23, true)⟩, o 34 (.pick (t 23) (t 33) (c (.bool false)))])
 (.cond (t 34) (.seq (.ops [o 2 (.mov (c (.int .i64 6)))])
 .ret) .skip)))))
 (.ops [o 35 (.bin .add (t 11) (c (.int .i64 1))), o 11 (.mov (t 35))])))))))
 (.seq (.ops [o 2 (.mov (c (.int .i64 0)))])
 .ret))))⟩
def c48 : Func :=
⟨1, 114, [.tmp 2],
 (.seq (.ops [o 1 (.box (t 0)), o 2 (.mov (c (.int .i64 0)))])
 (.seq (.seq (.ops [o 11 (.fAddr 0 (t 1)), o 12 (.load 1 false (t 11)), o 13 (.call false (c (.fn 110 [] [])) [(t 12)]), o 14 (.un .not (t 13)), o 15 (.mov (t 14)), ⟨some 16, .fAddr 1 (t 1), some (15, false)⟩, ⟨some 17, .load 1 false (t 16), some (15, false)⟩, ⟨some 18, .call false (c (.fn 110 [] [])) [(t 17)], some (15, false)⟩, ⟨some 19, .un .not (t 18), some (15, false)⟩, o 20 (.pick (t 15) (c (.bool true)) (t 19))])
 (.cond (t 20) (.seq (.ops [o 2 (.mov (c (.int .i64 7)))])
 .ret) .skip))
 (.seq (.seq (.ops [o 21 (.fAddr 2 (t 1)), o 22 (.load 2 true (t 21)), o 23 (.call false (c (.fn 111 [] [])) [(t 22)]), o 3 (.mov (t 23))])
 (.seq (.ops [o 24 (.mov (t 3)), o 25 (.bin .neq (t 24) (c (.int .i64 0)))])
 (.cond (t 25) (.seq (.ops [o 26 (.mov (t 3)), o 2 (.mov (t 26))])
 .ret) .skip)))
 (.seq (.seq (.ops [o 27 (.fAddr 4 (t 1)), o 28 (.load 1 false (t 27)), o 29 (.bin .lss (t 28) (c (.int .i64 (-1000)))), o 30 (.mov (t 29)), ⟨some 31, .fAddr 4 (t 1), some (30, false)⟩, ⟨some 32, .load 1 false (t 31), some (30, false)⟩, ⟨some 33, .bin .gtr (t 32) (c (.int .i64 1000)), some (30, false)⟩, o 34 (.pick (t 30) (c (.bool true)) (t 33))])
 (.cond (t 34) (.seq (.ops [o 2 (.mov (c (.int .i64 1)))])
 .ret) .skip))
 (.seq (.seq (.ops [o 35 (.fAddr 5 (t 1)), o 36 (.load 1 false (t 35)), o 37 (.call false (c (.fn 37 [] [])) [(t 36)]), o 4 (.mov (t 37))])
 (.seq (.ops [o 38 (.mov (t 4)), o 39 (.bin .neq (t 38) (c (.int .i64 0)))])
 (.cond (t 39) (.seq (.ops [o 40 (.mov (t 4)), o 2 (.mov (t 40))])
 .ret) .skip)))
 (.seq (.seq (.ops [o 41 (.fAddr 6 (t 1)), o 42 (.load 1 false (t 41)), o 43 (.call false (c (.fn 112 [] [])) [(t 42)]), o 5 (.mov (t 43))])
 (.seq (.ops [o 44 (.mov (t 5)), o 45 (.bin .neq (t 44) (c (.int .i64 0)))])
 (.cond (t 45) (.seq (.ops [o 46 (.mov (t 5)), o 2 (.mov (t 46))])
 .ret) .skip)))
 (.seq (.seq (.ops [o 47 (.fAddr 7 (t 1)), o 48 (.load 1 false (t 47)), o 49 (.lenSl (t 48)), o 50 (.bin .gtr (t 49) (c (.int .i64 3))), o 51 (.mov (t 50)), ⟨some 52, .fAddr 8 (t 1), some (51, false)⟩, ⟨some 53, .load 1 false (t 52), some (51, false)⟩, ⟨some 54, .lenSl (t 53), some (51, false)⟩, ⟨some 55, .bin .gtr (t 54) (c (.int .i64 3)), some (51, false)⟩, o 56 (.pick (t 51) (c (.bool true)) (t 55)), o 57 (.mov (t 56)), ⟨some 58, .fAddr 9 (t 1), some (57, false)⟩, ⟨some 59, .load 1 false (t 58), some (57, false)⟩, ⟨some 60, .lenSl (t 59), some (57, false)⟩, ⟨some 61, .bin .gtr (t 60) (c (.int .i64 3)), some (57, false)⟩, o 62 (.pick (t 57) (c (.bool true)) (t 61))])
 (.cond (t 62) (.seq (.ops [o 2 (.mov (c (.int .i64 3)))])
 .ret) .skip))
 (.seq (.seq (.ops [o 63 (.fAddr 7 (t 1)), o 64 (.load 1 false (t 63)), o 65 (.lenSl (t 64)), o 66 (.mov (c (.int .i64 0)))])
 (.block 0 (.loop (.seq (.ops [o 67 (.bin .lss (t 66) (t 65))])
 (.seq (.cond (t 67) .skip (.exit 0))
 (.seq (.block 1 (.seq (.ops [o 68 (.iAddrS 3 (t 64) (t 66)), o 69 (.load 3 true (t 68)), o 7 (.alloc [(.str ⟨#[]⟩), (.str ⟨#[]⟩), (.int .i64 0)]), w (.store 3 (t 7) (t 69))])
 (.seq (.seq (.ops [o 70 (.fAddr 0 (t 7)), o 71 (.load 1 false (t 70)), o 72 (.fAddr 1 (t 7)), o 73 (.load 1 false (t 72)), o 74 (.build [(.str ⟨#[]⟩), (.str ⟨#[]⟩)] [(0, 1, (t 71)), (1, 1, (t 73))]), o 75 (.mkSl false 2 181 (.agg [(.str ⟨#[]⟩), (.str ⟨#[]⟩)]) 1 [(0, (t 74))]), o 76 (.call false (c (.fn 113 [] [])) [(t 75)]), o 8 (.mov (t 76))])
 (.seq (.ops [o 77 (.mov (t 8)), o 78 (.bin .neq (t 77) (c (.int .i64 0)))])
 (.cond (t 78) (.seq (.ops [o 79 (.mov (t 8)), o 2 (.mov (t 79))])
 .ret) .skip)))
 (.seq (.ops [o 80 (.fAddr 2 (t 7)), o 81 (.load 1 false (t 80)), o 82 (.bin .lss (t 81) (c (.int .i64 1))), o 83 (.mov (t 82)), ⟨some 84, .fAddr 2 (t 7), some (83, false)⟩, ⟨some 85, .load 1 false (t 84), some (83, false)⟩, ⟨some 86, .bin .gtr (t 85) (c (.int .i64 16)), some (83, false)⟩, o 87 (.pick (t 83) (c (.bool true)) (t 86))])
 (.cond (t 87) (.seq (.ops [o 2 (.mov (c (.int .i64 1)))])
 .ret) .skip)))))
 (.ops [o 88 (.bin .add (t 66) (c (.int .i64 1))), o 66 (.mov (t 88))])))))))
 (.seq (.seq (.ops [o 89 (.fAddr 8 (t 1)), o 90 (.load 1 false (t 89)), o 91 (.call false (c (.fn 113 [] [])) [(t 90)]), o 9 (.mov (t 91))])
 (.seq (.ops [o 92 (.mov (t 9)), o 93 (.bin .neq (t 92) (c (.int .i64 0)))])
 (.cond (t 93) (.seq (.ops [o 94 (.mov (t 9)), o 2 (.mov (t 94))])
 .ret) .skip)))
 (.seq (.seq (.ops [o 95 (.fAddr 9 (t 1)), o 96 (.load 1 false (t 95)), o 97 (.call false (c (.fn 113 [] [])) [(t 96)]), o 10 (.mov (t 97))])
 (.seq (.ops [o 98 (.mov (t 10)), o 99 (.bin .neq (t 98) (c (.int .i64 0)))])
 (.cond (t 99) (.seq (.ops [o 100 (.mov (t 10)), o 2 (.mov (t 100))])
 .ret) .skip)))
 (.seq (.seq (.ops [o 101 (.fAddr 10 (t 1)), o 102 (.load 1 false (t 101)), o 103 (.call false (c (.fn 114 [] [])) [(t 102), (c (.int .i64 0)), (c (.int .i64 1099511627776))]), o 104 (.un .not (t 103))])
 (.cond (t 104) (.seq (.ops [o 2 (.mov (c (.int .i64 1)))])
 .ret) .skip))
 (.seq (.seq (.ops [o 105 (.fAddr 11 (t 1)), o 106 (.load 1 false (t 105)), o 107 (.bin .neq (t 106) (c (.str ⟨#[]⟩))), o 108 (.mov (t 107)), ⟨some 109, .fAddr 11 (t 1), some (108, true)⟩, ⟨some 110, .load 1 false (t 109), some (108, true)⟩, ⟨some 111, .call false (c (.fn 110 [] [])) [(t 110)], some (108, true)⟩, ⟨some 112, .un .not (t 111), some (108, true)⟩, o 113 (.pick (t 108) (t 112) (c (.bool false)))])
 (.cond (t 113) (.seq (.ops [o 2 (.mov (c (.int .i64 7)))])
 .ret) .skip))
 (.seq (.ops [o 2 (.mov (c (.int .i64 0)))])
 .ret)))))))))))))⟩
def c49 : Func :=
⟨1, 66, [.tmp 2],
 (.seq (.ops [o 1 (.box (t 0)), o 2 (.mov (c (.int .i64 0)))])
 (.seq (.seq (.ops [o 6 (.fAddr 0 (t 1)), o 7 (.load 1 false (t 6)), o 8 (.call false (c (.fn 110 [] [])) [(t 7)]), o 9 (.un .not (t 8))])
 (.cond (t 9) (.seq (.ops [o 2 (.mov (c (.int .i64 7)))])
 .ret) .skip))
 (.seq (.seq (.ops [o 10 (.fAddr 1 (t 1)), o 11 (.load 1 false (t 10)), o 12 (.bin .lss (t 11) (c (.int .i64 0))), o 13 (.mov (t 12)), ⟨some 14, .fAddr 1 (t 1), some (13, false)⟩, ⟨some 15, .load 1 false (t 14), some (13, false)⟩, ⟨some 16, .bin .gtr (t 15) (c (.int .i64 100)), some (13, false)⟩, o 17 (.pick (t 13) (c (.bool true)) (t 16))])
 (.cond (t 17) (.seq (.ops [o 2 (.mov (c (.int .i64 1)))])
 .ret) .skip))
 (.seq (.seq (.ops [o 18 (.fAddr 2 (t 1)), o 19 (.load 2 true (t 18)), o 20 (.call false (c (.fn 111 [] [])) [(t 19)]), o 3 (.mov (t 20))])
 (.seq (.ops [o 21 (.mov (t 3)), o 22 (.bin .neq (t 21) (c (.int .i64 0)))])
 (.cond (t 22) (.seq (.ops [o 23 (.mov (t 3)), o 2 (.mov (t 23))])
 .ret) .skip)))
 (.seq (.seq (.ops [o 24 (.fAddr 4 (t 1)), o 25 (.load 1 false (t 24)), o 26 (.call false (c (.fn 37 [] [])) [(t 25)]), o 4 (.mov (t 26))])
 (.seq (.ops [o 27 (.mov (t 4)), o 28 (.bin .neq (t 27) (c (.int .i64 0)))])
 (.cond (t 28) (.seq (.ops [o 29 (.mov (t 4)), o 2 (.mov (t 29))])
 .ret) .skip)))
 (.seq (.seq (.ops [o 30 (.fAddr 5 (t 1)), o 31 (.load 1 false (t 30)), o 32 (.call false (c (.fn 115 [] [])) [(t 31)]), o 5 (.mov (t 32))])
 (.seq (.ops [o 33 (.mov (t 5)), o 34 (.bin .neq (t 33) (c (.int .i64 0)))])
 (.cond (t 34) (.seq (.ops [o 35 (.mov (t 5)), o 2 (.mov (t 35))])
 .ret) .skip)))
 (.seq (.seq (.ops [o 36 (.fAddr 6 (t 1)), o 37 (.load 1 false (t 36)), o 38 (.call false (c (.fn 114 [] [])) [(t 37), (c (.int .i64 0)), (c (.int .i64 1099511627776))]), o 39 (.un .not (t 38)), o 40 (.mov (t 39)), ⟨some 41, .fAddr 7 (t 1), some (40, false)⟩, ⟨some 42, .load 1 false (t 41), some (40, false)⟩, ⟨some 43, .call false (c (.fn 114 [] [])) [(t 42), (c (.int .i64 0)), (c (.int .i64 1073741824))], some (40, false)⟩, ⟨some 44, .un .not (t 43), some (40, false)⟩, o 45 (.pick (t 40) (c (.bool true)) (t 44)), o 46 (.mov (t 45)), ⟨some 47, .fAddr 8 (t 1), some (46, false)⟩, ⟨some 48, .load 1 false (t 47), some (46, false)⟩, ⟨some 49, .bin .lss (t 48) (c (.int .i64 0)), some (46, false)⟩, o 50 (.pick (t 46) (c (.bool true)) (t 49)), o 51 (.mov (t 50)), ⟨some 52, .fAddr 8 (t 1), some (51, false)⟩, ⟨some 53, .load 1 false (t 52), some (51, false)⟩, ⟨some 54, .bin .gtr (t 53) (c (.int .i64 16)), some (51, false)⟩, o 55 (.pick (t 51) (c (.bool true)) (t 54)), o 56 (.mov (t 55)), ⟨some 57, .fAddr 9 (t 1), some (56, false)⟩, ⟨some 58, .load 1 false (t 57), some (56, false)⟩, ⟨some 59, .bin .lss (t 58) (c (.int .i64 0)), some (56, false)⟩, o 60 (.pick (t 56) (c (.bool true)) (t 59)), o 61 (.mov (t 60)), ⟨some 62, .fAddr 9 (t 1), some (61, false)⟩, ⟨some 63, .load 1 false (t 62), some (61, false)⟩, ⟨some 64, .bin .gtr (t 63) (c (.int .i64 2)), some (61, false)⟩, o 65 (.pick (t 61) (c (.bool true)) (t 64))])
 (.cond (t 65) (.seq (.ops [o 2 (.mov (c (.int .i64 1)))])
 .ret) .skip))
 (.seq (.ops [o 2 (.mov (c (.int .i64 0)))])
 .ret))))))))⟩
def c50 : Func :=
⟨1, 72, [.tmp 2],
 (.seq (.ops [o 1 (.box (t 0)), o 2 (.mov (c (.int .i64 0)))])
 (.seq (.seq (.ops [o 6 (.fAddr 0 (t 1)), o 7 (.load 1 false (t 6)), o 8 (.call false (c (.fn 110 [] [])) [(t 7)]), o 9 (.un .not (t 8)), o 10 (.mov (t 9)), ⟨some 11, .fAddr 1 (t 1), some (10, false)⟩, ⟨some 12, .load 1 false (t 11), some (10, false)⟩, ⟨some 13, .call false (c (.fn 110 [] [])) [(t 12)], some (10, false)⟩, ⟨some 14, .un .not (t 13), some (10, false)⟩, o 15 (.pick (t 10) (c (.bool true)) (t 14)), o 16 (.mov (t 15)), ⟨some 17, .fAddr 3 (t 1), some (16, false)⟩, ⟨some 18, .load 3 true (t 17), some (16, false)⟩, ⟨some 19, .call false (c (.fn 116 [] [])) [(t 18)], some (16, false)⟩, ⟨some 20, .un .not (t 19), some (16, false)⟩, o 21 (.pick (t 16) (c (.bool true)) (t 20))])
 (.cond (t 21) (.seq (.ops [o 2 (.mov (c (.int .i64 7)))])
 .ret) .skip))
 (.seq (.seq (.ops [o 22 (.fAddr 6 (t 1)), o 23 (.load 1 false (t 22)), o 24 (.call false (c (.fn 117 [] [])) [(t 23)]), o 3 (.mov (t 24))])
 (.seq (.ops [o 25 (.mov (t 3)), o 26 (.bin .neq (t 25) (c (.int .i64 0)))])
 (.cond (t 26) (.seq (.ops [o 27 (.mov (t 3)), o 2 (.mov (t 27))])
 .ret) .skip)))
 (.seq (.seq (.ops [o 28 (.fAddr 7 (t 1)), o 29 (.load 2 true (t 28)), o 30 (.call false (c (.fn 111 [] [])) [(t 29)]), o 4 (.mov (t 30))])
 (.seq (.ops [o 31 (.mov (t 4)), o 32 (.bin .neq (t 31) (c (.int .i64 0)))])
 (.cond (t 32) (.seq (.ops [o 33 (.mov (t 4)), o 2 (.mov (t 33))])
 .ret) .skip)))
 (.seq (.seq (.ops [o 34 (.fAddr 9 (t 1)), o 35 (.load 1 false (t 34)), o 36 (.call false (c (.fn 118 [] [])) [(t 35)]), o 5 (.mov (t 36))])
 (.seq (.ops [o 37 (.mov (t 5)), o 38 (.bin .neq (t 37) (c (.int .i64 0)))])
 (.cond (t 38) (.seq (.ops [o 39 (.mov (t 5)), o 2 (.mov (t 39))])
 .ret) .skip)))
 (.seq (.seq (.ops [o 40 (.fAddr 10 (t 1)), o 41 (.load 1 false (t 40)), o 42 (.bin .lss (t 41) (c (.int .i64 1))), o 43 (.mov (t 42)), ⟨some 44, .fAddr 10 (t 1), some (43, false)⟩, ⟨some 45, .load 1 false (t 44), some (43, false)⟩, ⟨some 46, .bin .gtr (t 45) (c (.int .i64 32)), some (43, false)⟩, o 47 (.pick (t 43) (c (.bool true)) (t 46))])
 (.cond (t 47) (.seq (.ops [o 2 (.mov (c (.int .i64 1)))])
 .ret) .skip))
 (.seq (.seq (.ops [o 48 (.fAddr 11 (t 1)), o 49 (.load 1 false (t 48)), o 50 (.lenStr (t 49)), o 51 (.bin .gtr (t 50) (c (.int .i64 16)))])
 (.cond (t 51) (.seq (.ops [o 2 (.mov (c (.int .i64 2)))])
 .ret) .skip))
 (.seq (.seq (.ops [o 52 (.fAddr 12 (t 1)), o 53 (.load 1 false (t 52)), o 54 (.bin .lss (t 53) (c (.int .i64 1))), o 55 (.mov (t 54)), ⟨some 56, .fAddr 12 (t 1), some (55, false)⟩, ⟨some 57, .load 1 false (t 56), some (55, false)⟩, ⟨some 58, .bin .gtr (t 57) (c (.int .i64 4)), some (55, false)⟩, o 59 (.pick (t 55) (c (.bool true)) (t 58)), o 60 (.mov (t 59)), ⟨some 61, .fAddr 2 (t 1), some (60, false)⟩, ⟨some 62, .load 1 false (t 61), some (60, false)⟩, ⟨some 63, .call false (c (.fn 114 [] [])) [(t 62), (c (.int .i64 0)), (c (.int .i64 1099511627776))], some (60, false)⟩, ⟨some 64, .un .not (t 63), some (60, false)⟩, o 65 (.pick (t 60) (c (.bool true)) (t 64)), o 66 (.mov (t 65)), ⟨some 67, .fAddr 13 (t 1), some (66, false)⟩, ⟨some 68, .load 1 false (t 67), some (66, false)⟩, ⟨some 69, .call false (c (.fn 114 [] [])) [(t 68), (c (.int .i64 0)), (c (.int .i64 1099511627776))], some (66, false)⟩, ⟨some 70, .un .not (t 69), some (66, false)⟩, o 71 (.pick (t 66) (c (.bool true)) (t 70))])
 (.cond (t 71) (.seq (.ops [o 2 (.mov (c (.int .i64 1)))])
 .ret) .skip))
 (.seq (.ops [o 2 (.mov (c (.int .i64 0)))])
 .ret)))))))))⟩
def c51 : Func :=
⟨1, 82, [.tmp 2],
 (.seq (.ops [o 1 (.box (t 0)), o 2 (.mov (c (.int .i64 0)))])
 (.seq (.seq (.ops [o 5 (.fAddr 0 (t 1)), o 6 (.load 1 false (t 5)), o 7 (.bin .lss (t 6) (c (.int .i64 1))), o 8 (.mov (t 7)), ⟨some 9, .fAddr 0 (t 1), some (8, false)⟩, ⟨some 10, .load 1 false (t 9), some (8, false)⟩, ⟨some 11, .bin .gtr (t 10) (c (.int .i64 4)), some (8, false)⟩, o 12 (.pick (t 8) (c (.bool true)) (t 11)), o 13 (.mov (t 12)), ⟨some 14, .fAddr 2 (t 1), some (13, false)⟩, ⟨some 15, .load 1 false (t 14), some (13, false)⟩, ⟨some 16, .bin .lss (t 15) (c (.int .i64 1)), some (13, false)⟩, o 17 (.pick (t 13) (c (.bool true)) (t 16)), o 18 (.mov (t 17)), ⟨some 19, .fAddr 2 (t 1), some (18, false)⟩, ⟨some 20, .load 1 false (t 19), some (18, false)⟩, ⟨some 21, .bin .gtr (t 20) (c (.int .i64 3)), some (18, false)⟩, o 22 (.pick (t 18) (c (.bool true)) (t 21))])
 (.cond (t 22) (.seq (.ops [o 2 (.mov (c (.int .i64 1)))])
 .ret) .skip))
 (.seq (.seq (.ops [o 23 (.fAddr 1 (t 1)), o 24 (.load 1 false (t 23)), o 25 (.lenSl (t 24)), o 26 (.bin .gtr (t 25) (c (.int .i64 4)))])
 (.cond (t 26) (.seq (.ops [o 2 (.mov (c (.int .i64 3)))])
 .ret) .skip))
 (.seq (.seq (.ops [o 27 (.fAddr 1 (t 1)), o 28 (.load 1 false (t 27)), o 29 (.lenSl (t 28)), o 30 (.bin .eql (t 29) (c (.int .i64 0)))])
 (.cond (t 30) (.seq (.ops [o 2 (.mov (c (.int .i64 1)))])
 .ret) .skip))
 (.seq (.seq (.ops [o 31 (.fAddr 1 (t 1)), o 32 (.load 1 false (t 31)), o 33 (.lenSl (t 32)), o 34 (.mov (c (.int .i64 0)))])
 (.block 0 (.loop (.seq (.ops [o 35 (.bin .lss (t 34) (t 33))])
 (.seq (.cond (t 35) .skip (.exit 0))
 (.seq (.block 1 (.seq (.ops [o 36 (.mov (t 34)), o 37 (.iAddrS 1 (t 32) (t 34)), o 38 (.load 1 false (t 37)), o 3 (.mov (t 36)), o 4 (.mov (t 38))])
 (.seq (.seq (.ops [o 39 (.mov (t 4)), o 40 (.call false (c (.fn 110 [] [])) [(t 39)]), o 41 (.un .not (t 40))])
 (.cond (t 41) (.seq (.ops [o 2 (.mov (c (.int .i64 7)))])
 .ret) .skip))
 (.seq (.ops [o 42 (.mov (t 3)), o 43 (.bin .gtr (t 42) (c (.int .i64 0))), o 44 (.mov (t 43)), ⟨some 45, .fAddr 1 (t 1), some (44, true)⟩, ⟨some 46, .load 1 false (t 45), some (44, true)⟩, ⟨some 47, .mov (t 3), some (44, true)⟩, ⟨some 48, .bin .sub (t 47) (c (.int .i64 1)), some (44, true)⟩, ⟨some 49, .iAddrS 1 (t 46) (t 48), some (44, true)⟩, ⟨some 50, .load 1 false (t 49), some (44, true)⟩, ⟨some 51, .mov (t 4), some (44, true)⟩, ⟨some 52, .bin .geq (t 50) (t 51), some (44, true)⟩, o 53 (.pick (t 44) (t 52) (c (.bool false)))])
 (.cond (t 53) (.seq (.ops [o 2 (.mov (c (.int .i64 6)))])
 .ret) .skip)))))
 (.ops [o 54 (.bin .add (t 34) (c (.int .i64 1))), o 34 (.mov (t 54))])))))))
 (.seq (.seq (.ops [o 55 (.fAddr 3 (t 1)), o 56 (.load 1 false (t 55)), o 57 (.call false (c (.fn 114 [] [])) [(t 56), (c (.int .i64 0)), (c (.int .i64 1099511627776))]), o 58 (.un .not (t 57))])
 (.cond (t 58) (.seq (.ops [o 2 (.mov (c (.int .i64 1)))])
 .ret) .skip))
 (.seq (.seq (.ops [o 59 (.fAddr 4 (t 1)), o 60 (.load 1 false (t 59)), o 61 (.bin .neq (t 60) (c (.str ⟨#[]⟩))), o 62 (.mov (t 61)), ⟨some 63, .fAddr 4 (t 1), some (62, true)⟩, ⟨some 64, .load 1 false (t 63), some (62, true)⟩, ⟨some 65, .call false (c (.fn 110 [] [])) [(t 64)], some (62, true)⟩, ⟨some 66, .un .not (t 65), some (62, true)⟩, o 67 (.pick (t 62) (t 66) (c (.bool false))), o 68 (.mov (t 67)), ⟨some 69, .fAddr 5 (t 1), some (68, false)⟩, ⟨some 70, .load 1 false (t 69), some (68, false)⟩, ⟨some 71, .bin .neq (t 70) (c (.str ⟨#[]⟩)), some (68, false)⟩, ⟨some 72, .mov (t 71), some (68, false)⟩, ⟨some 73, .fAddr 5 (t 1), some (72, true)⟩, ⟨some 74, .load 1 false (t 73), some (72, true)⟩, ⟨some 75, .call false (c (.fn 110 [] [])) [(t 74)], some (72, true)⟩, ⟨some 76, .un .not (t 75), some (72, true)⟩, ⟨some 77, .pick (t 72) (t 76) (c (.bool false)), some (68, false)⟩, o 78 (.pick (t 68) (c (.bool true)) (t 77))])
 (.cond (t 78) (.seq (.ops [o 2 (.mov (c (.int .i64 7)))])
 .ret) .skip))
 (.seq (.ops [o 79 (.fAddr 6 (t 1)), o 80 (.load 1 false (t 79)), o 81 (.call false (c (.fn 118 [] [])) [(t 80)]), o 2 (.mov (t 81))])
 .ret))))))))⟩
def c52 : Func :=
⟨1, 39, [.tmp 2],
 (.seq (.ops [o 2 (.mov (c (.int .i64 0)))])
 (.seq (.seq (.ops [o 6 (.mov (t 0)), o 7 (.lenSl (t 6)), o 8 (.bin .gtr (t 7) (c (.int .i64 72)))])
 (.cond (t 8) (.seq (.ops [o 2 (.mov (c (.int .i64 3)))])
 .ret) .skip))
 (.seq (.seq (.ops [o 3 (.mov (c (.int .i64 0)))])
 (.block 0 (.loop (.seq (.seq (.ops [o 9 (.mov (t 3)), o 10 (.mov (t 0)), o 11 (.lenSl (t 10)), o 12 (.bin .lss (t 9) (t 11))])
 (.cond (t 12) .skip (.exit 0)))
 (.seq (.block 1 (.seq (.ops [o 15 (.mov (t 0)), o 16 (.mov (t 3)), o 17 (.iAddrS 4 (t 15) (t 16)), o 18 (.load 4 true (t 17)), o 19 (.call false (c (.fn 119 [] [])) [(t 18)]), o 4 (.mov (t 19))])
 (.seq (.seq (.ops [o 20 (.mov (t 4)), o 21 (.bin .neq (t 20) (c (.int .i64 0)))])
 (.cond (t 21) (.seq (.ops [o 22 (.mov (t 4)), o 2 (.mov (t 22))])
 .ret) .skip))
 (.seq (.ops [o 23 (.mov (t 3)), o 24 (.bin .gtr (t 23) (c (.int .i64 0)))])
 (.cond (t 24) (.seq (.ops [o 25 (.mov (t 0)), o 26 (.mov (t 3)), o 27 (.bin .sub (t 26) (c (.int .i64 1))), o 28 (.iAddrS 4 (t 25) (t 27)), o 29 (.fAddr 0 (t 28)), o 30 (.load 3 true (t 29)), o 31 (.mov (t 0)), o 32 (.mov (t 3)), o 33 (.iAddrS 4 (t 31) (t 32)), o 34 (.fAddr 0 (t 33)), o 35 (.load 3 true (t 34)), o 36 (.call true (c (.fn 120 [] [])) [(t 30), (t 35)]), o 5 (.mov (t 36))])
 (.seq (.ops [o 37 (.mov (t 5)), o 38 (.un .not (t 37))])
 (.cond (t 38) (.seq (.ops [o 2 (.mov (c (.int .i64 6)))])
 .ret) .skip))) .skip)))))
 (.ops [o 13 (.mov (t 3)), o 14 (.bin .add (t 13) (c (.int .i64 1))), o 3 (.mov (t 14))]))))))
 (.seq (.ops [o 2 (.mov (c (.int .i64 0)))])
 .ret))))⟩
def c53 : Func :=
⟨1, 15, [.tmp 2],
 (.seq (.ops [o 2 (.mov (c (.int .i64 0)))])
 (.seq (.seq (.ops [o 5 (.mov (t 0)), o 6 (.lenSl (t 5)), o 7 (.mov (c (.int .i64 0)))])
 (.block 0 (.loop (.seq (.ops [o 8 (.bin .lss (t 7) (t 6))])
 (.seq (.cond (t 8) .skip (.exit 0))
 (.seq (.block 1 (.seq (.ops [o 9 (.iAddrS 1 (t 5) (t 7)), o 10 (.load 1 false (t 9)), o 4 (.mov (t 10))])
 (.seq (.ops [o 11 (.mov (t 4)), o 12 (.bin .neq (t 11) (c (.int .i64 0)))])
 (.cond (t 12) (.seq (.ops [o 13 (.mov (t 4)), o 2 (.mov (t 13))])
 .ret) .skip))))
 (.ops [o 14 (.bin .add (t 7) (c (.int .i64 1))), o 7 (.mov (t 14))])))))))
 (.seq (.ops [o 2 (.mov (c (.int .i64 0)))])
 .ret)))⟩
def c54 : Func :=
⟨2, 7, [.tmp 4],
 (.seq (.ops [o 4 (.mov (c (.int .i64 0)))])
 (.seq (.seq (.ops [o 5 (.mov (t 0))])
 (.cond (t 5) (.seq (.ops [o 4 (.mov (c (.int .i64 0)))])
 .ret) .skip))
 (.seq (.ops [o 6 (.mov (t 1)), o 4 (.mov (t 6))])
 .ret)))⟩
def c55 : Func :=
⟨1, 6, [.tmp 2],
 (.seq (.ops [o 2 (.mov (c (.bool false)))])
 (.seq (.ops [o 3 (.mov (t 0)), o 4 (.call false (c (.fn 121 [] [])) [(t 3), (c (.fn 122 [] []))]), o 5 (.un .not (t 4)), o 2 (.mov (t 5))])
 .ret))⟩
def c56 : Func :=
⟨1, 16, [.tmp 2],
 (.seq (.ops [o 1 (.box (t 0)), o 2 (.mov (c (.int .i64 0)))])
 (.seq (.seq (.ops [o 6 (.load 2 true (t 1)), o 7 (.mov (c (.int .i64 0)))])
 (.block 0 (.loop (.seq (.ops [o 8 (.bin .lss (t 7) (c (.int .i64 2)))])
 (.seq (.cond (t 8) .skip (.exit 0))
 (.seq (.block 1 (.seq (.ops [o 9 (.idxArr 1 2 false (t 6) (t 7)), o 4 (.mov (t 9))])
 (.seq (.ops [o 10 (.mov (t 4)), o 11 (.call false (c (.fn 62 [] [])) [(t 10)]), o 5 (.mov (t 11))])
 (.seq (.ops [o 12 (.mov (t 5)), o 13 (.bin .neq (t 12) (c (.int .i64 0)))])
 (.cond (t 13) (.seq (.ops [o 14 (.mov (t 5)), o 2 (.mov (t 14))])
 .ret) .skip)))))
 (.ops [o 15 (.bin .add (t 7) (c (.int .i64 1))), o 7 (.mov (t 15))])))))))
 (.seq (.ops [o 2 (.mov (c (.int .i64 0)))])
 .ret)))⟩
def c57 : Func :=
⟨1, 44, [.tmp 2],
 (.seq (.ops [o 2 (.mov (c (.int .i64 0)))])
 (.seq (.seq (.ops [o 5 (.mov (t 0)), o 6 (.lenSl (t 5)), o 7 (.bin .gtr (t 6) (c (.int .i64 4)))])
 (.cond (t 7) (.seq (.ops [o 2 (.mov (c (.int .i64 3)))])
 .ret) .skip))
 (.seq (.seq (.ops [o 8 (.mov (t 0)), o 9 (.lenSl (t 8)), o 10 (.mov (c (.int .i64 0)))])
 (.block 0 (.loop (.seq (.ops [o 11 (.bin .lss (t 10) (t 9))])
 (.seq (.cond (t 11) .skip (.exit 0))
 (.seq (.block 1 (.seq (.ops [o 12 (.mov (t 10)), o 13 (.iAddrS 3 (t 8) (t 10)), o 14 (.load 3 true (t 13)), o 4 (.alloc [(.str ⟨#[]⟩), (.str ⟨#[]⟩), (.bool false)]), o 3 (.mov (t 12)), w (.store 3 (t 4) (t 14))])
 (.block 2 (.seq (.ops [o 16 (.fAddr 0 (t 4)), o 17 (.load 1 false (t 16)), o 18 (.call false (c (.fn 89 [] [])) [(t 17)]), o 19 (.un .not (t 18)), o 15 (.mov (t 19))])
 (.cond (t 15) (.seq (.ops [o 2 (.mov (c (.int .i64 7)))])
 .ret) (.seq (.seq (.ops [o 21 (.fAddr 2 (t 4)), o 22 (.load 1 false (t 21)), o 23 (.mov (t 22)), ⟨some 24, .fAddr 1 (t 4), some (23, true)⟩, ⟨some 25, .load 1 false (t 24), some (23, true)⟩, ⟨some 26, .bin .neq (t 25) (c (.str ⟨#[]⟩)), some (23, true)⟩, o 27 (.pick (t 23) (t 26) (c (.bool false))), o 20 (.mov (t 27))])
 (.cond (t 20) .skip (.ops [o 28 (.fAddr 2 (t 4)), o 29 (.load 1 false (t 28)), o 30 (.un .not (t 29)), o 31 (.mov (t 30)), ⟨some 32, .fAddr 1 (t 4), some (31, true)⟩, ⟨some 33, .load 1 false (t 32), some (31, true)⟩, ⟨some 34, .call false (c (.fn 90 [] [])) [(t 33)], some (31, true)⟩, ⟨some 35, .un .not (t 34), some (31, true)⟩, o 36 (.pick (t 31) (t 35) (c (.bool false))), o 20 (.mov (t 36))])))
 (.cond (t 20) (.seq (.ops [o 2 (.mov (c (.int .i64 20)))])
 .ret) (.seq (.ops [o 38 (.mov (t 0)), o 39 (.mov (t 3)), o 40 (.slc 3 (t 38) none (some (t 39))), o 41 (.load 3 true (t 4)), o 42 (.call true (c (.fn 123 [] [])) [(t 40), (t 41)]), o 37 (.mov (t 42))])
 (.cond (t 37) (.seq (.ops [o 2 (.mov (c (.int .i64 6)))])
 .ret) .skip)))))))))
 (.ops [o 43 (.bin .add (t 10) (c (.int .i64 1))), o 10 (.mov (t 43))])))))))
 (.seq (.ops [o 2 (.mov (c (.int .i64 0)))])
 .ret))))⟩
def c58 : Func :=
⟨1, 75, [.tmp 2],
 (.seq (.ops [o 1 (.box (t 0)), o 2 (.mov (c (.int .i64 0)))])
 (.seq (.seq (.ops [o 11 (.fAddr 7 (t 1)), o 12 (.load 1 false (t 11)), o 13 (.lenSl (t 12)), o 14 (.fAddr 8 (t 1)), o 15 (.load 1 false (t 14)), o 16 (.lenSl (t 15)), o 17 (.fAddr 9 (t 1)), o 18 (.load 1 false (t 17)), o 19 (.lenSl (t 18)), o 20 (.mm true .i64 (t 13) [(t 16), (t 19)]), o 21 (.bin .gtr (t 20) (c (.int .i64 3)))])
 (.cond (t 21) (.seq (.ops [o 2 (.mov (c (.int .i64 3)))])
 .ret) .skip))
 (.seq (.seq (.ops [o 22 (.fAddr 7 (t 1)), o 23 (.load 1 false (t 22)), o 24 (.lenSl (t 23)), o 25 (.mov (c (.int .i64 0)))])
 (.block 0 (.loop (.seq (.ops [o 26 (.bin .lss (t 25) (t 24))])
 (.seq (.cond (t 26) .skip (.exit 0))
 (.seq (.block 1 (.seq (.ops [o 27 (.iAddrS 3 (t 23) (t 25)), o 28 (.load 3 true (t 27)), o 4 (.alloc [(.str ⟨#[]⟩), (.str ⟨#[]⟩), (.int .i64 0)]), w (.store 3 (t 4) (t 28))])
 (.seq (.ops [o 29 (.fAddr 0 (t 4)), o 30 (.load 1 false (t 29)), o 31 (.fAddr 1 (t 4)), o 32 (.load 1 false (t 31)), o 33 (.call true (c (.fn 124 [] [])) [(t 30), (t 32)]), o 34 (.fAddr 2 (t 4)), o 35 (.load 1 false (t 34)), o 36 (.bin .geq (t 35) (c (.int .i64 1))), o 37 (.mov (t 36)), ⟨some 38, .fAddr 2 (t 4), some (37, true)⟩, ⟨some 39, .load 1 false (t 38), some (37, true)⟩, ⟨some 40, .bin .leq (t 39) (c (.int .i64 16)), some (37, true)⟩, o 41 (.pick (t 37) (t 40) (c (.bool false))), o 42 (.call true (c (.fn 54 [] [])) [(t 41), (c (.int .i64 1))]), o 43 (.mkSl true 1 46 (.int .i64 0) 2 [(0, (t 33)), (1, (t 42))]), o 44 (.call true (c (.fn 53 [] [])) [(t 43)]), o 5 (.mov (t 44))])
 (.seq (.ops [o 45 (.mov (t 5)), o 46 (.bin .neq (t 45) (c (.int .i64 0)))])
 (.cond (t 46) (.seq (.ops [o 47 (.mov (t 5)), o 2 (.mov (t 47))])
 .ret) .skip)))))
 (.ops [o 48 (.bin .add (t 25) (c (.int .i64 1))), o 25 (.mov (t 48))])))))))
 (.seq (.seq (.ops [o 49 (.fAddr 8 (t 1)), o 50 (.load 1 false (t 49)), o 51 (.fAddr 9 (t 1)), o 52 (.load 1 false (t 51)), o 53 (.mkSl false 1 27 (.sl 2 true []) 2 [(0, (t 50)), (1, (t 52))]), o 54 (.lenSl (t 53)), o 55 (.mov (c (.int .i64 0)))])
 (.block 2 (.loop (.seq (.ops [o 56 (.bin .lss (t 55) (t 54))])
 (.seq (.cond (t 56) .skip (.exit 2))
 (.seq (.block 3 (.seq (.ops [o 57 (.iAddrS 1 (t 53) (t 55)), o 58 (.load 1 false (t 57)), o 7 (.mov (t 58))])
 (.seq (.ops [o 59 (.mov (t 7)), o 60 (.lenSl (t 59)), o 61 (.mov (c (.int .i64 0)))])
 (.block 4 (.loop (.seq (.ops [o 62 (.bin .lss (t 61) (t 60))])
 (.seq (.cond (t 62) .skip (.exit 4))
 (.seq (.block 5 (.seq (.ops [o 63 (.iAddrS 2 (t 59) (t 61)), o 64 (.load 2 true (t 63)), o 9 (.alloc [(.str ⟨#[]⟩), (.str ⟨#[]⟩)]), w (.store 2 (t 9) (t 64))])
 (.seq (.ops [o 65 (.fAddr 0 (t 9)), o 66 (.load 1 false (t 65)), o 67 (.fAddr 1 (t 9)), o 68 (.load 1 false (t 67)), o 69 (.call false (c (.fn 124 [] [])) [(t 66), (t 68)]), o 10 (.mov (t 69))])
 (.seq (.ops [o 70 (.mov (t 10)), o 71 (.bin .neq (t 70) (c (.int .i64 0)))])
 (.cond (t 71) (.seq (.ops [o 72 (.mov (t 10)), o 2 (.mov (t 72))])
 .ret) .skip)))))
 (.ops [o 73 (.bin .add (t 61) (c (.int .i64 1))), o 61 (.mov (t 73))])))))))))
 (.ops [o 74 (.bin .add (t 55) (c (.int .i64 1))), o 55 (.mov (t 74))])))))))
 (.seq (.ops [o 2 (.mov (c (.int .i64 0)))])
 .ret)))))⟩
def c59 : Func :=
⟨3, 15, [.tmp 6],
 (.seq (.ops [o 6 (.mov (c (.bool false)))])
 (.seq (.ops [o 7 (.mov (t 0)), o 8 (.mov (t 1)), o 9 (.bin .geq (t 7) (t 8)), o 10 (.mov (t 9)), ⟨some 11, .mov (t 0), some (10, true)⟩, ⟨some 12, .mov (t 2), some (10, true)⟩, ⟨some 13, .bin .leq (t 11) (t 12), some (10, true)⟩, o 14 (.pick (t 10) (t 13) (c (.bool false))), o 6 (.mov (t 14))])
 .ret))⟩
def c60 : Func :=
⟨1, 9, [.tmp 2],
 (.seq (.ops [o 2 (.mov (c (.bool false)))])
 (.seq (.ops [o 3 (.mov (t 0)), o 4 (.bin .eql (t 3) (c (.str ⟨#[]⟩))), o 5 (.mov (t 4)), ⟨some 6, .mov (t 0), some (5, false)⟩, ⟨some 7, .call false (c (.fn 89 [] [])) [(t 6)], some (5, false)⟩, o 8 (.pick (t 5) (c (.bool true)) (t 7)), o 2 (.mov (t 8))])
 .ret))⟩
def c61 : Func :=
⟨1, 32, [.tmp 2],
 (.seq (.ops [o 2 (.mov (c (.int .i64 0)))])
 (.seq (.seq (.ops [o 5 (.mov (t 0)), o 6 (.lenSl (t 5)), o 7 (.bin .gtr (t 6) (c (.int .i64 4)))])
 (.cond (t 7) (.seq (.ops [o 2 (.mov (c (.int .i64 3)))])
 .ret) .skip))
 (.seq (.seq (.ops [o 8 (.mov (t 0)), o 9 (.lenSl (t 8)), o 10 (.mov (c (.int .i64 0)))])
 (.block 0 (.loop (.seq (.ops [o 11 (.bin .lss (t 10) (t 9))])
 (.seq (.cond (t 11) .skip (.exit 0))
 (.seq (.block 1 (.seq (.ops [o 12 (.mov (t 10)), o 13 (.iAddrS 2 (t 8) (t 10)), o 14 (.load 2 true (t 13)), o 4 (.alloc [(.str ⟨#[]⟩), (.str ⟨#[]⟩)]), o 3 (.mov (t 12)), w (.store 2 (t 4) (t 14))])
 (.block 2 (.seq (.ops [o 16 (.fAddr 0 (t 4)), o 17 (.load 1 false (t 16)), o 18 (.call false (c (.fn 89 [] [])) [(t 17)]), o 19 (.un .not (t 18)), o 15 (.mov (t 19))])
 (.cond (t 15) (.seq (.ops [o 2 (.mov (c (.int .i64 7)))])
 .ret) (.seq (.ops [o 21 (.fAddr 1 (t 4)), o 22 (.load 1 false (t 21)), o 23 (.call false (c (.fn 90 [] [])) [(t 22)]), o 24 (.un .not (t 23)), o 20 (.mov (t 24))])
 (.cond (t 20) (.seq (.ops [o 2 (.mov (c (.int .i64 20)))])
 .ret) (.seq (.ops [o 26 (.mov (t 0)), o 27 (.mov (t 3)), o 28 (.slc 2 (t 26) none (some (t 27))), o 29 (.mkf 126 [] [(t 4)]), o 30 (.call false (c (.fn 125 [] [])) [(t 28), (t 29)]), o 25 (.mov (t 30))])
 (.cond (t 25) (.seq (.ops [o 2 (.mov (c (.int .i64 6)))])
 .ret) .skip)))))))))
 (.ops [o 31 (.bin .add (t 10) (c (.int .i64 1))), o 10 (.mov (t 31))])))))))
 (.seq (.ops [o 2 (.mov (c (.int .i64 0)))])
 .ret))))⟩
def c62 : Func :=
⟨1, 9, [.tmp 2],
 (.seq (.ops [o 2 (.mov (c (.int .i64 0)))])
 (.seq (.block 0 (.seq (.ops [o 4 (.mov (t 0)), o 5 (.bin .lss (t 4) (c (.int .i64 0))), o 3 (.mov (t 5))])
 (.cond (t 3) (.seq (.ops [o 2 (.mov (c (.int .i64 11)))])
 .ret) (.seq (.ops [o 7 (.mov (t 0)), o 8 (.bin .gtr (t 7) (c (.int .i64 1125899906842624))), o 6 (.mov (t 8))])
 (.cond (t 6) (.seq (.ops [o 2 (.mov (c (.int .i64 10)))])
 .ret) .skip)))))
 (.seq (.ops [o 2 (.mov (c (.int .i64 0)))])
 .ret)))⟩
def c63 : Func :=
⟨1, 38, [.tmp 2],
 (.seq (.ops [o 2 (.mov (c (.int .i64 0)))])
 (.seq (.seq (.ops [o 6 (.mov (t 0)), o 7 (.lenSl (t 6)), o 8 (.bin .gtr (t 7) (c (.int .i64 72)))])
 (.cond (t 8) (.seq (.ops [o 2 (.mov (c (.int .i64 3)))])
 .ret) .skip))
 (.seq (.seq (.ops [o 9 (.mov (t 0)), o 10 (.lenSl (t 9)), o 11 (.mov (c (.int .i64 0)))])
 (.block 0 (.loop (.seq (.ops [o 12 (.bin .lss (t 11) (t 10))])
 (.seq (.cond (t 12) .skip (.exit 0))
 (.seq (.block 1 (.seq (.ops [o 13 (.mov (t 11)), o 14 (.iAddrS 3 (t 9) (t 11)), o 15 (.load 3 true (t 14)), o 4 (.alloc [(.str ⟨#[]⟩), (.str ⟨#[]⟩), (.str ⟨#[]⟩)]), o 3 (.mov (t 13)), w (.store 3 (t 4) (t 15))])
 (.seq (.ops [o 16 (.fAddr 0 (t 4)), o 17 (.load 1 false (t 16)), o 18 (.fAddr 1 (t 4)), o 19 (.load 1 false (t 18)), o 20 (.fAddr 2 (t 4)), o 21 (.load 1 false (t 20)), o 22 (.mkSl true 1 9 (.str ⟨#[]⟩) 3 [(0, (t 17)), (1, (t 19)), (2, (t 21))]), o 23 (.call true (c (.fn 55 [] [])) [(t 22)]), o 24 (.call true (c (.fn 54 [] [])) [(t 23), (c (.int .i64 7))]), o 25 (.mov (t 0)), o 26 (.mov (t 3)), o 27 (.slc 3 (t 25) none (some (t 26))), o 28 (.load 3 true (t 4)), o 29 (.call true (c (.fn 127 [] [])) [(t 27), (t 28)]), o 30 (.un .not (t 29)), o 31 (.call true (c (.fn 54 [] [])) [(t 30), (c (.int .i64 6))]), o 32 (.mkSl true 1 46 (.int .i64 0) 2 [(0, (t 24)), (1, (t 31))]), o 33 (.call true (c (.fn 53 [] [])) [(t 32)]), o 5 (.mov (t 33))])
 (.seq (.ops [o 34 (.mov (t 5)), o 35 (.bin .neq (t 34) (c (.int .i64 0)))])
 (.cond (t 35) (.seq (.ops [o 36 (.mov (t 5)), o 2 (.mov (t 36))])
 .ret) .skip)))))
 (.ops [o 37 (.bin .add (t 11) (c (.int .i64 1))), o 11 (.mov (t 37))])))))))
 (.seq (.ops [o 2 (.mov (c (.int .i64 0)))])
 .ret))))⟩
def c108 : Func :=
⟨1, 32, [.tmp 2],
 (.seq (.ops [o 1 (.box (t 0)), o 2 (.mov (c (.int .i64 0)))])
 (.seq (.seq (.ops [o 4 (.fAddr 0 (t 1)), o 5 (.load 3 true (t 4)), o 3 (.alloc [(.str ⟨#[]⟩), (.str ⟨#[]⟩), (.str ⟨#[]⟩)]), w (.store 3 (t 3) (t 5))])
 (.block 0 (.seq (.ops [o 7 (.fAddr 0 (t 3)), o 8 (.load 1 false (t 7)), o 9 (.call false (c (.fn 89 [] [])) [(t 8)]), o 10 (.un .not (t 9)), o 11 (.mov (t 10)), ⟨some 12, .fAddr 1 (t 3), some (11, false)⟩, ⟨some 13, .load 1 false (t 12), some (11, false)⟩, ⟨some 14, .call false (c (.fn 89 [] [])) [(t 13)], some (11, false)⟩, ⟨some 15, .un .not (t 14), some (11, false)⟩, o 16 (.pick (t 11) (c (.bool true)) (t 15)), o 17 (.mov (t 16)), ⟨some 18, .fAddr 2 (t 3), some (17, false)⟩, ⟨some 19, .load 1 false (t 18), some (17, false)⟩, ⟨some 20, .call false (c (.fn 89 [] [])) [(t 19)], some (17, false)⟩, ⟨some 21, .un .not (t 20), some (17, false)⟩, o 22 (.pick (t 17) (c (.bool true)) (t 21)), o 6 (.mov (t 22))])
 (.cond (t 6) (.seq (.ops [o 2 (.mov (c (.int .i64 7)))])
 .ret) (.seq (.ops [o 24 (.fAddr 3 (t 1)), o 25 (.load 1 false (t 24)), o 26 (.bin .lss (t 25) (c (.int .i64 0))), o 27 (.mov (t 26)), ⟨some 28, .fAddr 3 (t 1), some (27, false)⟩, ⟨some 29, .load 1 false (t 28), some (27, false)⟩, ⟨some 30, .bin .gtr (t 29) (c (.int .i64 1099511627776)), some (27, false)⟩, o 31 (.pick (t 27) (c (.bool true)) (t 30)), o 23 (.mov (t 31))])
 (.cond (t 23) (.seq (.ops [o 2 (.mov (c (.int .i64 1)))])
 .ret) .skip))))))
 (.seq (.ops [o 2 (.mov (c (.int .i64 0)))])
 .ret)))⟩
def c109 : Func :=
⟨2, 22, [.tmp 4],
 (.seq (.ops [o 2 (.box (t 0)), o 3 (.box (t 1)), o 4 (.mov (c (.int .i64 0)))])
 (.seq (.ops [o 5 (.fAddr 0 (t 2)), o 6 (.load 1 false (t 5)), o 7 (.fAddr 0 (t 3)), o 8 (.load 1 false (t 7)), o 9 (.call true (c (.fn 88 [] [])) [(t 6), (t 8)]), o 10 (.fAddr 1 (t 2)), o 11 (.load 1 false (t 10)), o 12 (.fAddr 1 (t 3)), o 13 (.load 1 false (t 12)), o 14 (.call true (c (.fn 88 [] [])) [(t 11), (t 13)]), o 15 (.fAddr 2 (t 2)), o 16 (.load 1 false (t 15)), o 17 (.fAddr 2 (t 3)), o 18 (.load 1 false (t 17)), o 19 (.call true (c (.fn 88 [] [])) [(t 16), (t 18)]), o 20 (.mkSl true 1 3 (.int .i64 0) 3 [(0, (t 9)), (1, (t 14)), (2, (t 19))]), o 21 (.call true (c (.fn 200 [] [])) [(t 20)]), o 4 (.mov (t 21))])
 .ret))⟩
def c111 : Func :=
⟨1, 13, [.tmp 2],
 (.seq (.ops [o 1 (.box (t 0)), o 2 (.mov (c (.int .i64 0)))])
 (.seq (.ops [o 4 (.iAddrA 1 2 (t 1) (c (.int .i64 0))), o 5 (.load 1 false (t 4)), o 6 (.call false (c (.fn 117 [] [])) [(t 5)]), o 3 (.mov (t 6))])
 (.seq (.seq (.ops [o 7 (.mov (t 3)), o 8 (.bin .neq (t 7) (c (.int .i64 0)))])
 (.cond (t 8) (.seq (.ops [o 9 (.mov (t 3)), o 2 (.mov (t 9))])
 .ret) .skip))
 (.seq (.ops [o 10 (.iAddrA 1 2 (t 1) (c (.int .i64 1))), o 11 (.load 1 false (t 10)), o 12 (.call false (c (.fn 117 [] [])) [(t 11)]), o 2 (.mov (t 12))])
 .ret))))⟩
def c112 : Func :=
⟨1, 69, [.tmp 2],
 (.seq (.ops [o 2 (.mov (c (.int .i64 0)))])
 (.seq (.seq (.ops [o 7 (.mov (t 0)), o 8 (.lenSl (t 7)), o 9 (.bin .gtr (t 8) (c (.int .i64 4)))])
 (.cond (t 9) (.seq (.ops [o 2 (.mov (c (.int .i64 3)))])
 .ret) .skip))
 (.seq (.seq (.ops [o 3 (.mov (c (.int .i64 0)))])
 (.block 0 (.loop (.seq (.seq (.ops [o 10 (.mov (t 3)), o 11 (.mov (t 0)), o 12 (.lenSl (t 11)), o 13 (.bin .lss (t 10) (t 12))])
 (.cond (t 13) .skip (.exit 0)))
 (.seq (.block 1 (.seq (.ops [o 16 (.mov (t 0)), o 17 (.mov (t 3)), o 18 (.iAddrS 3 (t 16) (t 17)), o 19 (.fAddr 0 (t 18)), o 20 (.load 1 false (t 19)), o 21 (.call false (c (.fn 110 [] [])) [(t 20)]), o 4 (.mov (t 21))])
 (.seq (.seq (.ops [o 22 (.mov (t 4)), o 23 (.un .not (t 22))])
 (.cond (t 23) (.seq (.ops [o 2 (.mov (c (.int .i64 7)))])
 .ret) .skip))
 (.seq (.ops [o 24 (.mov (t 0)), o 25 (.mov (t 3)), o 26 (.iAddrS 3 (t 24) (t 25)), o 27 (.fAddr 1 (t 26)), o 28 (.load 1 false (t 27)), o 29 (.call false (c (.fn 193 [] [])) [(t 28)]), o 5 (.mov (t 29))])
 (.seq (.seq (.ops [o 30 (.mov (t 0)), o 31 (.mov (t 3)), o 32 (.iAddrS 3 (t 30) (t 31)), o 33 (.fAddr 2 (t 32)), o 34 (.load 1 false (t 33)), o 35 (.mov (t 34)), ⟨some 36, .mov (t 0), some (35, true)⟩, ⟨some 37, .mov (t 3), some (35, true)⟩, ⟨some 38, .iAddrS 3 (t 36) (t 37), some (35, true)⟩, ⟨some 39, .fAddr 1 (t 38), some (35, true)⟩, ⟨some 40, .load 1 false (t 39), some (35, true)⟩, ⟨some 41, .bin .neq (t 40) (c (.str ⟨#[]⟩)), some (35, true)⟩, o 42 (.pick (t 35) (t 41) (c (.bool false))), o 43 (.mov (t 42)), ⟨some 44, .mov (t 0), some (43, false)⟩, ⟨some 45, .mov (t 3), some (43, false)⟩, ⟨some 46, .iAddrS 3 (t 44) (t 45), some (43, false)⟩, ⟨some 47, .fAddr 2 (t 46), some (43, false)⟩, ⟨some 48, .load 1 false (t 47), some (43, false)⟩, ⟨some 49, .un .not (t 48), some (43, false)⟩, ⟨some 50, .mov (t 49), some (43, false)⟩, ⟨some 51, .mov (t 5), some (50, true)⟩, ⟨some 52, .un .not (t 51), some (50, true)⟩, ⟨some 53, .pick (t 50) (t 52) (c (.bool false)), some (43, false)⟩, o 54 (.pick (t 43) (c (.bool true)) (t 53))])
 (.cond (t 54) (.seq (.ops [o 2 (.mov (c (.int .i64 20)))])
 .ret) .skip))
 (.seq (.ops [o 6 (.mov (c (.int .i64 0)))])
 (.block 2 (.loop (.seq (.seq (.ops [o 55 (.mov (t 6)), o 56 (.mov (t 3)), o 57 (.bin .lss (t 55) (t 56))])
 (.cond (t 57) .skip (.exit 2)))
 (.seq (.block 3 (.seq (.ops [o 60 (.mov (t 0)), o 61 (.mov (t 6)), o 62 (.iAddrS 3 (t 60) (t 61)), o 63 (.load 3 true (t 62)), o 64 (.mov (t 0)), o 65 (.mov (t 3)), o 66 (.iAddrS 3 (t 64) (t 65)), o 67 (.load 3 true (t 66)), o 68 (.eqa false [(0, .str), (1, .str), (2, .bool)] (t 63) (t 67))])
 (.cond (t 68) (.seq (.ops [o 2 (.mov (c (.int .i64 6)))])
 .ret) .skip)))
 (.ops [o 58 (.mov (t 6)), o 59 (.bin .add (t 58) (c (.int .i64 1))), o 6 (.mov (t 59))])))))))))))
 (.ops [o 14 (.mov (t 3)), o 15 (.bin .add (t 14) (c (.int .i64 1))), o 3 (.mov (t 15))]))))))
 (.seq (.ops [o 2 (.mov (c (.int .i64 0)))])
 .ret))))⟩
def c113 : Func :=
⟨1, 24, [.tmp 2],
 (.seq (.ops [o 2 (.mov (c (.int .i64 0)))])
 (.seq (.seq (.ops [o 5 (.mov (t 0)), o 6 (.lenSl (t 5)), o 7 (.mov (c (.int .i64 0)))])
 (.block 0 (.loop (.seq (.ops [o 8 (.bin .lss (t 7) (t 6))])
 (.seq (.cond (t 8) .skip (.exit 0))
 (.seq (.block 1 (.seq (.ops [o 9 (.iAddrS 2 (t 5) (t 7)), o 10 (.load 2 true (t 9)), o 4 (.alloc [(.str ⟨#[]⟩), (.str ⟨#[]⟩)]), w (.store 2 (t 4) (t 10))])
 (.seq (.seq (.ops [o 11 (.fAddr 0 (t 4)), o 12 (.load 1 false (t 11)), o 13 (.bin .neq (t 12) (c (.str ⟨#[122, 111, 110, 101]⟩))), o 14 (.mov (t 13)), ⟨some 15, .fAddr 0 (t 4), some (14, true)⟩, ⟨some 16, .load 1 false (t 15), some (14, true)⟩, ⟨some 17, .bin .neq (t 16) (c (.str ⟨#[104, 111, 115, 116]⟩)), some (14, true)⟩, o 18 (.pick (t 14) (t 17) (c (.bool false)))])
 (.cond (t 18) (.seq (.ops [o 2 (.mov (c (.int .i64 1)))])
 .ret) .skip))
 (.seq (.ops [o 19 (.fAddr 1 (t 4)), o 20 (.load 1 false (t 19)), o 21 (.call false (c (.fn 110 [] [])) [(t 20)]), o 22 (.un .not (t 21))])
 (.cond (t 22) (.seq (.ops [o 2 (.mov (c (.int .i64 7)))])
 .ret) .skip)))))
 (.ops [o 23 (.bin .add (t 7) (c (.int .i64 1))), o 7 (.mov (t 23))])))))))
 (.seq (.ops [o 2 (.mov (c (.int .i64 0)))])
 .ret)))⟩
def c114 : Func :=
⟨3, 15, [.tmp 6],
 (.seq (.ops [o 6 (.mov (c (.bool false)))])
 (.seq (.ops [o 7 (.mov (t 0)), o 8 (.mov (t 1)), o 9 (.bin .geq (t 7) (t 8)), o 10 (.mov (t 9)), ⟨some 11, .mov (t 0), some (10, true)⟩, ⟨some 12, .mov (t 2), some (10, true)⟩, ⟨some 13, .bin .leq (t 11) (t 12), some (10, true)⟩, o 14 (.pick (t 10) (t 13) (c (.bool false))), o 6 (.mov (t 14))])
 .ret))⟩
def c115 : Func :=
⟨1, 48, [.tmp 2],
 (.seq (.ops [o 2 (.mov (c (.int .i64 0)))])
 (.seq (.seq (.ops [o 7 (.mov (t 0)), o 8 (.lenSl (t 7)), o 9 (.bin .gtr (t 8) (c (.int .i64 4)))])
 (.cond (t 9) (.seq (.ops [o 2 (.mov (c (.int .i64 3)))])
 .ret) .skip))
 (.seq (.seq (.ops [o 3 (.mov (c (.int .i64 0)))])
 (.block 0 (.loop (.seq (.seq (.ops [o 10 (.mov (t 3)), o 11 (.mov (t 0)), o 12 (.lenSl (t 11)), o 13 (.bin .lss (t 10) (t 12))])
 (.cond (t 13) .skip (.exit 0)))
 (.seq (.block 1 (.seq (.ops [o 16 (.mov (t 0)), o 17 (.mov (t 3)), o 18 (.iAddrS 2 (t 16) (t 17)), o 19 (.fAddr 0 (t 18)), o 20 (.load 1 false (t 19)), o 21 (.call false (c (.fn 110 [] [])) [(t 20)]), o 4 (.mov (t 21))])
 (.seq (.seq (.ops [o 22 (.mov (t 4)), o 23 (.un .not (t 22))])
 (.cond (t 23) (.seq (.ops [o 2 (.mov (c (.int .i64 7)))])
 .ret) .skip))
 (.seq (.ops [o 24 (.mov (t 0)), o 25 (.mov (t 3)), o 26 (.iAddrS 2 (t 24) (t 25)), o 27 (.fAddr 1 (t 26)), o 28 (.load 1 false (t 27)), o 29 (.call false (c (.fn 193 [] [])) [(t 28)]), o 5 (.mov (t 29))])
 (.seq (.seq (.ops [o 30 (.mov (t 5)), o 31 (.un .not (t 30))])
 (.cond (t 31) (.seq (.ops [o 2 (.mov (c (.int .i64 20)))])
 .ret) .skip))
 (.seq (.ops [o 6 (.mov (c (.int .i64 0)))])
 (.block 2 (.loop (.seq (.seq (.ops [o 32 (.mov (t 6)), o 33 (.mov (t 3)), o 34 (.bin .lss (t 32) (t 33))])
 (.cond (t 34) .skip (.exit 2)))
 (.seq (.block 3 (.seq (.ops [o 37 (.mov (t 0)), o 38 (.mov (t 6)), o 39 (.iAddrS 2 (t 37) (t 38)), o 40 (.fAddr 0 (t 39)), o 41 (.load 1 false (t 40)), o 42 (.mov (t 0)), o 43 (.mov (t 3)), o 44 (.iAddrS 2 (t 42) (t 43)), o 45 (.fAddr 0 (t 44)), o 46 (.load 1 false (t 45)), o 47 (.bin .eql (t 41) (t 46))])
 (.cond (t 47) (.seq (.ops [o 2 (.mov (c (.int .i64 6)))])
 .ret) .skip)))
 (.ops [o 35 (.mov (t 6)), o 36 (.bin .add (t 35) (c (.int .i64 1))), o 6 (.mov (t 36))])))))))))))
 (.ops [o 14 (.mov (t 3)), o 15 (.bin .add (t 14) (c (.int .i64 1))), o 3 (.mov (t 15))]))))))
 (.seq (.ops [o 2 (.mov (c (.int .i64 0)))])
 .ret))))⟩
def c116 : Func :=
⟨1, 16, [.tmp 2],
 (.seq (.ops [o 1 (.box (t 0)), o 2 (.mov (c (.bool false)))])
 (.seq (.ops [o 3 (.fAddr 0 (t 1)), o 4 (.load 1 false (t 3)), o 5 (.call false (c (.fn 110 [] [])) [(t 4)]), o 6 (.mov (t 5)), ⟨some 7, .fAddr 1 (t 1), some (6, true)⟩, ⟨some 8, .load 1 false (t 7), some (6, true)⟩, ⟨some 9, .call false (c (.fn 110 [] [])) [(t 8)], some (6, true)⟩, o 10 (.pick (t 6) (t 9) (c (.bool false))), o 11 (.mov (t 10)), ⟨some 12, .fAddr 2 (t 1), some (11, true)⟩, ⟨some 13, .load 1 false (t 12), some (11, true)⟩, ⟨some 14, .call false (c (.fn 110 [] [])) [(t 13)], some (11, true)⟩, o 15 (.pick (t 11) (t 14) (c (.bool false))), o 2 (.mov (t 15))])
 .ret))⟩
def c117 : Func :=
⟨1, 7, [.tmp 2],
 (.seq (.ops [o 2 (.mov (c (.int .i64 0)))])
 (.seq (.seq (.ops [o 3 (.mov (t 0)), o 4 (.bin .lss (t 3) (c (.int .i64 0)))])
 (.cond (t 4) (.seq (.ops [o 2 (.mov (c (.int .i64 11)))])
 .ret) .skip))
 (.seq (.seq (.ops [o 5 (.mov (t 0)), o 6 (.bin .gtr (t 5) (c (.int .i64 1125899906842624)))])
 (.cond (t 6) (.seq (.ops [o 2 (.mov (c (.int .i64 10)))])
 .ret) .skip))
 (.seq (.ops [o 2 (.mov (c (.int .i64 0)))])
 .ret))))⟩
def c118 : Func :=
⟨1, 33, [.tmp 2],
 (.seq (.ops [o 2 (.mov (c (.int .i64 0)))])
 (.seq (.seq (.ops [o 7 (.mov (t 0)), o 8 (.lenSl (t 7)), o 9 (.bin .gtr (t 8) (c (.int .i64 72)))])
 (.cond (t 9) (.seq (.ops [o 2 (.mov (c (.int .i64 3)))])
 .ret) .skip))
 (.seq (.seq (.ops [o 10 (.mov (t 0)), o 11 (.lenSl (t 10)), o 12 (.mov (c (.int .i64 0)))])
 (.block 0 (.loop (.seq (.ops [o 13 (.bin .lss (t 12) (t 11))])
 (.seq (.cond (t 13) .skip (.exit 0))
 (.seq (.block 1 (.seq (.ops [o 14 (.mov (t 12)), o 15 (.iAddrS 3 (t 10) (t 12)), o 16 (.load 3 true (t 15)), o 4 (.alloc [(.str ⟨#[]⟩), (.str ⟨#[]⟩), (.str ⟨#[]⟩)]), o 3 (.mov (t 14)), w (.store 3 (t 4) (t 16))])
 (.seq (.seq (.ops [o 17 (.load 3 true (t 4)), o 18 (.call false (c (.fn 116 [] [])) [(t 17)]), o 19 (.un .not (t 18))])
 (.cond (t 19) (.seq (.ops [o 2 (.mov (c (.int .i64 7)))])
 .ret) .skip))
 (.seq (.ops [o 20 (.mov (t 0)), o 21 (.mov (t 3)), o 22 (.slc 3 (t 20) none (some (t 21))), o 23 (.lenSl (t 22)), o 24 (.mov (c (.int .i64 0)))])
 (.block 2 (.loop (.seq (.ops [o 25 (.bin .lss (t 24) (t 23))])
 (.seq (.cond (t 25) .skip (.exit 2))
 (.seq (.block 3 (.seq (.ops [o 26 (.iAddrS 3 (t 22) (t 24)), o 27 (.load 3 true (t 26)), o 6 (.alloc [(.str ⟨#[]⟩), (.str ⟨#[]⟩), (.str ⟨#[]⟩)]), w (.store 3 (t 6) (t 27))])
 (.seq (.ops [o 28 (.load 3 true (t 6)), o 29 (.load 3 true (t 4)), o 30 (.eqa false [(0, .str), (1, .str), (2, .str)] (t 28) (t 29))])
 (.cond (t 30) (.seq (.ops [o 2 (.mov (c (.int .i64 6)))])
 .ret) .skip))))
 (.ops [o 31 (.bin .add (t 24) (c (.int .i64 1))), o 24 (.mov (t 31))]))))))))))
 (.ops [o 32 (.bin .add (t 12) (c (.int .i64 1))), o 12 (.mov (t 32))])))))))
 (.seq (.ops [o 2 (.mov (c (.int .i64 0)))])
 .ret))))⟩
def c119 : Func :=
⟨1, 36, [.tmp 2],
 (.seq (.ops [o 1 (.box (t 0)), o 2 (.mov (c (.int .i64 0)))])
 (.seq (.ops [o 6 (.fAddr 0 (t 1)), o 7 (.fAddr 0 (t 6)), o 8 (.load 1 false (t 7)), o 9 (.call false (c (.fn 110 [] [])) [(t 8)]), o 3 (.mov (t 9))])
 (.seq (.ops [o 10 (.fAddr 0 (t 1)), o 11 (.fAddr 1 (t 10)), o 12 (.load 1 false (t 11)), o 13 (.call false (c (.fn 110 [] [])) [(t 12)]), o 4 (.mov (t 13))])
 (.seq (.ops [o 14 (.fAddr 0 (t 1)), o 15 (.fAddr 2 (t 14)), o 16 (.load 1 false (t 15)), o 17 (.call false (c (.fn 110 [] [])) [(t 16)]), o 5 (.mov (t 17))])
 (.seq (.seq (.ops [o 18 (.mov (t 3)), o 19 (.un .not (t 18)), o 20 (.mov (t 19)), ⟨some 21, .mov (t 4), some (20, false)⟩, ⟨some 22, .un .not (t 21), some (20, false)⟩, o 23 (.pick (t 20) (c (.bool true)) (t 22)), o 24 (.mov (t 23)), ⟨some 25, .mov (t 5), some (24, false)⟩, ⟨some 26, .un .not (t 25), some (24, false)⟩, o 27 (.pick (t 24) (c (.bool true)) (t 26))])
 (.cond (t 27) (.seq (.ops [o 2 (.mov (c (.int .i64 7)))])
 .ret) .skip))
 (.seq (.seq (.ops [o 28 (.fAddr 3 (t 1)), o 29 (.load 1 false (t 28)), o 30 (.bin .lss (t 29) (c (.int .i64 0))), o 31 (.mov (t 30)), ⟨some 32, .fAddr 3 (t 1), some (31, false)⟩, ⟨some 33, .load 1 false (t 32), some (31, false)⟩, ⟨some 34, .bin .gtr (t 33) (c (.int .i64 1099511627776)), some (31, false)⟩, o 35 (.pick (t 31) (c (.bool true)) (t 34))])
 (.cond (t 35) (.seq (.ops [o 2 (.mov (c (.int .i64 1)))])
 .ret) .skip))
 (.seq (.ops [o 2 (.mov (c (.int .i64 0)))])
 .ret)))))))⟩
def c120 : Func :=
⟨2, 30, [.tmp 4],
 (.seq (.ops [o 2 (.box (t 0)), o 3 (.box (t 1)), o 4 (.mov (c (.bool false)))])
 (.seq (.seq (.ops [o 5 (.fAddr 0 (t 2)), o 6 (.load 1 false (t 5)), o 7 (.fAddr 0 (t 3)), o 8 (.load 1 false (t 7)), o 9 (.bin .neq (t 6) (t 8))])
 (.cond (t 9) (.seq (.ops [o 10 (.fAddr 0 (t 2)), o 11 (.load 1 false (t 10)), o 12 (.fAddr 0 (t 3)), o 13 (.load 1 false (t 12)), o 14 (.bin .lss (t 11) (t 13)), o 4 (.mov (t 14))])
 .ret) .skip))
 (.seq (.seq (.ops [o 15 (.fAddr 1 (t 2)), o 16 (.load 1 false (t 15)), o 17 (.fAddr 1 (t 3)), o 18 (.load 1 false (t 17)), o 19 (.bin .neq (t 16) (t 18))])
 (.cond (t 19) (.seq (.ops [o 20 (.fAddr 1 (t 2)), o 21 (.load 1 false (t 20)), o 22 (.fAddr 1 (t 3)), o 23 (.load 1 false (t 22)), o 24 (.bin .lss (t 21) (t 23)), o 4 (.mov (t 24))])
 .ret) .skip))
 (.seq (.ops [o 25 (.fAddr 2 (t 2)), o 26 (.load 1 false (t 25)), o 27 (.fAddr 2 (t 3)), o 28 (.load 1 false (t 27)), o 29 (.bin .lss (t 26) (t 28)), o 4 (.mov (t 29))])
 .ret))))⟩
def c122 : Func :=
⟨1, 6, [.tmp 2],
 (.seq (.ops [o 2 (.mov (c (.bool false)))])
 (.seq (.ops [o 3 (.mov (t 0)), o 4 (.call false (c (.fn 89 [] [])) [(t 3)]), o 5 (.un .not (t 4)), o 2 (.mov (t 5))])
 .ret))⟩
def c123 : Func :=
⟨2, 9, [.tmp 4],
 (.seq (.ops [o 3 (.box (t 1)), o 4 (.mov (c (.bool false)))])
 (.seq (.ops [o 5 (.mov (t 0)), o 6 (.load 3 true (t 3)), o 7 (.call false (c (.fn 202 [] [])) [(t 5), (t 6)]), o 8 (.bin .geq (t 7) (c (.int .i64 0))), o 4 (.mov (t 8))])
 .ret))⟩
def c124 : Func :=
⟨2, 18, [.tmp 4],
 (.seq (.ops [o 4 (.mov (c (.int .i64 0)))])
 (.seq (.ops [o 5 (.mov (t 0)), o 6 (.bin .eql (t 5) (c (.str ⟨#[122, 111, 110, 101]⟩))), o 7 (.mov (t 6)), ⟨some 8, .mov (t 0), some (7, false)⟩, ⟨some 9, .bin .eql (t 8) (c (.str ⟨#[104, 111, 115, 116]⟩)), some (7, false)⟩, o 10 (.pick (t 7) (c (.bool true)) (t 9)), o 11 (.call false (c (.fn 54 [] [])) [(t 10), (c (.int .i64 1))]), o 12 (.mov (t 1)), o 13 (.mkSl false 1 9 (.str ⟨#[]⟩) 1 [(0, (t 12))]), o 14 (.call false (c (.fn 55 [] [])) [(t 13)]), o 15 (.call false (c (.fn 54 [] [])) [(t 14), (c (.int .i64 7))]), o 16 (.mkSl false 1 46 (.int .i64 0) 2 [(0, (t 11)), (1, (t 15))]), o 17 (.call false (c (.fn 53 [] [])) [(t 16)]), o 4 (.mov (t 17))])
 .ret))⟩
def c125 : Func :=
⟨2, 9, [.tmp 4],
 (.seq (.ops [o 4 (.mov (c (.bool false)))])
 (.seq (.ops [o 5 (.mov (t 0)), o 6 (.mov (t 1)), o 7 (.call false (c (.fn 203 [] [])) [(t 5), (t 6)]), o 8 (.bin .geq (t 7) (c (.int .i64 0))), o 4 (.mov (t 8))])
 .ret))⟩
def c126 : Func :=
⟨2, 9, [.tmp 3],
 (.seq (.ops [o 2 (.box (t 0)), o 3 (.mov (c (.bool false)))])
 (.seq (.ops [o 4 (.fAddr 0 (t 2)), o 5 (.load 1 false (t 4)), o 6 (.fAddr 0 (t 1)), o 7 (.load 1 false (t 6)), o 8 (.bin .eql (t 5) (t 7)), o 3 (.mov (t 8))])
 .ret))⟩
def c127 : Func :=
⟨2, 9, [.tmp 4],
 (.seq (.ops [o 3 (.box (t 1)), o 4 (.mov (c (.bool false)))])
 (.seq (.ops [o 5 (.mov (t 0)), o 6 (.load 3 true (t 3)), o 7 (.call false (c (.fn 204 [] [])) [(t 5), (t 6)]), o 8 (.bin .geq (t 7) (c (.int .i64 0))), o 4 (.mov (t 8))])
 .ret))⟩
def c200 : Func :=
⟨1, 18, [.tmp 2],
 (.seq (.ops [o 2 (.mov (c (.int .i64 0)))])
 (.seq (.ops [o 3 (.mov (c (.int .i64 0)))])
 (.seq (.seq (.ops [o 6 (.mov (t 0)), o 7 (.lenSl (t 6)), o 8 (.mov (c (.int .i64 0)))])
 (.block 0 (.loop (.seq (.ops [o 9 (.bin .lss (t 8) (t 7))])
 (.seq (.cond (t 9) .skip (.exit 0))
 (.seq (.block 1 (.seq (.ops [o 10 (.iAddrS 1 (t 6) (t 8)), o 11 (.load 1 false (t 10)), o 5 (.mov (t 11))])
 (.seq (.ops [o 12 (.mov (t 5)), o 13 (.mov (t 3)), o 14 (.bin .neq (t 12) (t 13))])
 (.cond (t 14) (.seq (.ops [o 15 (.mov (t 5)), o 2 (.mov (t 15))])
 .ret) .skip))))
 (.ops [o 16 (.bin .add (t 8) (c (.int .i64 1))), o 8 (.mov (t 16))])))))))
 (.seq (.ops [o 17 (.mov (t 3)), o 2 (.mov (t 17))])
 .ret))))⟩
def c202 : Func :=
⟨2, 19, [.tmp 4],
 (.seq (.ops [o 3 (.box (t 1)), o 4 (.mov (c (.int .i64 0)))])
 (.seq (.seq (.ops [o 6 (.mov (t 0)), o 7 (.lenSl (t 6)), o 8 (.mov (c (.int .i64 0)))])
 (.block 0 (.loop (.seq (.ops [o 9 (.bin .lss (t 8) (t 7))])
 (.seq (.cond (t 9) .skip (.exit 0))
 (.seq (.block 1 (.seq (.ops [o 10 (.mov (t 8)), o 5 (.mov (t 10))])
 (.seq (.ops [o 11 (.load 3 true (t 3)), o 12 (.mov (t 0)), o 13 (.mov (t 5)), o 14 (.iAddrS 3 (t 12) (t 13)), o 15 (.load 3 true (t 14)), o 16 (.eqa false [(0, .str), (1, .str), (2, .bool)] (t 11) (t 15))])
 (.cond (t 16) (.seq (.ops [o 17 (.mov (t 5)), o 4 (.mov (t 17))])
 .ret) .skip))))
 (.ops [o 18 (.bin .add (t 8) (c (.int .i64 1))), o 8 (.mov (t 18))])))))))
 (.seq (.ops [o 4 (.mov (c (.int .i64 (-1))))])
 .ret)))⟩
def c203 : Func :=
⟨2, 19, [.tmp 4],
 (.seq (.ops [o 4 (.mov (c (.int .i64 0)))])
 (.seq (.seq (.ops [o 6 (.mov (t 0)), o 7 (.lenSl (t 6)), o 8 (.mov (c (.int .i64 0)))])
 (.block 0 (.loop (.seq (.ops [o 9 (.bin .lss (t 8) (t 7))])
 (.seq (.cond (t 9) .skip (.exit 0))
 (.seq (.block 1 (.seq (.ops [o 10 (.mov (t 8)), o 5 (.mov (t 10))])
 (.seq (.ops [o 11 (.mov (t 1)), o 12 (.mov (t 0)), o 13 (.mov (t 5)), o 14 (.iAddrS 2 (t 12) (t 13)), o 15 (.load 2 true (t 14)), o 16 (.call false (t 11) [(t 15)])])
 (.cond (t 16) (.seq (.ops [o 17 (.mov (t 5)), o 4 (.mov (t 17))])
 .ret) .skip))))
 (.ops [o 18 (.bin .add (t 8) (c (.int .i64 1))), o 8 (.mov (t 18))])))))))
 (.seq (.ops [o 4 (.mov (c (.int .i64 (-1))))])
 .ret)))⟩
def c204 : Func :=
⟨2, 19, [.tmp 4],
 (.seq (.ops [o 3 (.box (t 1)), o 4 (.mov (c (.int .i64 0)))])
 (.seq (.seq (.ops [o 6 (.mov (t 0)), o 7 (.lenSl (t 6)), o 8 (.mov (c (.int .i64 0)))])
 (.block 0 (.loop (.seq (.ops [o 9 (.bin .lss (t 8) (t 7))])
 (.seq (.cond (t 9) .skip (.exit 0))
 (.seq (.block 1 (.seq (.ops [o 10 (.mov (t 8)), o 5 (.mov (t 10))])
 (.seq (.ops [o 11 (.load 3 true (t 3)), o 12 (.mov (t 0)), o 13 (.mov (t 5)), o 14 (.iAddrS 3 (t 12) (t 13)), o 15 (.load 3 true (t 14)), o 16 (.eqa false [(0, .str), (1, .str), (2, .str)] (t 11) (t 15))])
 (.cond (t 16) (.seq (.ops [o 17 (.mov (t 5)), o 4 (.mov (t 17))])
 .ret) .skip))))
 (.ops [o 18 (.bin .add (t 8) (c (.int .i64 1))), o 8 (.mov (t 18))])))))))
 (.seq (.ops [o 4 (.mov (c (.int .i64 (-1))))])
 .ret)))⟩
end Go.Proofs.AM
namespace Go.Proofs.AM
open Go Go.Lib Cd
set_option maxRecDepth 100000 in
theorem amt62_ok (R : Ans) (n : Int) : AnsF R c62 [.int .i64 n] (.int .i64 (amtE n)) := by
  obtain ⟨r, hr⟩ : ∃ r, r = amtE n := ⟨_, rfl⟩
  rw [← hr]
  refine wpF_sound ⟨rfl, by decide⟩ fun O hO V hV => ?_
  subst hV
  conv => cbv
  repeat' (rintro (_ | _) h <;> (first | replace h := ci hO h | replace h := cs hO h) <;> (dsimp only [CmpI, CmpS] at h) <;> (conv => cbv))
  all_goals (rw [hr]; unfold amtE; (repeat' split) <;> first | rfl | omega)
set_option maxRecDepth 100000 in
theorem amt117_ok (R : Ans) (n : Int) : AnsF R c117 [.int .i64 n] (.int .i64 (amtE n)) := by
  obtain ⟨r, hr⟩ : ∃ r, r = amtE n := ⟨_, rfl⟩
  rw [← hr]
  refine wpF_sound ⟨rfl, by decide⟩ fun O hO V hV => ?_
  subst hV
  conv => cbv
  repeat' (rintro (_ | _) h <;> (first | replace h := ci hO h | replace h := cs hO h) <;> (dsimp only [CmpI, CmpS] at h) <;> (conv => cbv))
  all_goals (rw [hr]; unfold amtE; (repeat' split) <;> first | rfl | omega)
set_option maxRecDepth 100000 in
theorem amts111_ok (R : Ans) (a b : Int) (h117 : ∀ n, R.v 117 [.int .i64 n] (.int .i64 (amtE n))) : AnsF R c111 [.agg [.int .i64 a, .int .i64 b]] (.int .i64 (amtsE a b)) := by
  obtain ⟨r, hr⟩ : ∃ r, r = amtsE a b := ⟨_, rfl⟩
  have k1 := h117 a
  have k2 := h117 b
  rw [← hr]
  unfold amtsE at hr
  obtain ⟨e1, he1⟩ : ∃ e, e = amtE a := ⟨_, rfl⟩
  obtain ⟨e2, he2⟩ : ∃ e, e = amtE b := ⟨_, rfl⟩
  rw [← he1] at k1 hr
  rw [← he2] at k2 hr
  refine wpF_sound ⟨rfl, by decide⟩ fun O hO V hV => ?_
  subst hV
  conv => cbv
  repeat' (first | (rintro (_ | _) h <;> (first | replace h := ci hO h | replace h := cs hO h) <;> (dsimp only [CmpI, CmpS] at h) <;> (conv => cbv)) | (refine ⟨_, by assumption, ?_⟩; (conv => cbv)))
  all_goals (rw [hr]; (repeat' split) <;> first | rfl | omega)
set_option maxRecDepth 100000 in
theorem want54_ok (R : Ans) (b : Bool) (e : Int) : AnsF R c54 [.bool b, .int .i64 e] (.int .i64 (wantI b e)) := by
  refine wpF_sound ⟨rfl, by decide⟩ fun O hO V hV => ?_
  subst hV
  cases b <;> (conv => cbv) <;> trivial
set_option maxRecDepth 100000 in
theorem btw59_ok (R : Ans) (n lo hi : Int) : AnsF R c59 [.int .i64 n, .int .i64 lo, .int .i64 hi] (.bool (btw n lo hi)) := by
  obtain ⟨r, hr⟩ : ∃ r, r = btw n lo hi := ⟨_, rfl⟩
  rw [← hr]
  refine wpF_sound ⟨rfl, by decide⟩ fun O hO V hV => ?_
  subst hV
  conv => cbv
  repeat' (rintro (_ | _) h <;> (first | replace h := ci hO h | replace h := cs hO h) <;> (dsimp only [CmpI, CmpS] at h) <;> (conv => cbv))
  all_goals (rw [hr]; unfold btw; simp; omega)
set_option maxRecDepth 100000 in
theorem btw114_ok (R : Ans) (n lo hi : Int) : AnsF R c114 [.int .i64 n, .int .i64 lo, .int .i64 hi] (.bool (btw n lo hi)) := by
  obtain ⟨r, hr⟩ : ∃ r, r = btw n lo hi := ⟨_, rfl⟩
  rw [← hr]
  refine wpF_sound ⟨rfl, by decide⟩ fun O hO V hV => ?_
  subst hV
  conv => cbv
  repeat' (rintro (_ | _) h <;> (first | replace h := ci hO h | replace h := cs hO h) <;> (dsimp only [CmpI, CmpS] at h) <;> (conv => cbv))
  all_goals (rw [hr]; unfold btw; simp; omega)
set_option maxRecDepth 100000 in
theorem none60_ok (R : Ans) (s : Str) (h89 : R.v 89 [mkS s] (.bool (nameB s))) : AnsF R c60 [mkS s] (.bool (noneB s)) := by
  obtain ⟨r, hr⟩ : ∃ r, r = noneB s := ⟨_, rfl⟩
  rw [← hr]
  unfold noneB at hr
  obtain ⟨q, hq⟩ : ∃ q, q = nameB s := ⟨_, rfl⟩
  rw [← hq] at h89 hr
  clear hq
  refine wpF_sound ⟨rfl, by decide⟩ fun O hO V hV => ?_
  subst hV
  cases q <;> (conv => cbv)
  all_goals (repeat' (first | (rintro (_ | _) h <;> (first | replace h := ci hO h | replace h := cs hO h) <;> (dsimp only [CmpI, CmpS] at h) <;> (conv => cbv)) | (refine ⟨_, by assumption, ?_⟩; (conv => cbv))))
  all_goals (rw [hr]; simp [h])
set_option maxRecDepth 100000 in
theorem notname122_ok (R : Ans) (s : Str) (h89 : R.v 89 [mkS s] (.bool (nameB s))) : AnsF R c122 [mkS s] (.bool (!nameB s)) := by
  obtain ⟨q, hq⟩ : ∃ q, q = nameB s := ⟨_, rfl⟩
  rw [← hq] at h89 ⊢
  clear hq
  refine wpF_sound ⟨rfl, by decide⟩ fun O hO V hV => ?_
  subst hV
  conv => cbv
  refine ⟨_, h89, ?_⟩
  cases q <;> (conv => cbv) <;> trivial
set_option maxRecDepth 100000 in
theorem named55_ok (R : Ans) (l : List Str) (h121 : ∀ b : Bool, (b = true ↔ ∃ y ∈ l, (!nameB y) = true) → R.v 121 [.sl 1 false (l.map mkS), .fn 122 [] []] (.bool b)) : AnsF R c55 [.sl 1 false (l.map mkS)] (.bool (l.all nameB)) := by
  obtain ⟨q, hq⟩ : ∃ q, q = !l.all nameB := ⟨_, rfl⟩
  have k := h121 q (by rw [hq]; simp)
  rw [show l.all nameB = !q by rw [hq]; simp]
  clear hq h121
  obtain ⟨xs, hxs⟩ : ∃ xs, xs = l.map mkS := ⟨_, rfl⟩
  have hcx : CleanL xs := cleanL_map clean_S hxs
  rw [← hxs] at k ⊢
  refine wpF_sound ⟨rfl, by decide⟩ fun O hO V hV => ?_
  subst hV
  conv => cbv
  refine ⟨hcx, _, k, ?_⟩
  cases q <;> (conv => cbv) <;> trivial
set_option maxRecDepth 100000 in
theorem names116_ok (R : Ans) (o : OffV) (hf : FO o) (h110 : ∀ s, SL s → R.v 110 [mkS s] (.bool (nameB s))) : AnsF R c116 [offD o] (.bool (nmB o)) := by
  obtain ⟨x, y, z⟩ := o
  have k1 := h110 x hf.t
  have k2 := h110 y hf.z
  have k3 := h110 z hf.k
  obtain ⟨r, hr⟩ : ∃ r, r = nmB ⟨x, y, z⟩ := ⟨_, rfl⟩
  rw [← hr]
  unfold nmB at hr
  simp only at hr
  obtain ⟨q1, hq1⟩ : ∃ q, q = nameB x := ⟨_, rfl⟩
  obtain ⟨q2, hq2⟩ : ∃ q, q = nameB y := ⟨_, rfl⟩
  obtain ⟨q3, hq3⟩ : ∃ q, q = nameB z := ⟨_, rfl⟩
  rw [← hq1] at k1 hr
  rw [← hq2] at k2 hr
  rw [← hq3] at k3 hr
  clear hq1 hq2 hq3 h110
  unfold offD
  simp only
  refine wpF_sound ⟨rfl, by decide⟩ fun O hO V hV => ?_
  subst hV
  cases q1 <;> cases q2 <;> cases q3 <;> (conv => cbv)
  all_goals (repeat' (refine ⟨_, by assumption, ?_⟩; (conv => cbv)))
  all_goals (rw [hr]; rfl)
set_option maxRecDepth 100000 in
theorem cool108_ok (R : Ans) (c : CoolV) (hf : FO c.o) (h89 : ∀ s, SL s → R.v 89 [mkS s] (.bool (nameB s))) : AnsF R c108 [coolD c] (.int .i64 (cool1E c)) := by
  obtain ⟨⟨x, y, z⟩, u⟩ := c
  have k1 := h89 x hf.t
  have k2 := h89 y hf.z
  have k3 := h89 z hf.k
  obtain ⟨r, hr⟩ : ∃ r, r = cool1E ⟨⟨x, y, z⟩, u⟩ := ⟨_, rfl⟩
  rw [← hr]
  unfold cool1E nmB btw at hr
  simp only at hr
  obtain ⟨q1, hq1⟩ : ∃ q, q = nameB x := ⟨_, rfl⟩
  obtain ⟨q2, hq2⟩ : ∃ q, q = nameB y := ⟨_, rfl⟩
  obtain ⟨q3, hq3⟩ : ∃ q, q = nameB z := ⟨_, rfl⟩
  rw [← hq1] at k1 hr
  rw [← hq2] at k2 hr
  rw [← hq3] at k3 hr
  clear hq1 hq2 hq3 h89
  unfold coolD coolC
  simp only
  refine wpF_sound ⟨rfl, by decide⟩ fun O hO V hV => ?_
  subst hV
  cases q1 <;> cases q2 <;> cases q3 <;> (conv => cbv)
  all_goals (repeat' (first | (rintro (_ | _) h <;> (first | replace h := ci hO h | replace h := cs hO h) <;> (dsimp only [CmpI, CmpS] at h) <;> (conv => cbv)) | (refine ⟨_, by assumption, ?_⟩; (conv => cbv))))
  all_goals (rw [hr]; simp; try omega)
set_option maxRecDepth 100000 in
theorem cool119_ok (R : Ans) (c : CoolV) (hf : FO c.o) (h110 : ∀ s, SL s → R.v 110 [mkS s] (.bool (nameB s))) : AnsF R c119 [coolD c] (.int .i64 (cool1E c)) := by
  obtain ⟨⟨x, y, z⟩, u⟩ := c
  have k1 := h110 x hf.t
  have k2 := h110 y hf.z
  have k3 := h110 z hf.k
  obtain ⟨r, hr⟩ : ∃ r, r = cool1E ⟨⟨x, y, z⟩, u⟩ := ⟨_, rfl⟩
  rw [← hr]
  unfold cool1E nmB btw at hr
  simp only at hr
  obtain ⟨q1, hq1⟩ : ∃ q, q = nameB x := ⟨_, rfl⟩
  obtain ⟨q2, hq2⟩ : ∃ q, q = nameB y := ⟨_, rfl⟩
  obtain ⟨q3, hq3⟩ : ∃ q, q = nameB z := ⟨_, rfl⟩
  rw [← hq1] at k1 hr
  rw [← hq2] at k2 hr
  rw [← hq3] at k3 hr
  clear hq1 hq2 hq3 h110
  unfold coolD coolC
  simp only
  refine wpF_sound ⟨rfl, by decide⟩ fun O hO V hV => ?_
  subst hV
  cases q1 <;> cases q2 <;> cases q3 <;> (conv => cbv)
  all_goals (repeat' (first | (rintro (_ | _) h <;> (first | replace h := ci hO h | replace h := cs hO h) <;> (dsimp only [CmpI, CmpS] at h) <;> (conv => cbv)) | (refine ⟨_, by assumption, ?_⟩; (conv => cbv))))
  all_goals (rw [hr]; simp; try omega)
end Go.Proofs.AM
namespace Go.Proofs.AM
open Go Go.Lib Cd
set_option maxRecDepth 100000 in
set_option maxHeartbeats 1000000 in
theorem index202_ok (R : Ans) (l : List TolV) (hl : l.length < 4611686018427387904) (x : TolV) : AnsF R c202 [.sl 3 false (l.map tolD), tolD x] (.int .i64 (idxI (fun y => decide (x = y)) l)) := by
  obtain ⟨xs, hxs⟩ : ∃ xs, xs = l.map tolD := ⟨_, rfl⟩
  obtain ⟨r, hr⟩ : ∃ r, r = idxI (fun y => decide (x = y)) l := ⟨_, rfl⟩
  rw [← hxs, ← hr]
  refine wpF_sound ⟨rfl, by decide⟩ fun O hO V hV => ?_
  subst hV
  have hlen : O .len xs = l.length := by rw [o_len hO, hxs]; simp
  conv => cbv
  refine loop_of (fun n d => ∃ (i : Int) (k : Nat), d = ⟨[(0, .sl 3 false xs), (3, .ptr 3 1 0), (7, .int .i64 (O .len xs)), (8, .int .i64 i)], [(3, ⟨1, .rw, .var, [mkS x.k, mkS x.v, .bool x.y]⟩)], false⟩ ∧ i = k ∧ k ≤ l.length ∧ n = l.length - k ∧ ∀ j y, j < k → l[j]? = some y → decide (x = y) = false) ⟨_, _, ⟨_, 0, rfl, rfl, by omega, rfl, by simp⟩, ⟨⟨rfl, rfl, rfl, rfl, trivial⟩, ⟨rfl, trivial⟩, rfl⟩⟩ ?_
  rintro J up n d ⟨i, k, rfl, hi, hk, rfl, hno⟩
  conv => cbv
  rintro (_ | _) h1
  · replace h1 := f_lss hO h1
    rw [hlen] at h1
    conv => cbv
    rw [hr, idxI_none fun y hy => by
      obtain ⟨j, hj⟩ := List.mem_iff_getElem?.1 hy
      exact hno j y (by have := (List.getElem?_eq_some_iff.1 hj).1; omega) hj]
  · replace h1 := t_lss hO h1
    rw [hlen] at h1
    obtain ⟨y, hy⟩ : ∃ y, l[k]? = some y := ⟨_, List.getElem?_eq_getElem (by omega)⟩
    conv => cbv
    refine ⟨tolD y, atX_map hy hxs hi, ?_⟩
    conv => cbv
    intro t ht
    replace ht := eqc_tol hO ht
    cases t with
    | false =>
      conv => cbv
      refine ⟨_, _, up _ _ ⟨_, k + 1, rfl, ?_, by omega, rfl, ?_⟩, ⟨⟨rfl, rfl, rfl, rfl, trivial⟩, ⟨rfl, trivial⟩, rfl⟩, by omega⟩
      · rw [o_add64 hO (by omega) (by omega)]; omega
      · exact hno_step hno hy ht.symm
    | true =>
      conv => cbv
      rw [hr, idxI_hit hy ht.symm hno, hi]
set_option maxRecDepth 100000 in
set_option maxHeartbeats 1000000 in
theorem index204_ok (R : Ans) (l : List OffV) (hl : l.length < 4611686018427387904) (x : OffV) : AnsF R c204 [.sl 3 false (l.map offD), offD x] (.int .i64 (idxI (fun y => decide (x = y)) l)) := by
  obtain ⟨xs, hxs⟩ : ∃ xs, xs = l.map offD := ⟨_, rfl⟩
  obtain ⟨r, hr⟩ : ∃ r, r = idxI (fun y => decide (x = y)) l := ⟨_, rfl⟩
  rw [← hxs, ← hr]
  refine wpF_sound ⟨rfl, by decide⟩ fun O hO V hV => ?_
  subst hV
  have hlen : O .len xs = l.length := by rw [o_len hO, hxs]; simp
  conv => cbv
  refine loop_of (fun n d => ∃ (i : Int) (k : Nat), d = ⟨[(0, .sl 3 false xs), (3, .ptr 3 1 0), (7, .int .i64 (O .len xs)), (8, .int .i64 i)], [(3, ⟨1, .rw, .var, [mkS x.t, mkS x.z, mkS x.k]⟩)], false⟩ ∧ i = k ∧ k ≤ l.length ∧ n = l.length - k ∧ ∀ j y, j < k → l[j]? = some y → decide (x = y) = false) ⟨_, _, ⟨_, 0, rfl, rfl, by omega, rfl, by simp⟩, ⟨⟨rfl, rfl, rfl, rfl, trivial⟩, ⟨rfl, trivial⟩, rfl⟩⟩ ?_
  rintro J up n d ⟨i, k, rfl, hi, hk, rfl, hno⟩
  conv => cbv
  rintro (_ | _) h1
  · replace h1 := f_lss hO h1
    rw [hlen] at h1
    conv => cbv
    rw [hr, idxI_none fun y hy => by
      obtain ⟨j, hj⟩ := List.mem_iff_getElem?.1 hy
      exact hno j y (by have := (List.getElem?_eq_some_iff.1 hj).1; omega) hj]
  · replace h1 := t_lss hO h1
    rw [hlen] at h1
    obtain ⟨y, hy⟩ : ∃ y, l[k]? = some y := ⟨_, List.getElem?_eq_getElem (by omega)⟩
    conv => cbv
    refine ⟨offD y, atX_map hy hxs hi, ?_⟩
    conv => cbv
    intro t ht
    replace ht := eqc_off hO ht
    cases t with
    | false =>
      conv => cbv
      refine ⟨_, _, up _ _ ⟨_, k + 1, rfl, ?_, by omega, rfl, ?_⟩, ⟨⟨rfl, rfl, rfl, rfl, trivial⟩, ⟨rfl, trivial⟩, rfl⟩, by omega⟩
      · rw [o_add64 hO (by omega) (by omega)]; omega
      · exact hno_step hno hy ht.symm
    | true =>
      conv => cbv
      rw [hr, idxI_hit hy ht.symm hno, hi]
set_option maxRecDepth 100000 in
set_option maxHeartbeats 1000000 in
theorem contains123_ok (R : Ans) (l : List TolV) (x : TolV) (hI : R.v 202 [.sl 3 false (l.map tolD), tolD x] (.int .i64 (idxI (fun y => decide (x = y)) l))) : AnsF R c123 [.sl 3 false (l.map tolD), tolD x] (.bool (l.any fun y => decide (x = y))) := by
  obtain ⟨xs, hxs⟩ : ∃ xs, xs = l.map tolD := ⟨_, rfl⟩
  have hcx : CleanL xs := cleanL_map (fun _ => ⟨rfl, rfl⟩) hxs
  obtain ⟨r, hr⟩ : ∃ r, r = l.any fun y => decide (x = y) := ⟨_, rfl⟩
  have hn := idxI_any (fun y => decide (x = y)) l
  obtain ⟨n, hn'⟩ : ∃ n, n = idxI (fun y => decide (x = y)) l := ⟨_, rfl⟩
  rw [← hn'] at hI hn
  rw [← hxs] at hI ⊢
  rw [← hr] at hn ⊢
  refine wpF_sound ⟨rfl, by decide⟩ fun O hO V hV => ?_
  subst hV
  conv => cbv
  refine ⟨hcx, _, hI, ?_⟩
  conv => cbv
  rintro (_ | _) h <;> replace h := ci hO h <;> dsimp only [CmpI] at h <;> (conv => cbv)
  all_goals (cases r <;> first | rfl | (simp at hn; omega))
set_option maxRecDepth 100000 in
set_option maxHeartbeats 1000000 in
theorem contains127_ok (R : Ans) (l : List OffV) (x : OffV) (hI : R.v 204 [.sl 3 false (l.map offD), offD x] (.int .i64 (idxI (fun y => decide (x = y)) l))) : AnsF R c127 [.sl 3 false (l.map offD), offD x] (.bool (l.any fun y => decide (x = y))) := by
  obtain ⟨xs, hxs⟩ : ∃ xs, xs = l.map offD := ⟨_, rfl⟩
  have hcx : CleanL xs := cleanL_map (fun _ => ⟨rfl, rfl⟩) hxs
  obtain ⟨r, hr⟩ : ∃ r, r = l.any fun y => decide (x = y) := ⟨_, rfl⟩
  have hn := idxI_any (fun y => decide (x = y)) l
  obtain ⟨n, hn'⟩ : ∃ n, n = idxI (fun y => decide (x = y)) l := ⟨_, rfl⟩
  rw [← hn'] at hI hn
  rw [← hxs] at hI ⊢
  rw [← hr] at hn ⊢
  refine wpF_sound ⟨rfl, by decide⟩ fun O hO V hV => ?_
  subst hV
  conv => cbv
  refine ⟨hcx, _, hI, ?_⟩
  conv => cbv
  rintro (_ | _) h <;> replace h := ci hO h <;> dsimp only [CmpI] at h <;> (conv => cbv)
  all_goals (cases r <;> first | rfl | (simp at hn; omega))
set_option maxRecDepth 100000 in
set_option maxHeartbeats 1000000 in
theorem indexf203_ok (R : Ans) (f : Nat) (p : LabV → Bool) (l : List LabV) (hl : l.length < 4611686018427387904) (x : LabV) (hp : ∀ y ∈ l, R.v f [labD y, .vptr (labD x) 0] (.bool (p y))) : AnsF R c203 [.sl 2 false (l.map labD), .fn f [] [.vptr (labD x) 0]] (.int .i64 (idxI p l)) := by
  obtain ⟨xs, hxs⟩ : ∃ xs, xs = l.map labD := ⟨_, rfl⟩
  obtain ⟨r, hr⟩ : ∃ r, r = idxI p l := ⟨_, rfl⟩
  rw [← hxs, ← hr]
  refine wpF_sound ⟨rfl, by decide⟩ fun O hO V hV => ?_
  subst hV
  have hlen : O .len xs = l.length := by rw [o_len hO, hxs]; simp
  conv => cbv
  refine loop_of (fun n d => ∃ (i : Int) (k : Nat), d = ⟨[(0, .sl 2 false xs), (1, .fn f [] [.vptr (labD x) 0]), (7, .int .i64 (O .len xs)), (8, .int .i64 i)], [], false⟩ ∧ i = k ∧ k ≤ l.length ∧ n = l.length - k ∧ ∀ j y, j < k → l[j]? = some y → p y = false) ⟨_, _, ⟨_, 0, rfl, rfl, by omega, rfl, by simp⟩, ⟨⟨rfl, rfl, rfl, rfl, trivial⟩, trivial, rfl⟩⟩ ?_
  rintro J up n d ⟨i, k, rfl, hi, hk, rfl, hno⟩
  conv => cbv
  rintro (_ | _) h1
  · replace h1 := f_lss hO h1
    rw [hlen] at h1
    conv => cbv
    rw [hr, idxI_none fun y hy => by
      obtain ⟨j, hj⟩ := List.mem_iff_getElem?.1 hy
      exact hno j y (by have := (List.getElem?_eq_some_iff.1 hj).1; omega) hj]
  · replace h1 := t_lss hO h1
    rw [hlen] at h1
    obtain ⟨y, hy⟩ : ∃ y, l[k]? = some y := ⟨_, List.getElem?_eq_getElem (by omega)⟩
    have hc := hp y (List.mem_of_getElem? hy)
    obtain ⟨q, hq⟩ : ∃ q, q = p y := ⟨_, rfl⟩
    rw [← hq] at hc
    conv => cbv
    refine ⟨labD y, atX_map hy hxs hi, ?_⟩
    conv => cbv
    refine ⟨⟨rfl, rfl⟩, _, hc, ?_⟩
    conv => cbv
    cases q with
    | false =>
      conv => cbv
      refine ⟨_, _, up _ _ ⟨_, k + 1, rfl, ?_, by omega, rfl, ?_⟩, ⟨⟨rfl, rfl, rfl, rfl, trivial⟩, trivial, rfl⟩, by omega⟩
      · rw [o_add64 hO (by omega) (by omega)]; omega
      · exact hno_step hno hy hq.symm
    | true =>
      conv => cbv
      rw [hr, idxI_hit hy hq.symm hno, hi]
set_option maxRecDepth 100000 in
set_option maxHeartbeats 1000000 in
theorem containsf125_ok (R : Ans) (f : Nat) (p : LabV → Bool) (l : List LabV) (x : LabV) (hI : R.v 203 [.sl 2 false (l.map labD), .fn f [] [.vptr (labD x) 0]] (.int .i64 (idxI p l))) : AnsF R c125 [.sl 2 false (l.map labD), .fn f [] [.vptr (labD x) 0]] (.bool (l.any p)) := by
  obtain ⟨xs, hxs⟩ : ∃ xs, xs = l.map labD := ⟨_, rfl⟩
  have hcx : CleanL xs := cleanL_map (fun _ => ⟨rfl, rfl⟩) hxs
  obtain ⟨r, hr⟩ : ∃ r, r = l.any p := ⟨_, rfl⟩
  have hn := idxI_any p l
  obtain ⟨n, hn'⟩ : ∃ n, n = idxI p l := ⟨_, rfl⟩
  rw [← hn'] at hI hn
  rw [← hxs] at hI ⊢
  rw [← hr] at hn ⊢
  refine wpF_sound ⟨rfl, by decide⟩ fun O hO V hV => ?_
  subst hV
  conv => cbv
  refine ⟨hcx, ⟨rfl, rfl⟩, _, hI, ?_⟩
  conv => cbv
  rintro (_ | _) h <;> replace h := ci hO h <;> dsimp only [CmpI] at h <;> (conv => cbv)
  all_goals (cases r <;> first | rfl | (simp at hn; omega))
end Go.Proofs.AM
namespace Go.Proofs.AM
open Go Go.Lib Cd
def iD (n : Int) : D := .int .i64 n
set_option maxRecDepth 100000 in
set_option maxHeartbeats 2000000 in
theorem first53_ok (R : Ans) (l : List Int) (hl : l.length < 4611686018427387904) : AnsF R c53 [.sl 1 false (l.map iD)] (.int .i64 (firstI l)) := by
  obtain ⟨xs, hxs⟩ : ∃ xs, xs = l.map iD := ⟨_, rfl⟩
  obtain ⟨r, hr⟩ : ∃ r, r = firstI l := ⟨_, rfl⟩
  rw [← hxs, ← hr]
  refine wpF_sound ⟨rfl, by decide⟩ fun O hO V hV => ?_
  subst hV
  have hlen : O .len xs = l.length := by rw [o_len hO, hxs]; simp
  conv => cbv
  refine loop_of (fun n d => ∃ (i : Int) (k : Nat), d = ⟨[(5, .sl 1 false xs), (6, .int .i64 (O .len xs)), (7, .int .i64 i)], [], false⟩ ∧ i = k ∧ k ≤ l.length ∧ n = l.length - k ∧ ∀ (j : Nat) y, j < k → l[j]? = some y → y = 0) ⟨_, _, ⟨_, 0, rfl, rfl, by omega, rfl, by simp⟩, ⟨⟨rfl, rfl, rfl, trivial⟩, trivial, rfl⟩⟩ ?_
  rintro J up n d ⟨i, k, rfl, hi, hk, rfl, hno⟩
  conv => cbv
  rintro (_ | _) h1
  · replace h1 := f_lss hO h1
    rw [hlen] at h1
    conv => cbv
    rw [hr, firstI_zero fun y hy => by
      obtain ⟨j, hj⟩ := List.mem_iff_getElem?.1 hy
      exact hno j y (by have := (List.getElem?_eq_some_iff.1 hj).1; omega) hj]
  · replace h1 := t_lss hO h1
    rw [hlen] at h1
    obtain ⟨y, hy⟩ : ∃ y, l[k]? = some y := ⟨_, List.getElem?_eq_getElem (by omega)⟩
    conv => cbv
    refine ⟨iD y, atX_map hy hxs hi, ?_⟩
    conv => cbv
    rintro (_ | _) h2
    · replace h2 := f_neq hO h2
      conv => cbv
      refine ⟨_, _, up _ _ ⟨_, k + 1, rfl, ?_, by omega, rfl, ?_⟩, ⟨⟨rfl, rfl, rfl, trivial⟩, trivial, rfl⟩, by omega⟩
      · rw [o_add64 hO (by omega) (by omega)]; omega
      · intro j z hj hz
        rcases Nat.lt_succ_iff_lt_or_eq.1 hj with h3 | rfl
        · exact hno j z h3 hz
        · rw [hy] at hz; simp only [Option.some.injEq] at hz; rw [← hz, h2]
    · replace h2 := t_neq hO h2
      conv => cbv
      rw [hr, firstI_hit hy h2 hno]
set_option maxRecDepth 100000 in
set_option maxHeartbeats 2000000 in
theorem amts56_ok (R : Ans) (a b : Int) (h62 : ∀ n, R.v 62 [.int .i64 n] (.int .i64 (amtE n))) : AnsF R c56 [.agg [.int .i64 a, .int .i64 b]] (.int .i64 (amtsE a b)) := by
  obtain ⟨r, hr⟩ : ∃ r, r = amtsE a b := ⟨_, rfl⟩
  have k1 := h62 a
  have k2 := h62 b
  rw [← hr]
  unfold amtsE at hr
  obtain ⟨e1, he1⟩ : ∃ e, e = amtE a := ⟨_, rfl⟩
  obtain ⟨e2, he2⟩ : ∃ e, e = amtE b := ⟨_, rfl⟩
  rw [← he1] at k1 hr
  rw [← he2] at k2 hr
  refine wpF_sound ⟨rfl, by decide⟩ fun O hO V hV => ?_
  subst hV
  conv => cbv
  refine loop_of (fun n d => ∃ (i : Int) (k : Nat), d = ⟨[(6, .agg [.int .i64 a, .int .i64 b]), (7, .int .i64 i)], [], false⟩ ∧ i = k ∧ k ≤ 2 ∧ n = 2 - k ∧ (1 ≤ k → e1 = 0) ∧ (2 ≤ k → e2 = 0)) ⟨_, _, ⟨_, 0, rfl, rfl, by omega, rfl, by omega, by omega⟩, ⟨⟨rfl, rfl, trivial⟩, trivial, rfl⟩⟩ ?_
  rintro J up n d ⟨i, k, rfl, hi, hk, rfl, hn1, hn2⟩
  rcases (by omega : k = 0 ∨ k = 1 ∨ k = 2) with rfl | rfl | rfl
  · obtain rfl : i = 0 := by omega
    conv => cbv
    rintro (_ | _) h1
    · conv => cbv
      exfalso; have := f_lss hO h1; omega
    conv => cbv
    refine ⟨_, k1, ?_⟩
    conv => cbv
    rintro (_ | _) h2
    · replace h2 := f_neq hO h2
      conv => cbv
      refine ⟨_, _, up _ _ ⟨_, 1, rfl, ?_, by omega, rfl, fun _ => h2, fun h => absurd h (by omega)⟩, ⟨⟨rfl, rfl, trivial⟩, trivial, rfl⟩, by omega⟩
      rw [o_add64 hO (by omega) (by omega)]; omega
    · replace h2 := t_neq hO h2
      conv => cbv
      rw [hr, if_neg h2]
  · obtain rfl : i = 1 := by omega
    conv => cbv
    rintro (_ | _) h1
    · conv => cbv
      exfalso; have := f_lss hO h1; omega
    conv => cbv
    refine ⟨_, k2, ?_⟩
    conv => cbv
    rintro (_ | _) h2
    · replace h2 := f_neq hO h2
      conv => cbv
      refine ⟨_, _, up _ _ ⟨_, 2, rfl, ?_, by omega, rfl, fun _ => hn1 (by omega), fun _ => h2⟩, ⟨⟨rfl, rfl, trivial⟩, trivial, rfl⟩, by omega⟩
      rw [o_add64 hO (by omega) (by omega)]; omega
    · replace h2 := t_neq hO h2
      conv => cbv
      rw [hr, if_pos (hn1 (by omega))]
  · obtain rfl : i = 2 := by omega
    conv => cbv
    rintro (_ | _) h1
    · conv => cbv
      rw [hr, hn1 (by omega), hn2 (by omega)]; rfl
    · conv => cbv
      exfalso; have := t_lss hO h1; omega
end Go.Proofs.AM
namespace Go.Proofs.AM
open Go Go.Lib Cd
noncomputable def setsL (most : Nat) (l : List ReqV) : List SetV := if reqsE most l = 0 then l.map ofSet else []
theorem clean_set (s : SetV) : Clean (setD s) := by
  have := cleanL_map clean_S (l := s.l) rfl
  exact ⟨by simp [setD, closed, closedL, this.c], by simp [setD, strip, stripL, this.s]⟩
theorem clean_req (r : ReqV) : Clean (reqD r) := by
  have := cleanL_map clean_S (l := r.l) rfl
  exact ⟨by simp [reqD, mkS, closed, closedL, this.c], by simp [reqD, mkS, strip, stripL, this.s]⟩
set_option maxRecDepth 100000 in
set_option maxHeartbeats 2000000 in
theorem sets84_ok (R : Ans) (l : List ReqV) (hl : l.length ≤ 8796093022208) (hF : ∀ q ∈ l, FR q) (most : Nat) (hm : most ≤ 16) (h180 : ∀ q, FR q → R.v 180 [reqD q] (.tup [setD (ofSet q), .int .i64 (wrongE q)])) :
    AnsF R c84 [.sl 4 false (l.map reqD), .int .i64 most] (.tup [.sl 6 false ((setsL most l).map setD), .int .i64 (reqsE most l)]) := by
  obtain ⟨xs, hxs⟩ : ∃ xs, xs = l.map reqD := ⟨_, rfl⟩
  have hcx : CleanL xs := cleanL_map clean_req hxs
  obtain ⟨rs, hrs⟩ : ∃ rs, rs = (setsL most l).map setD := ⟨_, rfl⟩
  obtain ⟨e, he⟩ : ∃ e, e = reqsE most l := ⟨_, rfl⟩
  unfold setsL at hrs
  rw [← he] at hrs
  rw [show (setsL most l).map setD = rs by rw [hrs, he]; rfl, ← hxs, ← he]
  unfold reqsE tooE at he
  obtain ⟨mo, hmo⟩ : ∃ m : Int, m = most := ⟨_, rfl⟩
  rw [← hmo]
  refine wpF_sound ⟨rfl, by decide⟩ fun O hO V hV => ?_
  subst hV
  have hlen : O .len xs = l.length := by rw [o_len hO, hxs]; simp
  conv => cbv
  rintro (_ | _) h0
  · replace h0 := f_gtr hO h0
    rw [hlen] at h0
    have hr : e = scanE (atE wrongE l) l.length := by rw [he, if_neg (by omega)]
    conv => cbv
    refine loop_of (fun n d => ∃ (i : Int) (k g : Nat) (ac : List D), d = ⟨[(6, .own 99 g), (15, .sl 4 false xs), (16, .int .i64 (O .len xs)), (17, .int .i64 i)], [(99, ⟨g, .rw, .arr 6 89, ac⟩)], false⟩ ∧ i = k ∧ k ≤ l.length ∧ n = l.length - k ∧ ac = ((l.take k).map ofSet).map setD ∧ ∀ j, j < k → atE wrongE l j = 0) ⟨_, _, ⟨_, 0, _, _, rfl, rfl, by omega, rfl, by simp, by simp⟩, ⟨⟨rfl, rfl, rfl, rfl, trivial⟩, ⟨rfl, trivial⟩, rfl⟩⟩ ?_
    rintro J up n d ⟨i, k, g, ac, rfl, hi, hk, rfl, hac, hno⟩
    have hca : CleanL ac := cleanL_map clean_set hac
    conv => cbv
    rintro (_ | _) h1
    · replace h1 := f_lss hO h1
      rw [hlen] at h1
      conv => cbv
      have e0 : e = 0 := by rw [hr, scanE_end (fun j hj => hno j (by omega))]
      have : ac = rs := by rw [hac, hrs, if_pos e0, List.take_of_length_le (by omega)]
      rw [this] at hca
      rw [this, e0]
      exact ⟨hca, rfl⟩
    · replace h1 := t_lss hO h1
      rw [hlen] at h1
      conv => cbv
      obtain ⟨y, hy⟩ : ∃ y, l[k]? = some y := ⟨_, List.getElem?_eq_getElem (by omega)⟩
      have hc := h180 y (hF y (List.mem_of_getElem? hy))
      have hg : atE wrongE l k = _ := atE_some hy
      obtain ⟨w, hw⟩ : ∃ w, w = wrongE y := ⟨_, rfl⟩
      obtain ⟨S, hS⟩ : ∃ S, S = ofSet y := ⟨_, rfl⟩
      rw [← hw] at hc hg
      rw [← hS] at hc
      obtain ⟨ss, hss⟩ : ∃ ss, ss = S.l.map mkS := ⟨_, rfl⟩
      have hcs : CleanL ss := cleanL_map clean_S hss
      unfold setD at hc
      rw [← hss] at hc
      have hat : atX xs i (reqD y) := atX_map hy hxs hi
      have hst : setD S = .agg [.bool S.m, .bool S.n, .bool S.u, .sl 1 false ss, .int .i64 S.lo, .int .i64 S.hi] := by rw [hss]; rfl
      obtain ⟨sm, sn, su, sl, slo, shi⟩ := S
      simp only at hc hst
      obtain ⟨ykey, yop, yl, yn⟩ := y
      unfold reqD at hat hc
      simp only at hat hc
      obtain ⟨ys, hys⟩ : ∃ ss, ss = yl.map mkS := ⟨_, rfl⟩
      have hcy : CleanL ys := cleanL_map clean_S hys
      rw [← hys] at hat hc
      refine ⟨_, hat, ?_⟩
      conv => cbv
      intro g8
      conv => cbv
      refine ⟨hcy, _, hc, ?_⟩
      conv => cbv
      intro g9
      conv => cbv
      rintro (_ | _) h2
      · replace h2 := f_neq hO h2
        conv => cbv
        intro g31
        conv => cbv
        have hl1 : O .len [D.agg [.bool sm, .bool sn, .bool su, .sl 1 false ss, .int .i64 slo, .int .i64 shi]] = 1 := by rw [o_len hO]; rfl
        have hla : O .len ac = k := by rw [o_len hO, hac]; simp; omega
        refine ⟨⟨by simp [closedL, closed, hcs.c]⟩, ⟨by show (O .len ac + O .len [D.agg [.bool sm, .bool sn, .bool su, .sl 1 false ss, .int .i64 slo, .int .i64 shi]]) * ((48 : Nat) : Int) ≤ _; rw [hl1, hla]; omega⟩, ?_⟩
        exact ⟨_, _, up _ _ ⟨_, k + 1, g + 1, O .app ac [D.agg [.bool sm, .bool sn, .bool su, .sl 1 false ss, .int .i64 slo, .int .i64 shi]], rfl, by rw [o_add64 hO (by omega) (by omega)]; omega, by omega, rfl, by rw [o_app hO, hac, ← hst, hS, List.take_add_one, hy]; simp, scan_step hno (by rw [hg, h2])⟩, ⟨⟨rfl, rfl, rfl, rfl, trivial⟩, ⟨rfl, trivial⟩, rfl⟩, by omega⟩
      · replace h2 := t_neq hO h2
        conv => cbv
        have e0 : e = w := by rw [hr]; exact scanE_hit (by omega) hno hg.symm h2
        have : rs = [] := by rw [hrs, if_neg (by rw [e0]; exact h2)]; rfl
        rw [this, e0]
        exact ⟨⟨rfl, rfl⟩, rfl⟩
  · replace h0 := t_gtr hO h0
    rw [hlen] at h0
    conv => cbv
    have e3 : e = 3 := by rw [he, if_pos (by omega)]
    have : rs = [] := by rw [hrs, if_neg (by omega)]; rfl
    rw [this, e3]
    exact ⟨⟨rfl, rfl⟩, rfl⟩
set_option maxRecDepth 100000 in
set_option maxHeartbeats 2000000 in
theorem check36_ok (R : Ans) (l : List ReqV) (h84 : R.v 84 [.sl 4 false (l.map reqD), .int .i64 8] (.tup [.sl 6 false ((setsL 8 l).map setD), .int .i64 (reqsE 8 l)])) : AnsF R c36 [.sl 4 false (l.map reqD)] (.int .i64 (reqsE 8 l)) := by
  obtain ⟨xs, hxs⟩ : ∃ xs, xs = l.map reqD := ⟨_, rfl⟩
  have hcx : CleanL xs := cleanL_map clean_req hxs
  obtain ⟨rs, hrs⟩ : ∃ rs, rs = (setsL 8 l).map setD := ⟨_, rfl⟩
  obtain ⟨e, he⟩ : ∃ e, e = reqsE 8 l := ⟨_, rfl⟩
  rw [← hxs, ← he]
  rw [← hxs, ← he, ← hrs] at h84
  refine wpF_sound ⟨rfl, by decide⟩ fun O hO V hV => ?_
  subst hV
  conv => cbv
  refine ⟨hcx, _, h84, ?_⟩
  conv => cbv
  trivial
set_option maxRecDepth 100000 in
set_option maxHeartbeats 2000000 in
theorem first91_ok (R : Ans) (l : List ReqV) (hl : l.length ≤ 8796093022208) (hF : ∀ q ∈ l, FR q) (h93 : ∀ q, FR q → R.v 93 [reqD q] (.tup [setD (ofSet q), .int .i64 (wrongE q)])) :
    AnsF R c91 [.sl 4 false (l.map reqD)] (.int .i64 (scanE (atE wrongE l) l.length)) := by
  obtain ⟨xs, hxs⟩ : ∃ xs, xs = l.map reqD := ⟨_, rfl⟩
  have hcx : CleanL xs := cleanL_map clean_req hxs
  obtain ⟨r, hr⟩ : ∃ e, e = scanE (atE wrongE l) l.length := ⟨_, rfl⟩
  rw [← hxs, ← hr]
  refine wpF_sound ⟨rfl, by decide⟩ fun O hO V hV => ?_
  subst hV
  have hlen : O .len xs = l.length := by rw [o_len hO, hxs]; simp
  conv => cbv
  refine loop_of (fun n d => ∃ (i : Int) (k : Nat), d = ⟨[(0, .sl 4 false xs), (3, .int .i64 i)], [], false⟩ ∧ i = k ∧ k ≤ l.length ∧ n = l.length - k ∧ ∀ j, j < k → atE wrongE l j = 0) ⟨_, _, ⟨_, 0, rfl, rfl, by omega, rfl, by simp⟩, ⟨⟨rfl, rfl, trivial⟩, trivial, rfl⟩⟩ ?_
  rintro J up n d ⟨i, k, rfl, hi, hk, rfl, hno⟩
  conv => cbv
  rintro (_ | _) h1
  · replace h1 := f_lss hO h1
    rw [hlen] at h1
    conv => cbv
    rw [hr, scanE_end (fun j hj => hno j (by omega))]
  · replace h1 := t_lss hO h1
    rw [hlen] at h1
    obtain ⟨y, hy⟩ : ∃ y, l[k]? = some y := ⟨_, List.getElem?_eq_getElem (by omega)⟩
    have hc := h93 y (hF y (List.mem_of_getElem? hy))
    have hg : atE wrongE l k = _ := atE_some hy
    obtain ⟨w, hw⟩ : ∃ w, w = wrongE y := ⟨_, rfl⟩
    obtain ⟨S, hS⟩ : ∃ S, S = ofSet y := ⟨_, rfl⟩
    rw [← hw] at hc hg
    rw [← hS] at hc
    obtain ⟨ss, hss⟩ : ∃ ss, ss = S.l.map mkS := ⟨_, rfl⟩
    unfold setD at hc
    rw [← hss] at hc
    have hat : atX xs i (reqD y) := atX_map hy hxs hi
    obtain ⟨ykey, yop, yl, yn⟩ := y
    unfold reqD at hat hc
    simp only at hat hc
    obtain ⟨ys, hys⟩ : ∃ ss, ss = yl.map mkS := ⟨_, rfl⟩
    have hcy : CleanL ys := cleanL_map clean_S hys
    rw [← hys] at hat hc
    conv => cbv
    refine ⟨_, hat, ?_⟩
    conv => cbv
    refine ⟨hcy, _, hc, ?_⟩
    conv => cbv
    intro g9
    conv => cbv
    rintro (_ | _) h2
    · replace h2 := f_neq hO h2
      conv => cbv
      exact ⟨_, _, up _ _ ⟨_, k + 1, rfl, by rw [o_add64 hO (by omega) (by omega)]; omega, by omega, rfl, scan_step hno (by rw [hg, h2])⟩, ⟨⟨rfl, rfl, trivial⟩, trivial, rfl⟩, by omega⟩
    · replace h2 := t_neq hO h2
      conv => cbv
      exact (by rw [hr]; exact congrArg (D.int .i64) (scanE_hit (by omega) hno hg.symm h2).symm)
set_option maxRecDepth 100000 in
set_option maxHeartbeats 2000000 in
theorem check37_ok (R : Ans) (l : List ReqV) (h91 : R.v 91 [.sl 4 false (l.map reqD)] (.int .i64 (scanE (atE wrongE l) l.length))) : AnsF R c37 [.sl 4 false (l.map reqD)] (.int .i64 (reqsE 8 l)) := by
  obtain ⟨xs, hxs⟩ : ∃ xs, xs = l.map reqD := ⟨_, rfl⟩
  have hcx : CleanL xs := cleanL_map clean_req hxs
  obtain ⟨e, he⟩ : ∃ e, e = reqsE 8 l := ⟨_, rfl⟩
  obtain ⟨r, hr⟩ : ∃ e, e = scanE (atE wrongE l) l.length := ⟨_, rfl⟩
  rw [← hxs, ← he]
  rw [← hxs, ← hr] at h91
  unfold reqsE tooE at he
  rw [← hr] at he
  refine wpF_sound ⟨rfl, by decide⟩ fun O hO V hV => ?_
  subst hV
  have hlen : O .len xs = l.length := by rw [o_len hO, hxs]; simp
  conv => cbv
  rintro (_ | _) h0
  · replace h0 := f_gtr hO h0
    rw [hlen] at h0
    conv => cbv
    refine ⟨hcx, _, h91, ?_⟩
    conv => cbv
    rw [he, if_neg (by omega)]
  · replace h0 := t_gtr hO h0
    rw [hlen] at h0
    conv => cbv
    rw [he, if_pos (by omega)]
end Go.Proofs.AM
namespace Go.Proofs.AM
open Go Go.Lib
noncomputable def labE (x : LabV) (ah : List LabV) : Int := if nameB x.k && valueB x.v then (if ah.any (fun y => decide (y.k = x.k)) then 6 else 0) else 20
noncomputable def labsE (l : List LabV) : Int := scanE (upE labE l) l.length
noncomputable def admB (r : ReqV) (labels : List LabV) : Bool := match labels.find? (fun x => decide (x.k = r.key)) with | some x => hasB (ofSet r) x.v | none => (ofSet r).m
noncomputable def admE (l : List ReqV) (labels : List LabV) : Bool × Int :=
  if reqsE 16 l ≠ 0 then (false, reqsE 16 l) else if labsE labels ≠ 0 then (false, labsE labels) else (l.all fun r => admB r labels, 0)
section
variable {α : Type} (κ : α → Str) (v : α → D)
def entK (x : α) : D := .tup [mkS (κ x), v x]
theorem look_map (k : Str) : ∀ l : List α, lookD kS (mkS k) (l.map (entK κ v)) = some ((l.find? fun x => decide (κ x = k)).map v)
  | [] => rfl
  | x :: r => by
    simp only [List.map_cons, entK, lookD, keyEq_S, Option.bind_some]
    by_cases h : κ x = k
    · subst h
      simp
    · rw [List.find?_cons_of_neg (by simpa using h)]
      have h2 : ¬ k = κ x := fun e => h e.symm
      simp only [h2, decide_false, Bool.false_eq_true, if_false]
      exact look_map k r
theorem mput_new (k : Str) (u : D) : ∀ l : List α, (∀ x ∈ l, κ x ≠ k) → mputD kS (mkS k) u (l.map (entK κ v)) = some (l.map (entK κ v) ++ [.tup [mkS k, u]])
  | [], _ => rfl
  | x :: r, h => by
    simp only [List.map_cons, entK, mputD, keyEq_S, Option.bind_some]
    have h2 : ¬ k = κ x := fun e => h x (by simp) e.symm
    simp only [h2, decide_false, Bool.false_eq_true, if_false]
    rw [mput_new k u r fun y hy => h y (by simp [hy])]
    rfl
end
theorem find_any {α : Type} {p : α → Bool} {l : List α} : (l.find? p).isSome = l.any p := by
  rw [Bool.eq_iff_iff, List.find?_isSome, List.any_eq_true]
theorem find_take_none {α : Type} {p : α → Bool} {l : List α} (h : l.any p = false) : l.find? p = none := by
  have := find_any (p := p) (l := l)
  rw [h] at this
  simpa using this
theorem find_take_some {α : Type} {p : α → Bool} {l : List α} (h : l.any p = true) : ∃ x, l.find? p = some x := by
  have := find_any (p := p) (l := l)
  rw [h] at this
  exact Option.isSome_iff_exists.1 this
theorem find_at {α : Type} {p : α → Bool} {l : List α} {k : Nat} {x : α} (hx : l[k]? = some x) (hp : p x = true) (h0 : ∀ (j : Nat) z, j < k → l[j]? = some z → p z = false) : l.find? p = some x := by
  obtain ⟨hk, rfl⟩ := List.getElem?_eq_some_iff.1 hx
  rw [List.find?_eq_some_iff_getElem]
  exact ⟨hp, k, hk, rfl, fun j hj => by have := h0 j _ hj (List.getElem?_eq_getElem (by omega)); simp [this]⟩
theorem find_end {α : Type} {p : α → Bool} {l : List α} (h0 : ∀ (j : Nat) z, j < l.length → l[j]? = some z → p z = false) : l.find? p = none := by
  rw [List.find?_eq_none]
  intro x hx
  obtain ⟨j, hj⟩ := List.mem_iff_getElem?.1 hx
  rw [h0 j x (List.getElem?_eq_some_iff.1 hj).1 hj]; simp
theorem all_end {α : Type} {p : α → Bool} {l : List α} (h0 : ∀ (j : Nat) z, j < l.length → l[j]? = some z → p z = true) : l.all p = true := by
  rw [List.all_eq_true]
  intro x hx
  obtain ⟨j, hj⟩ := List.mem_iff_getElem?.1 hx
  exact h0 j x (List.getElem?_eq_some_iff.1 hj).1 hj
theorem all_hit {α : Type} {p : α → Bool} {l : List α} {k : Nat} {x : α} (hx : l[k]? = some x) (hp : p x = false) : l.all p = false := by
  rw [List.all_eq_false]
  exact ⟨x, List.mem_of_getElem? hx, by simp [hp]⟩
theorem hyes_step {α : Type} {p : α → Bool} {l : List α} {k : Nat} {y : α} (h : ∀ (j : Nat) z, j < k → l[j]? = some z → p z = true) (hy : l[k]? = some y) (hp : p y = true) : ∀ (j : Nat) z, j < k + 1 → l[j]? = some z → p z = true := fun j z hj hz => by
  rcases Nat.lt_succ_iff_lt_or_eq.1 hj with h1 | rfl
  · exact h j z h1 hz
  · rw [hy] at hz; simp only [Option.some.injEq] at hz; subst hz; exact hp
end Go.Proofs.AM
