/- Part 31 of the lemmas: AGPc, APYd, AGQb, AGQc. -/
import Derived.Test.YtnbdmjbpgaeacaaGreatDoorM16
import Derived.Test.YtnbdmjbpgaeacaaGreatDoorM22
import Derived.Test.YtnbdmjbpgaeacaaGreatDoorM30
import Derived.Test.YtnbdmjbpgaeacaaGreatDoorM06
import Derived.Test.YtnbdmjbpgaeacaaGreatDoorProg
import Derived.Shelf.Abstract
import Derived.Test.YtnbdmjbpgaeacaaGreatDoorM15
import Derived.WalkKit
set_option maxRecDepth 100000
set_option maxHeartbeats 8000000
set_option linter.all false
namespace Go.Proofs.AM
open Go Go.Lib Cd
theorem y33Y {α:Type} {f:α->D} {x:α} (h:CleanL ([x].map f)):Clean (f x):=⟨by have:=h.c;simpa [closedL] using this,by have:=h.s;simpa [stripL] using this⟩
theorem yesY (s:SnapV):Clean (snapD s):=by
 have h1:CleanL (snapC s):=y5Y (yjY _) (y5Y (yjY _) (y5Y (yjY _) (y5Y (yjY _) (y5Y (yjY _) (y5Y (yjY _) (y5Y (y10Y (y2eY _)) (y5Y (y10Y (y1iY _)) (y5Y (y10Y (y71Y _)) (y5Y (y10Y (y62Y _)) (y5Y (y10Y (y96Y _)) (y5Y (y10Y (y97Y _)) (y5Y (y10Y (y72Y _)) (y5Y (y10Y (y56Y _)) y2wY)))))))))))))
 exact ⟨by simp [snapD,closed,h1.c],by simp [snapD,strip,h1.s]⟩
theorem y77Y (g:Nat) {P:D} (h:Clean P):Clean (.agg [.fn g [P] []]):=⟨by simp [closed,closedL,h.c],by simp [strip,stripL,h.s]⟩
theorem p151 (a0 a1 b0 b1:Int):PR3.v 151 [amD a0 a1,amD b0 b1] (jI (bothE a0 a1 b0 b1)):=pr3 E151 Tryz.func151 T151 (ymkY _ _ _ _ _ m111)
theorem p229 (a0 a1 b0 b1:Int):PR3.v 229 [amD a0 a1,amD b0 b1] (jI (bothE a0 a1 b0 b1)):=pr3 E229 Tryz.func229 T229 (ymjY _ _ _ _ _ m56)
theorem p230 (a0 a1 b0 b1:Int):PR3.v 230 [amD a0 a1,amD b0 b1] (amD (min a0 b0) (min a1 b1)):=pr3 E230 Tryz.func230 T230 (ymlY _ _ _ _ _)
theorem p203 (a0 a1 b0 b1 x y e:Int) (hs:subE a0 a1 b0 b1=(x,y,e)):PR3.v 203 [amD a0 a1,amD b0 b1] (.tup [amD x y,jI e]):=pr3 E203 Tryz.func203 T203 (ymmY _ _ _ _ _ _ _ _ hs (p229 _ _ _ _) (p230 _ _ _ _))
theorem p191 (a0 a1 b0 b1:Int):PR3.v 191 [amD a0 a1,amD b0 b1] (.bool (fitsB a0 a1 b0 b1)):=pr3 E191 Tryz.func191 T191 (ymnY _ _ _ _ _ (p229 _ _ _ _) (p230 _ _ _ _))
theorem p91 (a0 a1 b0 b1:Int):PR3.v 91 [amD a0 a1,amD b0 b1] (.bool (fitsB a0 a1 b0 b1)):=pr3 E91 Tryz.func91 T91 (ymoY _ _ _ _ _ (p151 _ _ _ _))
theorem p178 (a0 a1 b0 b1 x y e:Int) (hs:subE a0 a1 b0 b1=(x,y,e)):PR3.v 178 [amD a0 a1,amD b0 b1] (.tup [amD x y,jI e]):=pr3 E178 Tryz.func178 T178 (ympY _ _ _ _ _ _ _ _ hs (p151 _ _ _ _))
theorem p241 (y x:LabV):PR3.v 241 [labD y,.vptr (labD x) 0] (.bool (decide (y.k=x.k))):=pr3 E241 Tryz.func241 T241 (ymtY _ y x)
theorem p243 (y x:OfgV):PR3.v 243 [ofgD y,.vptr (ofgD x) 0] (.bool (decide (y.z=x.z)&&decide (y.k=x.k))):=pr3 E243 Tryz.func243 T243 (ymuY _ y x)
theorem p159 (y x:TypeV):PR3.v 159 [typeD y,.vptr (typeD x) 0] (.bool (decide (y.name=x.name))):=pr3 E159 Tryz.func159 T159 (ymvY _ y x)
theorem p235 (l:List LabV) (hl:l.length<4611686018427387904) (x:LabV):PR3.v 235 [.sl 2 false (l.map labD),.fn 241 [] [.vptr (labD x) 0]] (jI (idxI (fun y=>decide (y.k=x.k)) l)):=pr3 E235 Tryz.func235 T235 (yeaY _ 241 _ l hl x fun y _=>p241 y x)
theorem p195 (l:List LabV) (x:LabV) (hl:l.length<4611686018427387904):PR3.v 195 [.sl 2 false (l.map labD),.fn 241 [] [.vptr (labD x) 0]] (.bool (l.any fun y=>decide (y.k=x.k))):=pr3 E195 Tryz.func195 T195 (yebY _ 241 _ l x (p235 l hl x))
theorem p262 (l:List OfgV) (x:OfgV) (hl:l.length<4611686018427387904):PR3.v 262 [.sl 4 false (l.map ofgD),.fn 243 [] [.vptr (ofgD x) 0]] (jI (idxI (fun y=>decide (y.z=x.z)&&decide (y.k=x.k)) l)):=pr3 E262 Tryz.func262 T262 (ylkY _ 243 _ l hl _ (y33Y (y1sY [x])) fun y _=>p243 y x)
theorem p242 (l:List OfgV) (x:OfgV) (hl:l.length<4611686018427387904):PR3.v 242 [.sl 4 false (l.map ofgD),.fn 243 [] [.vptr (ofgD x) 0]] (.bool (l.any fun y=>decide (y.z=x.z)&&decide (y.k=x.k))):=pr3 E242 Tryz.func242 T242 (yltY _ 243 _ l _ (y33Y (y1sY [x])) (p262 l x hl))
theorem p200 (l:List TypeV) (x:TypeV) (hl:l.length<4611686018427387904):PR3.v 200 [.sl 7 false (l.map typeD),.fn 159 [] [.vptr (typeD x) 0]] (jI (idxI (fun y=>decide (y.name=x.name)) l)):=pr3 E200 Tryz.func200 T200 (yllY _ 159 _ l hl _ (y33Y (y2eY [x])) fun y _=>p159 y x)
theorem p158 (l:List TypeV) (x:TypeV) (hl:l.length<4611686018427387904):PR3.v 158 [.sl 7 false (l.map typeD),.fn 159 [] [.vptr (typeD x) 0]] (.bool (l.any fun y=>decide (y.name=x.name))):=pr3 E158 Tryz.func158 T158 (yluY _ 159 _ l _ (y33Y (y2eY [x])) (p200 l x hl))
theorem p198 (l:List LabV) (hf:FLs FLab l):PR3.v 198 [.sl 2 false (l.map labD)] (jI (y23Y l)):=pr3 E198 Tryz.func198 T198 (ymqY _ l hf k18 k19 (fun x=>k55 fiveL (by decide) x) p195)
theorem p199 (l:List OfgV) (hf:FLs FOfg l):PR3.v 199 [.sl 4 false (l.map ofgD)] (jI (ofgsE l)):=pr3 E199 Tryz.func199 T199 (ymrY _ l hf k18 m62 p242)
theorem p157 (t:TypeV) (ht:FType t):PR3.v 157 [typeD t] (jI (typE t)):=pr3 E157 Tryz.func157 T157 (yn0Y _ t ht k18 m56 p191 p198 p199)
theorem p98 (l:List TypeV) (hf:FLs FType l):PR3.v 98 [.sl 7 false (l.map typeD)] (jI (catE l)):=pr3 E98 Tryz.func98 T98 (ymsY _ l hf p157 p158)
theorem p193 (l:List TypeV) (hf:FLs FType l):PR3.v 193 [.sl 7 false (l.map typeD)] (.mapv (mapE (allM l))):=pr3 E193 Tryz.func193 T193 (yn8Y _ l hf (p98 l hf))
theorem p162 (l:List TypeV) (hf:FLs FType l) (o:OffV):PR3.v 162 [.sl 7 false (l.map typeD),offD o] (.tup [amD (hasO l o).1 (hasO l o).2,.bool (isO l o)]):=pr3 E162 Tryz.func162 T162 (ynaY _ l o (p193 l hf) p203)
theorem p213 (x:Str):PR3.v 213 [mkS x] (.bool (decide (x∈fiveL))):=pr3 E213 Tryz.func213 T213 (ymzY _ x)
theorem p174 (l:List LabV) (hf:FLs FLab l):PR3.v 174 [.sl 2 false (l.map labD)] (jI (y23Y l)):=pr3 E174 Tryz.func174 T174 (ymwY _ l hf k16 k17 p213)
theorem p175 (l:List OfgV) (hf:FLs FOfg l):PR3.v 175 [.sl 4 false (l.map ofgD)] (jI (ofgsE l)):=pr3 E175 Tryz.func175 T175 (ymxY _ l hf k16 m117)
theorem p119 (t:TypeV) (ht:FType t):PR3.v 119 [typeD t] (jI (typE t)):=pr3 E119 Tryz.func119 T119 (yn1Y _ t ht k16 m111 p91 p174 p175)
theorem p73 (l:List TypeV) (hf:FLs FType l):PR3.v 73 [.sl 7 false (l.map typeD)] (jI (catE l)):=pr3 E73 Tryz.func73 T73 (ymyY _ l hf p119)
theorem p152 (l:List TypeV) (hf:FLs FType l) (o:OffV):PR3.v 152 [.sl 7 false (l.map typeD),offD o] (.tup [typeD (findR l o).1,ofgD (findR l o).2,.bool (isO l o)]):=pr3 E152 Tryz.func152 T152 (yncY _ l hf o (p73 l hf))
theorem p123 (l:List TypeV) (hf:FLs FType l) (o:OffV):PR3.v 123 [.sl 7 false (l.map typeD),offD o] (.tup [amD (hasO l o).1 (hasO l o).2,.bool (isO l o)]):=pr3 E123 Tryz.func123 T123 (yndY _ l o (p152 l hf o) p178)
theorem p96 (n:Int):PR3.v 96 [jI n] (.bool (timeB n)):=pr3 E96 Tryz.func96 T96 (yneY _ n)
theorem p97 (n:Int):PR3.v 97 [jI n] (.bool (spanB n)):=pr3 E97 Tryz.func97 T97 (ynfY _ n)
theorem p71 (n:Int):PR3.v 71 [jI n] (.bool (timeB n)):=pr3 E71 Tryz.func71 T71 (yngY _ n)
theorem p72 (n:Int):PR3.v 72 [jI n] (.bool (spanB n)):=pr3 E72 Tryz.func72 T72 (ynhY _ n)
theorem p204 (y:PoolV) (n:Str):PR3.v 204 [poolD y,.vptr (.agg [mkS n]) 0] (.bool (decide (y.name=n))):=pr3 E204 Tryz.func204 T204 (yniY _ y n)
theorem p207 (y:ClaimV) (n:Str):PR3.v 207 [ybY y,.vptr (.agg [mkS n]) 0] (.bool (decide (y.name=n))):=pr3 E207 Tryz.func207 T207 (ynjY _ y n)
theorem p206 (s:SnapV) (hF:FSnap s) (o:OffV):PR3.v 206 [offD o,.vptr (snapD s) 0] (.bool (!isO s.types o)):=pr3 E206 Tryz.func206 T206 (ynkY _ s o fun o=>p162 _ hF.types o)
theorem p246 (s:SnapV) (hF:FSnap s) (os:List OffV) (hl:os.length<4611686018427387904):PR3.v 246 [.sl 3 false (os.map offD),.fn 206 [] [.vptr (snapD s) 0]] (jI (idxI (fun o=>!isO s.types o) os)):=pr3 E246 Tryz.func246 T246 (ylmY _ 206 (fun o=>!isO s.types o) os hl _ (yesY s) fun y _=>p206 s hF y)
theorem p205 (s:SnapV) (hF:FSnap s) (os:List OffV) (hl:os.length<4611686018427387904):PR3.v 205 [.sl 3 false (os.map offD),.fn 206 [] [.vptr (snapD s) 0]] (.bool (os.any fun o=>!isO s.types o)):=pr3 E205 Tryz.func205 T205 (ylvY _ 206 _ os _ (yesY s) (p246 s hF os hl))
theorem p164 (s:SnapV) (hF:FSnap s) (os:List OffV) (hl:os.length<4611686018427387904):PR3.v 164 [snapD s,.sl 3 false (os.map offD)] (.bool (yzY s.types os)):=pr3 E164 Tryz.func164 T164 (ynlY _ s os (p205 s hF os hl))
theorem y4aY (n:Str):Clean (.agg [mkS n]):=⟨rfl,rfl⟩
theorem p105 (l:List PoolV) (hl:l.length<4611686018427387904) (n:Str):PR3.v 105 [.sl 10 false (l.map poolD),.fn 204 [] [.vptr (.agg [mkS n]) 0]] (jI (idxI (fun y=>decide (y.name=n)) l)):=pr3 E105 Tryz.func105 T105 (ylnY _ 204 (fun y=>decide (y.name=n)) l hl _ (y4aY n) fun y _=>p204 y n)
theorem p46 (l:List PoolV) (hl:l.length<4611686018427387904) (n:Str):PR3.v 46 [.sl 10 false (l.map poolD),.fn 204 [] [.vptr (.agg [mkS n]) 0]] (.bool (l.any fun y=>decide (y.name=n))):=pr3 E46 Tryz.func46 T46 (ylwY _ 204 _ l _ (y4aY n) (p105 l hl n))
theorem p163 (s:SnapV) (hF:FSnap s) (n:Str):PR3.v 163 [snapD s,mkS n] (.bool (y1uY s n)):=pr3 E163 Tryz.func163 T163 (ynmY _ s n (p46 _ hF.pools.lt n))
theorem p50 (l:List ClaimV) (hl:l.length<4611686018427387904) (n:Str):PR3.v 50 [.sl 15 false (l.map ybY),.fn 207 [] [.vptr (.agg [mkS n]) 0]] (jI (idxI (fun y=>decide (y.name=n)) l)):=pr3 E50 Tryz.func50 T50 (yecY _ 207 (fun y=>decide (y.name=n)) l hl _ (y4aY n) fun y _=>p207 y n)
theorem p169 (l:List ClaimV) (hl:l.length<4611686018427387904) (n:Str):PR3.v 169 [.sl 15 false (l.map ybY),.fn 207 [] [.vptr (.agg [mkS n]) 0]] (.bool (l.any fun y=>decide (y.name=n))):=pr3 E169 Tryz.func169 T169 (ylxY _ 207 _ l _ (y4aY n) (p50 l hl n))
theorem p165 (s:SnapV) (hF:FSnap s) (n:Str):PR3.v 165 [snapD s,mkS n] (.bool (y1dY s n)):=pr3 E165 Tryz.func165 T165 (ynnY _ s n (p169 _ hF.claims.lt n))
theorem p99 (s:SnapV) (hF:FSnap s):PR3.v 99 [snapD s] (jI (y2jY s)):=pr3 E99 Tryz.func99 T99 (ynsY _ s hF m22)
theorem p102 (s:SnapV) (hF:FSnap s):PR3.v 102 [snapD s] (jI (cmdsE s)):=pr3 E102 Tryz.func102 T102 (yntY _ s hF m24 (p163 s hF) (p164 s hF))
theorem p101 (s:SnapV) (hF:FSnap s):PR3.v 101 [snapD s] (jI (podsE s)):=pr3 E101 Tryz.func101 T101 (ynuY _ s hF m21 (p165 s hF))
theorem p100 (s:SnapV) (hF:FSnap s):PR3.v 100 [snapD s] (jI (y1vY s)):=pr3 E100 Tryz.func100 T100 (ynvY _ s hF m23 (p162 _ hF.types) (p163 s hF) (p164 s hF))
theorem p167 (x y:OffV):PR3.v 167 [offD x,offD y] (jI (cmpO x y)):=pr3 E167 Tryz.func167 T167 (ynwY _ x y cmp88 m200)
theorem p103 (s:SnapV) (hF:FSnap s):PR3.v 103 [snapD s] (jI (y24Y s)):=pr3 E103 Tryz.func103 T103 (ynxY _ s hF (p164 s hF) p96 p167)
theorem p104 (s:SnapV) (hF:FSnap s):PR3.v 104 [snapD s] (jI (y25Y s)):=pr3 E104 Tryz.func104 T104 (ynzY _ s hF (p164 s hF) p96)
theorem p45 (s:SnapV) (hF:FSnap s):PR3.v 45 [snapD s] (jI (snapE s)):=pr3 E45 Tryz.func45 T45 (yo1Y _ s hF p96 p97 (p98 _ hF.types) (p99 s hF) (p100 s hF) (p101 s hF) (p102 s hF) (p103 s hF) (p104 s hF))
theorem p49 (s:SnapV) (hF:FSnap s) (n:Str):PR3.v 49 [snapD s,mkS n] (.tup [poolD ((s.pools.find? fun x=>decide (x.name=n)).getD y3lY),.bool (s.pools.find? fun x=>decide (x.name=n)).isSome]):=pr3 E49 Tryz.func49 T49 (yo2Y _ s hF n)
theorem p76 (s:SnapV) (hF:FSnap s) (n:Str):PR3.v 76 [snapD s,mkS n] (.tup [ybY ((s.claims.find? fun x=>decide (x.name=n)).getD zeroC),.bool (s.claims.find? fun x=>decide (x.name=n)).isSome]):=pr3 E76 Tryz.func76 T76 (yo3Y _ s hF n)
theorem p122 (l:List TypeV) (hf:FLs FType l) (os:List OffV) (hl:os.length<4611686018427387904):PR3.v 122 [.sl 7 false (l.map typeD),.sl 3 false (os.map offD)] (.bool (yzY l os)):=pr3 E122 Tryz.func122 T122 (ynoY _ l os hl (p123 l hf))
theorem p125 (x y:OffV):PR3.v 125 [offD x,offD y] (.bool (ltO x y)):=pr3 E125 Tryz.func125 T125 (yo4Y _ x y)
theorem p75 (s:SnapV) (hF:FSnap s):PR3.v 75 [snapD s] (jI (y1vY s)):=pr3 E75 Tryz.func75 T75 (yo5Y _ s hF m50 (p123 _ hF.types) (p49 s hF) (p122 _ hF.types))
theorem p77 (s:SnapV) (hF:FSnap s):PR3.v 77 [snapD s] (jI (y3Y [cmdsE s,y24Y s,y25Y s])):=pr3 E77 Tryz.func77 T77 (yo6Y _ s hF m51 (p49 s hF) (p122 _ hF.types) p71 p125)
theorem p33 (s:SnapV) (hF:FSnap s):PR3.v 33 [snapD s] (jI (snapE s)):=pr3 E33 Tryz.func33 T33 (yo8Y _ s hF p71 p72 (p73 _ hF.types) m49 (p75 s hF) m48 (p76 s hF) (p77 s hF))
end Go.Proofs.AM
namespace Go.Proofs.AM
open Go Cd
def c7:Func :=
⟨3,38,[.tmp 6],
 (SS [o 3 (.box (t 0)),o 4 (.box (t 1)),o 6 (.mov (BB false))]
 (SS [o 12 (CC 27 []),vv 7 12]
 (SS [o 14 (.load 14 true (t 3)),o 15 (.load 12 true (t 4)),vv 16 2,o 17 (CC 28 [(t 14),(t 15),(t 16)]),vv 13 17,o 18 (.ext 0 (t 13)),o 19 (.ext 1 (t 13)),vv 8 18,vv 9 19]
 (SS [o 21 (.load 14 true (t 3)),o 22 (.load 12 true (t 4)),vv 23 2,o 24 (CC 29 [(t 21),(t 22),(t 23)]),vv 20 24,o 25 (.ext 0 (t 20)),o 26 (.ext 1 (t 20)),vv 10 25,vv 11 26]
 (SS [vv 27 7,vv 28 27,gv 29 8 28 true,gv 30 10 28 true,gg 31 (.eqb false (t 29) (t 30)) 28 true,o 32 (.pick (t 28) (t 31) (BB false)),vv 33 32,gv 34 9 33 true,gv 35 11 33 true,gg 36 (.bin .eql (t 34) (t 35)) 33 true,o 37 (.pick (t 33) (t 36) (BB false)),vv 6 37]
 .ret)))))⟩
def c8:Func :=
⟨3,38,[.tmp 6],
 (SS [o 3 (.box (t 0)),o 4 (.box (t 1)),o 6 (.mov (BB false))]
 (SS [o 12 (CC 27 []),vv 7 12]
 (SS [o 14 (.load 14 true (t 3)),o 15 (.load 12 true (t 4)),vv 16 2,o 17 (CC 30 [(t 14),(t 15),(t 16)]),vv 13 17,o 18 (.ext 0 (t 13)),o 19 (.ext 1 (t 13)),vv 8 18,vv 9 19]
 (SS [o 21 (.load 14 true (t 3)),o 22 (.load 12 true (t 4)),vv 23 2,o 24 (CC 31 [(t 21),(t 22),(t 23)]),vv 20 24,o 25 (.ext 0 (t 20)),o 26 (.ext 1 (t 20)),vv 10 25,vv 11 26]
 (SS [vv 27 7,vv 28 27,gv 29 8 28 true,gv 30 10 28 true,gg 31 (.eqb false (t 29) (t 30)) 28 true,o 32 (.pick (t 28) (t 31) (BB false)),vv 33 32,gv 34 9 33 true,gv 35 11 33 true,gg 36 (.bin .eql (t 34) (t 35)) 33 true,o 37 (.pick (t 33) (t 36) (BB false)),vv 6 37]
 .ret)))))⟩
def c9:Func :=
⟨5,86,[.tmp 10],
 (SS [o 5 (.box (t 0)),o 6 (.box (t 1)),o 7 (.box (t 2)),o 10 (.mov (BB false))]
 (SS [o 16 (CC 27 []),vv 11 16]
 (SS [ff 17 0 6,w (.store 1 (t 17) (c (.str ⟨#[102,105,114,115,116]⟩)))]
 (SS [ff 18 0 7,w (.store 1 (t 18) (c (.str ⟨#[115,101,99,111,110,100]⟩)))]
 (SS [ff 19 11 6,w (.store 1 (t 19) (c Ee))]
 (SS [ff 20 11 7,w (.store 1 (t 20) (c Ee))]
 (SS [ff 21 10 6,w (.store 1 (t 21) (II 0))]
 (SS [ff 22 10 7,w (.store 1 (t 22) (II 0))]
 (QQ (SS [o 23 (.load 12 true (t 6)),o 24 (CC 32 [(t 23)]),o 25 (.bin .neq (t 24) (II 0)),vv 26 25,gg 27 (.load 12 true (t 7)) 26 false,gg 28 (CC 32 [(t 27)]) 26 false,gg 29 (.bin .neq (t 28) (II 0)) 26 false,o 30 (.pick (t 26) (BB true) (t 29))]
 (.cond (t 30) (SS [vv 31 11,vv 10 31]
 .ret) .skip))
 (SS [vv 32 3,ff 33 11 6,w (.store 1 (t 33) (t 32))]
 (SS [o 34 (.load 12 true (t 6)),o 35 (.mkSl false 12 59 (.agg [Ee,Ee,Zz,Zz,Zz,(.sl 4 true []),(.sl 3 true []),(.sl 3 true []),(.sl 2 true []),(.sl 2 true []),Zz,Ee]) 1 [(0,(t 34))]),ff 36 7 5,w (.store 1 (t 36) (t 35))]
 (QQ (SS [o 37 (.load 14 true (t 5)),o 38 (CC 33 [(t 37)]),o 39 (.bin .neq (t 38) (II 0)),vv 40 39,gv 41 3 40 false,gg 42 (.bin .eql (t 41) (c Ee)) 40 false,o 43 (.pick (t 40) (BB true) (t 42))]
 (.cond (t 43) (SS [vv 44 11,vv 10 44]
 .ret) .skip))
 (SS [o 46 (.load 14 true (t 5)),o 47 (.load 12 true (t 7)),vv 48 4,o 49 (CC 30 [(t 46),(t 47),(t 48)]),vv 45 49,o 50 (.ext 0 (t 45)),o 51 (.ext 1 (t 45)),vv 12 50,vv 13 51]
 (SS [vv 52 4,ff 53 11 7,w (.store 1 (t 53) (t 52))]
 (SS [o 54 (.load 12 true (t 7)),o 55 (.mkSl false 12 59 (.agg [Ee,Ee,Zz,Zz,Zz,(.sl 4 true []),(.sl 3 true []),(.sl 3 true []),(.sl 2 true []),(.sl 2 true []),Zz,Ee]) 1 [(0,(t 54))]),ff 56 7 5,w (.store 1 (t 56) (t 55))]
 (QQ (SS [o 57 (.load 14 true (t 5)),o 58 (CC 33 [(t 57)]),o 59 (.bin .neq (t 58) (II 0)),vv 60 59,gv 61 4 60 false,gg 62 (.bin .eql (t 61) (c Ee)) 60 false,o 63 (.pick (t 60) (BB true) (t 62))]
 (.cond (t 63) (SS [vv 64 11,vv 10 64]
 .ret) .skip))
 (SS [o 66 (.load 14 true (t 5)),o 67 (.load 12 true (t 6)),vv 68 3,o 69 (CC 30 [(t 66),(t 67),(t 68)]),vv 65 69,o 70 (.ext 0 (t 65)),o 71 (.ext 1 (t 65)),vv 14 70,vv 15 71]
 (SS [vv 72 11,vv 73 72,gv 74 13 73 true,gg 75 (.bin .eql (t 74) (II 0)) 73 true,o 76 (.pick (t 73) (t 75) (BB false)),vv 77 76,gv 78 15 77 true,gg 79 (.bin .eql (t 78) (II 0)) 77 true,o 80 (.pick (t 77) (t 79) (BB false)),vv 81 80,gv 82 12 81 true,gv 83 14 81 true,gg 84 (.eqb false (t 82) (t 83)) 81 true,o 85 (.pick (t 81) (t 84) (BB false)),vv 10 85]
 .ret))))))))))))))))))⟩
def c10:Func :=
⟨3,76,[.tmp 6],
 (SS [o 3 (.box (t 0)),o 4 (.box (t 1)),o 6 (.mov (BB false))]
 (SS [o 15 (CC 27 []),vv 7 15]
 (SS [ff 16 7 3,w (.store 1 (t 16) (c (.sl 12 true [])))]
 (SS [o 18 (.load 14 true (t 3)),o 19 (.load 12 true (t 4)),vv 20 2,o 21 (CC 28 [(t 18),(t 19),(t 20)]),vv 17 21,o 22 (.ext 0 (t 17)),o 23 (.ext 1 (t 17)),vv 8 22,vv 9 23]
 (SS [o 25 (.load 14 true (t 3)),o 26 (.load 12 true (t 4)),vv 27 2,o 28 (CC 30 [(t 25),(t 26),(t 27)]),vv 24 28,o 29 (.ext 0 (t 24)),o 30 (.ext 1 (t 24)),vv 10 29,vv 11 30]
 (QQ (SS [vv 31 9,o 32 (.bin .neq (t 31) (II 0)),vv 33 32,gv 34 11 33 false,gg 35 (.bin .neq (t 34) (II 0)) 33 false,o 36 (.pick (t 33) (BB true) (t 35))]
 (.cond (t 36) (SS [vv 37 7,vv 38 37,gv 39 9 38 true,gv 40 11 38 true,gg 41 (.bin .eql (t 39) (t 40)) 38 true,o 42 (.pick (t 38) (t 41) (BB false)),vv 43 42,gv 44 8 43 true,gg 45 (.un .not (t 44)) 43 true,o 46 (.pick (t 43) (t 45) (BB false)),vv 47 46,gv 48 10 47 true,gg 49 (.un .not (t 48)) 47 true,o 50 (.pick (t 47) (t 49) (BB false)),vv 6 50]
 .ret) .skip))
 (SS [o 12 (.mov (BB true))]
 (QQ (SS [ff 51 8 4,ll 52 51,o 53 (.lenSl (t 52)),KK 54 0]
 (.block 0 (.loop (SS [o 55 (.bin .lss (t 54) (t 53))]
 (QQ (.cond (t 55) .skip (.exit 0))
 (QQ (.block 1 (SS [o 56 (.iAddrS 2 (t 52) (t 54)),o 57 (.load 2 true (t 56)),o 14 (.alloc [Ee,Ee]),w (.store 2 (t 14) (t 57))]
 (.ops [vv 58 12,vv 59 58,gf 60 1 14 59 true,gl 61 60 59 true,gf 62 1 4 59 true,gl 63 62 59 true,gg 64 (.bin .eql (t 61) (t 63)) 59 true,o 65 (.pick (t 59) (t 64) (BB false)),vv 12 65])))
 (.ops [o 66 (.bin .add (t 54) (II 1)),vv 54 66])))))))
 (SS [vv 67 7,vv 68 67,gv 69 10 68 true,o 70 (.pick (t 68) (t 69) (BB false)),vv 71 70,gv 72 8 71 true,gv 73 12 71 true,gg 74 (.eqb false (t 72) (t 73)) 71 true,o 75 (.pick (t 71) (t 74) (BB false)),vv 6 75]
 .ret)))))))))⟩
def c11:Func :=
⟨4,139,[.tmp 8],
 (SS [o 4 (.box (t 0)),o 5 (.box (t 1)),o 8 (.mov (BB false))]
 (SS [o 21 (CC 27 []),vv 9 21]
 (SS [o 23 (.load 14 true (t 4)),o 24 (.load 12 true (t 5)),vv 25 2,o 26 (CC 28 [(t 23),(t 24),(t 25)]),vv 22 26,o 27 (.ext 0 (t 22)),o 28 (.ext 1 (t 22)),vv 10 27,vv 11 28]
 (SS [o 30 (.load 14 true (t 4)),o 31 (.load 12 true (t 5)),vv 32 2,o 33 (CC 30 [(t 30),(t 31),(t 32)]),vv 29 33,o 34 (.ext 0 (t 29)),o 35 (.ext 1 (t 29)),vv 12 34,vv 13 35]
 (QQ (SS [vv 36 11,o 37 (.bin .neq (t 36) (II 0)),vv 38 37,gv 39 13 38 false,gg 40 (.bin .neq (t 39) (II 0)) 38 false,o 41 (.pick (t 38) (BB true) (t 40)),vv 42 41,gf 43 8 5 42 false,gl 44 43 42 false,gg 45 (.lenSl (t 44)) 42 false,gf 46 9 5 42 false,gl 47 46 42 false,gg 48 (.lenSl (t 47)) 42 false,gg 49 (.bin .add (t 45) (t 48)) 42 false,gg 50 (.bin .eql (t 49) (II 0)) 42 false,o 51 (.pick (t 42) (BB true) (t 50))]
 (.cond (t 51) (SS [vv 52 9,vv 8 52]
 .ret) .skip))
 (SS [ff 53 8 5,ll 54 53,o 55 (.lenSl (t 54)),ff 56 9 5,ll 57 56,o 58 (.lenSl (t 57)),o 59 (.bin .add (t 55) (t 58)),vv 14 59]
 (SS [vv 60 3,vv 61 14,o 62 (.bin .rem (t 60) (t 61)),vv 63 14,o 64 (.bin .add (t 62) (t 63)),vv 65 14,o 66 (.bin .rem (t 64) (t 65)),vv 15 66]
 (SS [o 67 (.load 12 true (t 5)),o 16 (.alloc [Ee,Ee,Zz,Zz,Zz,(.sl 4 true []),(.sl 3 true []),(.sl 3 true []),(.sl 2 true []),(.sl 2 true []),Zz,Ee]),w (.store 12 (t 16) (t 67))]
 (QQ (SS [vv 68 15,ff 69 8 5,ll 70 69,o 71 (.lenSl (t 70)),o 72 (.bin .lss (t 68) (t 71))]
 (.cond (t 72) (.ops [o 73 (.fAddrP 8 (t 5)),o 74 (.loadP 1 false (t 73)),vv 75 15,o 76 (.slc 2 (t 74) none (some (t 75))),o 77 (.appD 2 66 32 (c (.sl 2 true [])) (t 76)),o 78 (.fAddrP 8 (t 5)),o 79 (.loadP 1 false (t 78)),vv 80 15,o 81 (.bin .add (t 80) (II 1)),o 82 (.slc 2 (t 79) (some (t 81)) none),o 83 (.appD 2 66 32 (t 77) (t 82)),o 84 (.fAddrP 8 (t 16)),w (.store 1 (t 84) (t 83))]) (SS [vv 85 15,ff 86 8 5,ll 87 86,o 88 (.lenSl (t 87)),o 89 (.bin .sub (t 85) (t 88)),vv 15 89]
 (.ops [o 90 (.fAddrP 9 (t 5)),o 91 (.loadP 1 false (t 90)),vv 92 15,o 93 (.slc 2 (t 91) none (some (t 92))),o 94 (.appD 2 66 32 (c (.sl 2 true [])) (t 93)),o 95 (.fAddrP 9 (t 5)),o 96 (.loadP 1 false (t 95)),vv 97 15,o 98 (.bin .add (t 97) (II 1)),o 99 (.slc 2 (t 96) (some (t 98)) none),o 100 (.appD 2 66 32 (t 94) (t 99)),o 101 (.fAddrP 9 (t 16)),w (.store 1 (t 101) (t 100))]))))
 (SS [o 103 (.load 14 true (t 4)),o 104 (.load 12 true (t 16)),vv 105 2,o 106 (CC 28 [(t 103),(t 104),(t 105)]),vv 102 106,o 107 (.ext 0 (t 102)),o 108 (.ext 1 (t 102)),vv 17 107,vv 18 108]
 (SS [o 110 (.load 14 true (t 4)),o 111 (.load 12 true (t 16)),vv 112 2,o 113 (CC 30 [(t 110),(t 111),(t 112)]),vv 109 113,o 114 (.ext 0 (t 109)),o 115 (.ext 1 (t 109)),vv 19 114,vv 20 115]
 (SS [vv 116 9,vv 117 116,gv 118 18 117 true,gg 119 (.bin .eql (t 118) (II 0)) 117 true,o 120 (.pick (t 117) (t 119) (BB false)),vv 121 120,gv 122 20 121 true,gg 123 (.bin .eql (t 122) (II 0)) 121 true,o 124 (.pick (t 121) (t 123) (BB false)),vv 125 124,gv 126 10 125 true,gg 127 (.un .not (t 126)) 125 true,gv 128 127 125 true,gv 129 17 128 false,gg 130 (.pick (t 128) (BB true) (t 129)) 125 true,o 131 (.pick (t 125) (t 130) (BB false)),vv 132 131,gv 133 12 132 true,gg 134 (.un .not (t 133)) 132 true,gv 135 134 132 true,gv 136 19 135 false,gg 137 (.pick (t 135) (BB true) (t 136)) 132 true,o 138 (.pick (t 132) (t 137) (BB false)),vv 8 138]
 .ret))))))))))))⟩
def c27:Func :=
⟨0,63,[.tmp 0],
 (SS [o 0 (.mov (BB false))]
 (SS [o 11 (.build [Ee,Ee] [(0,1,(c (.str ⟨#[122,111,110,101]⟩))),(1,1,(c (.str ⟨#[120]⟩)))]),o 12 (.mkSl false 2 66 (.agg [Ee,Ee]) 1 [(0,(t 11))]),o 13 (.build [Ee,Ee,Zz,Zz,Zz,(.sl 4 true []),(.sl 3 true []),(.sl 3 true []),(.sl 2 true []),(.sl 2 true []),Zz,Ee] [(0,1,(c (.str ⟨#[113]⟩))),(1,1,(c (.str ⟨#[121]⟩))),(8,1,(t 12))]),o 1 (.alloc [Ee,Ee,Zz,Zz,Zz,(.sl 4 true []),(.sl 3 true []),(.sl 3 true []),(.sl 2 true []),(.sl 2 true []),Zz,Ee]),w (.store 12 (t 1) (t 13))]
 (SS [o 2 (.mov (c Ee))]
 (QQ (SS [o 14 (.mkSl false 1 9 Ee 3 [(0,(c (.str ⟨#[99,49]⟩))),(1,(c (.str ⟨#[99,50]⟩))),(2,(c (.str ⟨#[99,51]⟩)))]),o 15 (.lenSl (t 14)),KK 16 0]
 (.block 0 (.loop (SS [o 17 (.bin .lss (t 16) (t 15))]
 (QQ (.cond (t 17) .skip (.exit 0))
 (QQ (.block 1 (SS [o 18 (.iAddrS 1 (t 14) (t 16)),ll 19 18,vv 4 19]
 (SS [o 21 (.call true (c (.fn 54 [] [])) []),o 22 (.load 12 true (t 1)),vv 23 4,o 24 (.call true (c (.fn 28 [] [])) [(t 21),(t 22),(t 23)]),vv 20 24,o 25 (.ext 0 (t 20)),o 26 (.ext 1 (t 20)),vv 5 25,vv 6 26]
 (SS [vv 27 5,vv 28 27,gv 29 6 28 true,gg 30 (.bin .eql (t 29) (II 0)) 28 true,o 31 (.pick (t 28) (t 30) (BB false))]
 (.cond (t 31) (.ops [vv 32 2,vv 33 4,o 34 (.bin .add (t 32) (t 33)),vv 2 34]) .skip)))))
 (.ops [o 35 (.bin .add (t 16) (II 1)),vv 16 35])))))))
 (SS [o 36 (.build [Ee,Ee] [(0,1,(c (.str ⟨#[122,111,110,101]⟩))),(1,1,(c (.str ⟨#[120]⟩)))]),o 37 (.mkSl false 2 66 (.agg [Ee,Ee]) 1 [(0,(t 36))]),o 38 (.build [Ee,Ee,Zz,Zz,Zz,(.sl 4 true []),(.sl 3 true []),(.sl 3 true []),(.sl 2 true []),(.sl 2 true []),Zz,Ee] [(0,1,(c (.str ⟨#[113]⟩))),(1,1,(c (.str ⟨#[121]⟩))),(9,1,(t 37))]),w (.store 12 (t 1) (t 38))]
 (QQ (SS [o 39 (.mkSl false 1 9 Ee 3 [(0,(c (.str ⟨#[99,49]⟩))),(1,(c (.str ⟨#[99,50]⟩))),(2,(c (.str ⟨#[99,51]⟩)))]),o 40 (.lenSl (t 39)),KK 41 0]
 (.block 2 (.loop (SS [o 42 (.bin .lss (t 41) (t 40))]
 (QQ (.cond (t 42) .skip (.exit 2))
 (QQ (.block 3 (SS [o 43 (.iAddrS 1 (t 39) (t 41)),ll 44 43,vv 8 44]
 (SS [o 46 (.call true (c (.fn 54 [] [])) []),o 47 (.load 12 true (t 1)),vv 48 8,o 49 (.call true (c (.fn 30 [] [])) [(t 46),(t 47),(t 48)]),vv 45 49,o 50 (.ext 0 (t 45)),o 51 (.ext 1 (t 45)),vv 9 50,vv 10 51]
 (SS [vv 52 9,vv 53 52,gv 54 10 53 true,gg 55 (.bin .eql (t 54) (II 0)) 53 true,o 56 (.pick (t 53) (t 55) (BB false))]
 (.cond (t 56) (.ops [vv 57 2,vv 58 8,o 59 (.bin .add (t 57) (t 58)),vv 2 59]) .skip)))))
 (.ops [o 60 (.bin .add (t 41) (II 1)),vv 41 60])))))))
 (SS [vv 61 2,o 62 (.bin .eql (t 61) (c (.str ⟨#[99,49,99,50,99,51]⟩))),vv 0 62]
 .ret)))))))⟩
def c54:Func :=
⟨0,17,[.cell 0 14 true],
 (SS [o 0 (.alloc [Zz,Zz,Zz,Zz,Zz,Zz,(.sl 7 true []),(.sl 12 true []),(.sl 10 true []),(.sl 15 true []),(.sl 8 true []),(.sl 4 true []),(.sl 7 true []),(.sl 1 true [])])]
 (SS [o 1 (.build [Zz,Zz] [(0,1,(II 2000)),(1,1,(II 4096))]),o 2 (.build [Ee,Ee,Zz,(.bool false)] [(0,1,(c (.str ⟨#[97]⟩))),(1,1,(c (.str ⟨#[111,100]⟩))),(2,1,(II 100)),(3,1,(BB true))]),o 3 (.build [Ee,Ee,Zz,(.bool false)] [(0,1,(c (.str ⟨#[98]⟩))),(1,1,(c (.str ⟨#[111,100]⟩))),(2,1,(II 100)),(3,1,(BB true))]),o 4 (.mkSl false 4 144 (.agg [Ee,Ee,Zz,(.bool false)]) 2 [(0,(t 2)),(1,(t 3))]),o 5 (.build [Ee,Zz,Zz,Zz,Zz,(.sl 2 true []),(.sl 4 true [])] [(0,1,(c (.str ⟨#[115]⟩))),(1,2,(t 1)),(6,1,(t 4))]),o 6 (.mkSl false 7 147 (.agg [Ee,Zz,Zz,Zz,Zz,(.sl 2 true []),(.sl 4 true [])]) 1 [(0,(t 5))]),o 7 (.build [Ee,Ee,Zz,Zz,Zz,(.sl 4 true []),(.sl 3 true []),(.sl 3 true []),(.sl 2 true []),(.sl 2 true []),Zz,Ee] [(0,1,(c (.str ⟨#[109]⟩))),(1,1,(c (.str ⟨#[120]⟩))),(11,1,(c (.str ⟨#[99,49]⟩)))]),o 8 (.mkSl false 12 59 (.agg [Ee,Ee,Zz,Zz,Zz,(.sl 4 true []),(.sl 3 true []),(.sl 3 true []),(.sl 2 true []),(.sl 2 true []),Zz,Ee]) 1 [(0,(t 7))]),o 9 (.build [Zz,Zz] [(0,1,(II 9000)),(1,1,(II 9000))]),o 10 (.build [Ee,Zz,Zz,Zz,(.sl 4 true []),(.sl 2 true []),Zz,Zz,Zz,Zz] [(0,1,(c (.str ⟨#[112]⟩))),(2,2,(t 9)),(6,1,(II 1))]),o 11 (.mkSl false 10 53 (.agg [Ee,Zz,Zz,Zz,(.sl 4 true []),(.sl 2 true []),Zz,Zz,Zz,Zz]) 1 [(0,(t 10))]),o 12 (CC 107 [(c (.str ⟨#[99,49]⟩)),(c (.str ⟨#[97]⟩))]),o 13 (CC 107 [(c (.str ⟨#[99,50]⟩)),(c (.str ⟨#[97]⟩))]),o 14 (CC 107 [(c (.str ⟨#[99,51]⟩)),(c (.str ⟨#[98]⟩))]),o 15 (.mkSl false 15 49 (.agg [Ee,Ee,Zz,Ee,Ee,Ee,Zz,Zz,Zz,(.sl 3 true []),Zz,Ee,Zz,Zz,(.bool false)]) 3 [(0,(t 12)),(1,(t 13)),(2,(t 14))]),o 16 (.build [Zz,Zz,Zz,Zz,Zz,Zz,(.sl 7 true []),(.sl 12 true []),(.sl 10 true []),(.sl 15 true []),(.sl 8 true []),(.sl 4 true []),(.sl 7 true []),(.sl 1 true [])] [(6,1,(t 6)),(7,1,(t 8)),(8,1,(t 11)),(9,1,(t 15))]),w (.store 14 (t 0) (t 16))]
 (.gh (.clean 6) (.gh (.clean 8) (.gh (.clean 11) .ret)))))⟩
def c107:Func :=
⟨2,15,[.cell 4 15 true],
 (SS [o 4 (.alloc [Ee,Ee,Zz,Ee,Ee,Ee,Zz,Zz,Zz,(.sl 3 true []),Zz,Ee,Zz,Zz,(.bool false)])]
 (SS [vv 6 1,o 7 (.build [Ee,Ee,Ee] [(0,1,(c (.str ⟨#[115]⟩))),(1,1,(t 6)),(2,1,(c (.str ⟨#[111,100]⟩)))]),o 5 (.alloc [Ee,Ee,Ee]),w (.store 3 (t 5) (t 7))]
 (SS [vv 8 0,o 9 (.load 3 true (t 5)),o 10 (.build [Zz,Zz] [(0,1,(II 2000)),(1,1,(II 4096))]),o 11 (.load 3 true (t 5)),o 12 (.mkSl false 3 44 (.agg [Ee,Ee,Ee]) 1 [(0,(t 11))]),vv 13 0,o 14 (.build [Ee,Ee,Zz,Ee,Ee,Ee,Zz,Zz,Zz,(.sl 3 true []),Zz,Ee,Zz,Zz,(.bool false)] [(0,1,(t 8)),(1,1,(c (.str ⟨#[112]⟩))),(2,1,(II 1)),(3,3,(t 9)),(6,1,(II 100)),(7,2,(t 10)),(9,1,(t 12)),(10,1,(II 1)),(11,1,(t 13)),(12,1,(II 3))]),w (.store 15 (t 4) (t 14))]
 .ret)))⟩
end Go.Proofs.AM
namespace Go.Proofs.AM
open Go Go.RowKit Go.Shelf Cd
set_option maxRecDepth 100000
theorem E7:y1Y Tryz.prog 7:=enters_of Tryz.func7 (by kernel_rfl) rfl
theorem T7:funcT Tryz.prog [] Tryz.f7=some c7.erase:=by kernel_rfl
theorem E8:y1Y Tryz.prog 8:=enters_of Tryz.func8 (by kernel_rfl) rfl
theorem T8:funcT Tryz.prog [] Tryz.f8=some c8.erase:=by kernel_rfl
theorem E9:y1Y Tryz.prog 9:=enters_of Tryz.func9 (by kernel_rfl) rfl
theorem T9:funcT Tryz.prog [] Tryz.f9=some c9.erase:=by kernel_rfl
theorem E10:y1Y Tryz.prog 10:=enters_of Tryz.func10 (by kernel_rfl) rfl
theorem T10:funcT Tryz.prog [] Tryz.f10=some c10.erase:=by kernel_rfl
theorem E11:y1Y Tryz.prog 11:=enters_of Tryz.func11 (by kernel_rfl) rfl
theorem T11:funcT Tryz.prog [73,74,77,78,79,83,84,90,91,94,95,96,100,101] Tryz.f11=some c11.erase:=by kernel_rfl
theorem E27:y1Y Tryz.prog 27:=enters_of Tryz.func27 (by kernel_rfl) rfl
theorem T27:funcT Tryz.prog [] Tryz.f27=some c27.erase:=by kernel_rfl
theorem E28:y1Y Tryz.prog 28:=enters_of Tryz.func28 (by kernel_rfl) rfl
theorem T28:funcT Tryz.prog [] Tryz.f28=some c28.erase:=by kernel_rfl
theorem E29:y1Y Tryz.prog 29:=enters_of Tryz.func29 (by kernel_rfl) rfl
theorem T29:funcT Tryz.prog [] Tryz.f29=some c29.erase:=by kernel_rfl
theorem E30:y1Y Tryz.prog 30:=enters_of Tryz.func30 (by kernel_rfl) rfl
theorem T30:funcT Tryz.prog [] Tryz.f30=some c30.erase:=by kernel_rfl
theorem E31:y1Y Tryz.prog 31:=enters_of Tryz.func31 (by kernel_rfl) rfl
theorem T31:funcT Tryz.prog [] Tryz.f31=some c31.erase:=by kernel_rfl
theorem E54:y1Y Tryz.prog 54:=enters_of Tryz.func54 (by kernel_rfl) rfl
theorem T54:funcT Tryz.prog [] Tryz.f54=some c54.erase:=by kernel_rfl
theorem E55:y1Y Tryz.prog 55:=enters_of Tryz.func55 (by kernel_rfl) rfl
theorem T55:funcT Tryz.prog [] Tryz.f55=some c55.erase:=by kernel_rfl
theorem E56:y1Y Tryz.prog 56:=enters_of Tryz.func56 (by kernel_rfl) rfl
theorem T56:funcT Tryz.prog [] Tryz.f56=some c56.erase:=by kernel_rfl
theorem E57:y1Y Tryz.prog 57:=enters_of Tryz.func57 (by kernel_rfl) rfl
theorem T57:funcT Tryz.prog [] Tryz.f57=some c57.erase:=by kernel_rfl
theorem E58:y1Y Tryz.prog 58:=enters_of Tryz.func58 (by kernel_rfl) rfl
theorem T58:funcT Tryz.prog [] Tryz.f58=some c58.erase:=by kernel_rfl
theorem E59:y1Y Tryz.prog 59:=enters_of Tryz.func59 (by kernel_rfl) rfl
theorem T59:funcT Tryz.prog [] Tryz.f59=some c59.erase:=by kernel_rfl
theorem E60:y1Y Tryz.prog 60:=enters_of Tryz.func60 (by kernel_rfl) rfl
theorem T60:funcT Tryz.prog [] Tryz.f60=some c60.erase:=by kernel_rfl
theorem E61:y1Y Tryz.prog 61:=enters_of Tryz.func61 (by kernel_rfl) rfl
theorem T61:funcT Tryz.prog [] Tryz.f61=some c61.erase:=by kernel_rfl
theorem E62:y1Y Tryz.prog 62:=enters_of Tryz.func62 (by kernel_rfl) rfl
theorem T62:funcT Tryz.prog [] Tryz.f62=some c62.erase:=by kernel_rfl
theorem E63:y1Y Tryz.prog 63:=enters_of Tryz.func63 (by kernel_rfl) rfl
theorem T63:funcT Tryz.prog [] Tryz.f63=some c63.erase:=by kernel_rfl
theorem E64:y1Y Tryz.prog 64:=enters_of Tryz.func64 (by kernel_rfl) rfl
theorem T64:funcT Tryz.prog [] Tryz.f64=some c64.erase:=by kernel_rfl
theorem E85:y1Y Tryz.prog 85:=enters_of Tryz.func85 (by kernel_rfl) rfl
theorem T85:funcT Tryz.prog [] Tryz.f85=some c85.erase:=by kernel_rfl
theorem E107:y1Y Tryz.prog 107:=enters_of Tryz.func107 (by kernel_rfl) rfl
theorem T107:funcT Tryz.prog [] Tryz.f107=some c107.erase:=by kernel_rfl
theorem E108:y1Y Tryz.prog 108:=enters_of Tryz.func108 (by kernel_rfl) rfl
theorem T108:funcT Tryz.prog [] Tryz.f108=some c108.erase:=by kernel_rfl
theorem E109:y1Y Tryz.prog 109:=enters_of Tryz.func109 (by kernel_rfl) rfl
theorem T109:funcT Tryz.prog [] Tryz.f109=some c109.erase:=by kernel_rfl
theorem E110:y1Y Tryz.prog 110:=enters_of Tryz.func110 (by kernel_rfl) rfl
theorem T110:funcT Tryz.prog [] Tryz.f110=some c110.erase:=by kernel_rfl
theorem E111:y1Y Tryz.prog 111:=enters_of Tryz.func111 (by kernel_rfl) rfl
theorem T111:funcT Tryz.prog [] Tryz.f111=some c111.erase:=by kernel_rfl
theorem E112:y1Y Tryz.prog 112:=enters_of Tryz.func112 (by kernel_rfl) rfl
theorem T112:funcT Tryz.prog [] Tryz.f112=some c112.erase:=by kernel_rfl
theorem E113:y1Y Tryz.prog 113:=enters_of Tryz.func113 (by kernel_rfl) rfl
theorem T113:funcT Tryz.prog [] Tryz.f113=some c113.erase:=by kernel_rfl
theorem E114:y1Y Tryz.prog 114:=enters_of Tryz.func114 (by kernel_rfl) rfl
theorem T114:funcT Tryz.prog [] Tryz.f114=some c114.erase:=by kernel_rfl
theorem E115:y1Y Tryz.prog 115:=enters_of Tryz.func115 (by kernel_rfl) rfl
theorem T115:funcT Tryz.prog [] Tryz.f115=some c115.erase:=by kernel_rfl
theorem E168:y1Y Tryz.prog 168:=enters_of Tryz.func168 (by kernel_rfl) rfl
theorem T168:funcT Tryz.prog [] Tryz.f168=some c168.erase:=by kernel_rfl
theorem E170:y1Y Tryz.prog 170:=enters_of Tryz.func170 (by kernel_rfl) rfl
theorem T170:funcT Tryz.prog [] Tryz.f170=some c170.erase:=by kernel_rfl
theorem E171:y1Y Tryz.prog 171:=enters_of Tryz.func171 (by kernel_rfl) rfl
theorem T171:funcT Tryz.prog [] Tryz.f171=some c171.erase:=by kernel_rfl
end Go.Proofs.AM
namespace Go.Proofs.AM
open Go Go.Lib Cd
theorem y67Y {s:SnapV} (hl:s.pods.length<4611686018427387904) (b:Str):(ysY s b).length<4611686018427387904:=by
 have:=List.length_filter_le (fun p:PodV=>!decide (p.on=[])&&!decide (p.name=b)) s.pods
 unfold ysY
 omega
theorem y68Y {s:SnapV} {p:PodV} {claim:Str} (h:yhY s p claim=0):s.pods.length<=24:=by
 have h2:=(y65Y (begin_parts.1 h).1).sizes
 unfold y54Y at h2
 simp only [Bool.and_eq_true,decide_eq_true_eq] at h2
 omega
theorem p108 (y:ClaimV) (n:Str):PR3.v 108 [ybY y,.vptr (.agg [mkS n]) 0] (.bool (decide (y.name=n))):=pr3 E108 Tryz.func108 T108 (yoaY _ y n)
theorem p50b (l:List ClaimV) (hl:l.length<4611686018427387904) (n:Str):PR3.v 50 [.sl 15 false (l.map ybY),.fn 108 [] [.vptr (.agg [mkS n]) 0]] (jI (idxI (fun y:ClaimV=>decide (y.name=n)) l)):=pr3 E50 Tryz.func50 T50 (yecY _ 108 (fun y=>decide (y.name=n)) l hl _ (y4aY n) fun y _=>p108 y n)
theorem p55 (s:SnapV) (hF:FSnap s) (p:PodV) (hp:FPod p) (claim:Str):PR3.v 55 [snapD s,podD p,mkS claim] (.tup [begX s p claim,jI (yhY s p claim)]):=pr3 E55 Tryz.func55 T55 (yooY _ s p claim hF.claims.lt (p45 s hF) (m21 p hp) (p50b _ hF.claims.lt claim))
theorem p170 (y:ClaimV) (q:PodV) (key:Str) (s:SnapV) (p:PodV) (c:ClaimV):PR3.v 170 [ybY y,.vptr (podD q) 0,.vptr (.agg [mkS key]) 0,.vptr (ygY s p c) 0] (.bool (hereC q key c y)):=pr3 E170 Tryz.func170 T170 (yobY _ y q key s p c)
theorem p111 (s:SnapV) (hF:FSnap s) (p:PodV) (c:ClaimV) (key:Str) (q:PodV):PR3.v 111 [ygY s p c,mkS key,podD q] (.bool (hereB s c key q)):=pr3 E111 Tryz.func111 T111 (yocY _ s p c key q (pr3 E169 Tryz.func169 T169 (ylyY _ 170 (hereC q key c) s.claims _ (y33Y (y1iY [q])) _ (y4aY key) _ (y32Y s p c) (pr3 E50 Tryz.func50 T50 (yloY _ 170 (hereC q key c) s.claims hF.claims.lt _ (y33Y (y1iY [q])) _ (y4aY key) _ (y32Y s p c) fun y _=>p170 y q key s p c)))))
theorem p63 (s:SnapV) (hl:s.pods.length<=24) (p:PodV) (c:ClaimV):PR3.v 63 [ygY s p c] (.sl 12 false ((ysY s p.name).map podD)):=pr3 E63 Tryz.func63 T63 (yolY _ s hl p c)
theorem p59 (s:SnapV) (hl:s.pods.length<=24) (b:Str):PR3.v 59 [snapD s,mkS b] (.sl 12 false ((ysY s b).map podD)):=pr3 E59 Tryz.func59 T59 (yomY _ s hl b)
theorem p113 (q:PodV) (t:LabV) (s:SnapV) (hF:FSnap s) (p:PodV) (c:ClaimV):PR3.v 113 [podD q,.vptr (labD t) 0,.vptr (ygY s p c) 0] (.bool (decide (q.app=t.v)&&hereB s c t.k q)):=pr3 E113 Tryz.func113 T113 (yodY _ q t s p c (p111 s hF p c t.k q))
theorem p112 (l:List PodV) (hl:l.length<4611686018427387904) (t:LabV) (s:SnapV) (hF:FSnap s) (p:PodV) (c:ClaimV):PR3.v 112 [.sl 12 false (l.map podD),.fn 113 [] [.vptr (labD t) 0,.vptr (ygY s p c) 0]] (.bool (l.any fun q=>decide (q.app=t.v)&&hereB s c t.k q)):=pr3 E112 Tryz.func112 T112 (ym2Y _ 113 (fun q=>decide (q.app=t.v)&&hereB s c t.k q) l _ (y33Y (y4Y [t])) _ (y32Y s p c) (pr3 E171 Tryz.func171 T171 (ylsY _ 113 (fun q=>decide (q.app=t.v)&&hereB s c t.k q) l hl _ (y33Y (y4Y [t])) _ (y32Y s p c) fun q _=>p113 q t s hF p c)))
theorem p61 (s:SnapV) (hF:FSnap s) (hl:s.pods.length<=24) (p:PodV) (c:ClaimV) (t:LabV):PR3.v 61 [ygY s p c,labD t] (.bool (y2oY s c p t)):=pr3 E61 Tryz.func61 T61 (yofY _ s p c t (p63 s hl p c) (p112 _ (y67Y hF.pods.lt _) t s hF p c))
theorem p57 (s:SnapV) (hF:FSnap s) (hl:s.pods.length<=24) (p:PodV) (c:ClaimV) (t:LabV):PR3.v 57 [ygY s p c,labD t] (.bool (nearT s c p t)):=pr3 E57 Tryz.func57 T57 (yonY _ s p c t (y67Y hF.pods.lt _) (p63 s hl p c) (p111 s hF p c t.k))
theorem p115 (q:PodV) (t:LabV) (s:SnapV) (hF:FSnap s) (p:PodV) (c:ClaimV):PR3.v 115 [labD t,.vptr (ygY s p c) 0,.vptr (podD q) 0] (.bool (decide (t.v=p.app)&&hereB s c t.k q)):=pr3 E115 Tryz.func115 T115 (yoeY _ q t s p c (p111 s hF p c t.k q))
theorem p64 (s:SnapV) (hF:FSnap s) (p:PodV) (c:ClaimV) (q:PodV) (hq:q.apart.length<4611686018427387904):PR3.v 64 [ygY s p c,podD q] (.bool (y2xY s c p q)):=pr3 E64 Tryz.func64 T64 (yogY _ s p c q (pr3 E109 Tryz.func109 T109 (ym0Y _ 115 (fun t=>decide (t.v=p.app)&&hereB s c t.k q) q.apart _ (y32Y s p c) _ (y33Y (y1iY [q])) (pr3 E168 Tryz.func168 T168 (ylqY _ 115 (fun t=>decide (t.v=p.app)&&hereB s c t.k q) q.apart hq _ (y32Y s p c) _ (y33Y (y1iY [q])) fun t _=>p115 q t s hF p c)))))
theorem yetY (g:Nat) (s:SnapV) (p:PodV) (c:ClaimV) (f:LabV->Bool) (l:List LabV) (hl:l.length<4611686018427387904) (h:∀ t∈l,PR3.v g [ygY s p c,labD t] (.bool (f t))):PR3.v 56 [.sl 2 false (l.map labD),.fn g [ygY s p c] []] (.bool (l.all f)):=by
 rw [List.all_eq_not_any_not]
 exact pr3 E56 Tryz.func56 T56 (yoiY _ _ (y4Y _) g s p c _ (pr3 E109 Tryz.func109 T109 (ylzY _ 110 (fun t=>!f t) l _ (y77Y g (y32Y s p c)) (pr3 E168 Tryz.func168 T168 (ylpY _ 110 (fun t=>!f t) l hl _ (y77Y g (y32Y s p c)) fun t ht=>pr3 E110 Tryz.func110 T110 (yohY _ t g s p c _ (h t ht)))))))
theorem yozY (g:Nat) (s:SnapV) (p:PodV) (c:ClaimV) (f:PodV->Bool) (l:List PodV) (hl:l.length<4611686018427387904) (h:∀ t∈l,PR3.v g [ygY s p c,podD t] (.bool (f t))):PR3.v 62 [.sl 12 false (l.map podD),.fn g [ygY s p c] []] (.bool (l.all f)):=by
 rw [List.all_eq_not_any_not]
 exact pr3 E62 Tryz.func62 T62 (yokY _ _ (y1iY _) g s p c _ (pr3 E112 Tryz.func112 T112 (ym1Y _ 114 (fun t=>!f t) l _ (y77Y g (y32Y s p c)) (pr3 E171 Tryz.func171 T171 (ylrY _ 114 (fun t=>!f t) l hl _ (y77Y g (y32Y s p c)) fun t ht=>pr3 E114 Tryz.func114 T114 (yojY _ t g s p c _ (h t ht)))))))
theorem y78Y {s:SnapV} {b:Str} {q:PodV} (h:q∈ysY s b):q∈s.pods/\q.on≠[]:=by
 unfold ysY at h
 rw [List.mem_filter] at h
 refine ⟨h.1,fun e=>?_⟩
 have:=h.2
 simp [e] at this
theorem p28 (s:SnapV) (hF:FSnap s) (p:PodV) (hp:FPod p) (claim:Str):PR3.v 28 [snapD s,podD p,mkS claim] (.tup [.bool (nearE s p claim).1,jI (nearE s p claim).2]) :=
 pr3 E28 Tryz.func28 T28 (yopY _ s p claim (p55 s hF p hp claim) fun h=>yetY 57 s p _ _ _ hp.near.lt fun t _=>p57 s hF (y68Y h) p _ t)
theorem p30 (s:SnapV) (hF:FSnap s) (p:PodV) (hp:FPod p) (claim:Str):PR3.v 30 [snapD s,podD p,mkS claim] (.tup [.bool (yfY s p claim).1,jI (yfY s p claim).2]) :=
 pr3 E30 Tryz.func30 T30 (yoqY _ s p claim (p55 s hF p hp claim) (fun h=>yetY 61 s p _ _ _ hp.apart.lt fun t _=>p61 s hF (y68Y h) p _ t) (fun h=>p63 s (y68Y h) p _)
  fun h=>yozY 64 s p _ _ _ (y67Y hF.pods.lt _) fun q hq=>p64 s hF p _ q (hF.pods.all q (y78Y hq).1).apart.lt)
theorem p85 (key:Str) (c:ClaimV):PR3.v 85 [mkS key,ybY c] (mkS (domOf key c)):=pr3 E85 Tryz.func85 T85 (yorY _ key c)
theorem p58 (s:SnapV) (hF:FSnap s) (p:PodV) (hp:FPod p) (claim:Str):PR3.v 58 [snapD s,podD p,mkS claim] (jI (yhY s p claim)):=pr3 E58 Tryz.func58 T58 (yosY _ s p claim (p33 s hF) (m48 p hp) (p76 s hF))
theorem p60 (s:SnapV) (hF:FSnap s) (key:Str) (q:PodV) (claim:Str):PR3.v 60 [snapD s,mkS key,podD q,mkS claim] (.bool (decide (domOf key ((ynY s q.on).getD zeroC)=domOf key ((ynY s claim).getD zeroC)))):=pr3 E60 Tryz.func60 T60 (yotY _ s key q claim (p76 s hF) (p85 key))
theorem p60h {s:SnapV} (hF:FSnap s) {p:PodV} {claim:Str} (h:yhY s p claim=0) {q:PodV} (hq:q∈ysY s p.name) {key:Str} (hk:key=zoneS∨key=hostS):PR3.v 60 [snapD s,mkS key,podD q,mkS claim] (.bool (hereB s ((ynY s claim).getD zeroC) key q)):=by
 have ok:=y65Y (begin_parts.1 h).1
 obtain ⟨h1,h2⟩:=y78Y hq
 rw [y9eY ok hk ((ok.pod q h1).2.1.resolve_left h2)]
 exact p60 s hF key q claim
theorem p29 (s:SnapV) (hF:FSnap s) (p:PodV) (hp:FPod p) (claim:Str):PR3.v 29 [snapD s,podD p,mkS claim] (.tup [.bool (nearE s p claim).1,jI (nearE s p claim).2]) :=
 pr3 E29 Tryz.func29 T29 (youY _ s p claim hp.near.lt (y67Y hF.pods.lt _) (p58 s hF p hp claim) (fun h=>p59 s (y68Y h) _) fun h t ht q hq=>p60h hF h hq ((y66Y (begin_parts.1 h).2.1).1 t ht))
theorem p31 (s:SnapV) (hF:FSnap s) (p:PodV) (hp:FPod p) (claim:Str):PR3.v 31 [snapD s,podD p,mkS claim] (.tup [.bool (yfY s p claim).1,jI (yfY s p claim).2]) :=
 pr3 E31 Tryz.func31 T31 (yoyY _ s p claim hp.apart.lt (y67Y hF.pods.lt _) (p58 s hF p hp claim) (fun h=>p59 s (y68Y h) _) (fun q hq=>(hF.pods.all q (y78Y hq).1).apart.lt) fun h q hq t ht=>p60h hF h hq (by
  have ok:=y65Y (begin_parts.1 h).1
  rcases ht with ht|ht
  ·exact (y66Y (begin_parts.1 h).2.1).2.1 t ht
  ·exact (y66Y (ok.pod q (y78Y hq).1).1).2.1 t ht))
end Go.Proofs.AM
