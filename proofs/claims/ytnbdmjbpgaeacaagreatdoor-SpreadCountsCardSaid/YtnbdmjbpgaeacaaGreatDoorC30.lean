/- Part 30 of the lemmas: AGPc. -/
import Derived.Test.YtnbdmjbpgaeacaaGreatDoorC16
import Derived.Test.YtnbdmjbpgaeacaaGreatDoorC22
import Derived.Test.YtnbdmjbpgaeacaaGreatDoorC29
import Derived.Test.YtnbdmjbpgaeacaaGreatDoorC06
set_option maxRecDepth 100000
set_option maxHeartbeats 8000000
set_option linter.all false
namespace Go.Proofs.AM
open Go Go.Lib Cd
theorem y7tY {α:Type} {f:α->D} {x:α} (h:CleanL ([x].map f)):Clean (f x):=⟨by have:=h.c;simpa [closedL] using this,by have:=h.s;simpa [stripL] using this⟩
theorem yfpY (s:SnapV):Clean (snapD s):=by
 have h1:CleanL (snapC s):=y9Y (yrY _) (y9Y (yrY _) (y9Y (yrY _) (y9Y (yrY _) (y9Y (yrY _) (y9Y (yrY _) (y9Y (y17Y (y2gY _)) (y9Y (y17Y (yf1Y _)) (y9Y (y17Y (ya6Y _)) (y9Y (y17Y (ya7Y _)) (y9Y (y17Y (yf2Y _)) (y9Y (y17Y (yf3Y _)) (y9Y (y17Y (ya8Y _)) (y9Y (y17Y (y69Y _)) y3nY)))))))))))))
 exact ⟨by simp [snapD,closed,h1.c],by simp [snapD,strip,h1.s]⟩
theorem p151 (a0 a1 b0 b1:Int):PR3.v 151 [amD a0 a1,amD b0 b1] (jI (bothE a0 a1 b0 b1)):=pr3 E151 Tryz.func151 T151 (ynlY _ _ _ _ _ m111)
theorem p229 (a0 a1 b0 b1:Int):PR3.v 229 [amD a0 a1,amD b0 b1] (jI (bothE a0 a1 b0 b1)):=pr3 E229 Tryz.func229 T229 (ynkY _ _ _ _ _ m56)
theorem p230 (a0 a1 b0 b1:Int):PR3.v 230 [amD a0 a1,amD b0 b1] (amD (min a0 b0) (min a1 b1)):=pr3 E230 Tryz.func230 T230 (ynmY _ _ _ _ _)
theorem p203 (a0 a1 b0 b1 x y e:Int) (hs:subE a0 a1 b0 b1=(x,y,e)):PR3.v 203 [amD a0 a1,amD b0 b1] (.tup [amD x y,jI e]):=pr3 E203 Tryz.func203 T203 (ynnY _ _ _ _ _ _ _ _ hs (p229 _ _ _ _) (p230 _ _ _ _))
theorem p191 (a0 a1 b0 b1:Int):PR3.v 191 [amD a0 a1,amD b0 b1] (.bool (fitsB a0 a1 b0 b1)):=pr3 E191 Tryz.func191 T191 (ynoY _ _ _ _ _ (p229 _ _ _ _) (p230 _ _ _ _))
theorem p91 (a0 a1 b0 b1:Int):PR3.v 91 [amD a0 a1,amD b0 b1] (.bool (fitsB a0 a1 b0 b1)):=pr3 E91 Tryz.func91 T91 (ynpY _ _ _ _ _ (p151 _ _ _ _))
theorem p178 (a0 a1 b0 b1 x y e:Int) (hs:subE a0 a1 b0 b1=(x,y,e)):PR3.v 178 [amD a0 a1,amD b0 b1] (.tup [amD x y,jI e]):=pr3 E178 Tryz.func178 T178 (ynqY _ _ _ _ _ _ _ _ hs (p151 _ _ _ _))
theorem p241 (y x:LabV):PR3.v 241 [labD y,.vptr (labD x) 0] (.bool (decide (y.k=x.k))):=pr3 E241 Tryz.func241 T241 (ynuY _ y x)
theorem p243 (y x:OfgV):PR3.v 243 [ofgD y,.vptr (ofgD x) 0] (.bool (decide (y.z=x.z)&&decide (y.k=x.k))):=pr3 E243 Tryz.func243 T243 (ynvY _ y x)
theorem p159 (y x:TypeV):PR3.v 159 [typeD y,.vptr (typeD x) 0] (.bool (decide (y.name=x.name))):=pr3 E159 Tryz.func159 T159 (ynwY _ y x)
theorem p235 (l:List LabV) (hl:l.length<4611686018427387904) (x:LabV):PR3.v 235 [.sl 2 false (l.map labD),.fn 241 [] [.vptr (labD x) 0]] (jI (idxI (fun y=>decide (y.k=x.k)) l)):=pr3 E235 Tryz.func235 T235 (yf7Y _ 241 _ l hl x fun y _=>p241 y x)
theorem p195 (l:List LabV) (x:LabV) (hl:l.length<4611686018427387904):PR3.v 195 [.sl 2 false (l.map labD),.fn 241 [] [.vptr (labD x) 0]] (.bool (l.any fun y=>decide (y.k=x.k))):=pr3 E195 Tryz.func195 T195 (yf8Y _ 241 _ l x (p235 l hl x))
theorem p262 (l:List OfgV) (x:OfgV) (hl:l.length<4611686018427387904):PR3.v 262 [.sl 4 false (l.map ofgD),.fn 243 [] [.vptr (ofgD x) 0]] (jI (idxI (fun y=>decide (y.z=x.z)&&decide (y.k=x.k)) l)):=pr3 E262 Tryz.func262 T262 (ymuY _ 243 _ l hl _ (y7tY (y1kY [x])) fun y _=>p243 y x)
theorem p242 (l:List OfgV) (x:OfgV) (hl:l.length<4611686018427387904):PR3.v 242 [.sl 4 false (l.map ofgD),.fn 243 [] [.vptr (ofgD x) 0]] (.bool (l.any fun y=>decide (y.z=x.z)&&decide (y.k=x.k))):=pr3 E242 Tryz.func242 T242 (ymyY _ 243 _ l _ (y7tY (y1kY [x])) (p262 l x hl))
theorem p200 (l:List TypeV) (x:TypeV) (hl:l.length<4611686018427387904):PR3.v 200 [.sl 7 false (l.map typeD),.fn 159 [] [.vptr (typeD x) 0]] (jI (idxI (fun y=>decide (y.name=x.name)) l)):=pr3 E200 Tryz.func200 T200 (ymvY _ 159 _ l hl _ (y7tY (y2gY [x])) fun y _=>p159 y x)
theorem p158 (l:List TypeV) (x:TypeV) (hl:l.length<4611686018427387904):PR3.v 158 [.sl 7 false (l.map typeD),.fn 159 [] [.vptr (typeD x) 0]] (.bool (l.any fun y=>decide (y.name=x.name))):=pr3 E158 Tryz.func158 T158 (ymzY _ 159 _ l _ (y7tY (y2gY [x])) (p200 l x hl))
theorem p198 (l:List LabV) (hf:FLs FLab l):PR3.v 198 [.sl 2 false (l.map labD)] (jI (y22Y l)):=pr3 E198 Tryz.func198 T198 (ynrY _ l hf k18 k19 (fun x=>k55 fiveL (by decide) x) p195)
theorem p199 (l:List OfgV) (hf:FLs FOfg l):PR3.v 199 [.sl 4 false (l.map ofgD)] (jI (ofgsE l)):=pr3 E199 Tryz.func199 T199 (ynsY _ l hf k18 m62 p242)
theorem p157 (t:TypeV) (ht:FType t):PR3.v 157 [typeD t] (jI (typE t)):=pr3 E157 Tryz.func157 T157 (yo1Y _ t ht k18 m56 p191 p198 p199)
theorem p98 (l:List TypeV) (hf:FLs FType l):PR3.v 98 [.sl 7 false (l.map typeD)] (jI (catE l)):=pr3 E98 Tryz.func98 T98 (yntY _ l hf p157 p158)
theorem p193 (l:List TypeV) (hf:FLs FType l):PR3.v 193 [.sl 7 false (l.map typeD)] (.mapv (mapE (allM l))):=pr3 E193 Tryz.func193 T193 (yo9Y _ l hf (p98 l hf))
theorem p162 (l:List TypeV) (hf:FLs FType l) (o:OffV):PR3.v 162 [.sl 7 false (l.map typeD),offD o] (.tup [amD (hasO l o).1 (hasO l o).2,.bool (isO l o)]):=pr3 E162 Tryz.func162 T162 (yobY _ l o (p193 l hf) p203)
theorem p213 (x:Str):PR3.v 213 [mkS x] (.bool (decide (x∈fiveL))):=pr3 E213 Tryz.func213 T213 (yo0Y _ x)
theorem p174 (l:List LabV) (hf:FLs FLab l):PR3.v 174 [.sl 2 false (l.map labD)] (jI (y22Y l)):=pr3 E174 Tryz.func174 T174 (ynxY _ l hf k16 k17 p213)
theorem p175 (l:List OfgV) (hf:FLs FOfg l):PR3.v 175 [.sl 4 false (l.map ofgD)] (jI (ofgsE l)):=pr3 E175 Tryz.func175 T175 (ynyY _ l hf k16 m117)
theorem p119 (t:TypeV) (ht:FType t):PR3.v 119 [typeD t] (jI (typE t)):=pr3 E119 Tryz.func119 T119 (yo2Y _ t ht k16 m111 p91 p174 p175)
theorem p73 (l:List TypeV) (hf:FLs FType l):PR3.v 73 [.sl 7 false (l.map typeD)] (jI (catE l)):=pr3 E73 Tryz.func73 T73 (ynzY _ l hf p119)
theorem p152 (l:List TypeV) (hf:FLs FType l) (o:OffV):PR3.v 152 [.sl 7 false (l.map typeD),offD o] (.tup [typeD (findR l o).1,ofgD (findR l o).2,.bool (isO l o)]):=pr3 E152 Tryz.func152 T152 (yodY _ l hf o (p73 l hf))
theorem p123 (l:List TypeV) (hf:FLs FType l) (o:OffV):PR3.v 123 [.sl 7 false (l.map typeD),offD o] (.tup [amD (hasO l o).1 (hasO l o).2,.bool (isO l o)]):=pr3 E123 Tryz.func123 T123 (yoeY _ l o (p152 l hf o) p178)
theorem p96 (n:Int):PR3.v 96 [jI n] (.bool (timeB n)):=pr3 E96 Tryz.func96 T96 (yofY _ n)
theorem p97 (n:Int):PR3.v 97 [jI n] (.bool (spanB n)):=pr3 E97 Tryz.func97 T97 (yogY _ n)
theorem p71 (n:Int):PR3.v 71 [jI n] (.bool (timeB n)):=pr3 E71 Tryz.func71 T71 (yohY _ n)
theorem p72 (n:Int):PR3.v 72 [jI n] (.bool (spanB n)):=pr3 E72 Tryz.func72 T72 (yoiY _ n)
theorem p204 (y:PoolV) (n:Str):PR3.v 204 [poolD y,.vptr (.agg [mkS n]) 0] (.bool (decide (y.name=n))):=pr3 E204 Tryz.func204 T204 (yojY _ y n)
theorem p207 (y:ClaimV) (n:Str):PR3.v 207 [y5Y y,.vptr (.agg [mkS n]) 0] (.bool (decide (y.name=n))):=pr3 E207 Tryz.func207 T207 (yokY _ y n)
theorem p206 (s:SnapV) (hF:FSnap s) (o:OffV):PR3.v 206 [offD o,.vptr (snapD s) 0] (.bool (!isO s.types o)):=pr3 E206 Tryz.func206 T206 (yolY _ s o fun o=>p162 _ hF.types o)
theorem p246 (s:SnapV) (hF:FSnap s) (os:List OffV) (hl:os.length<4611686018427387904):PR3.v 246 [.sl 3 false (os.map offD),.fn 206 [] [.vptr (snapD s) 0]] (jI (idxI (fun o=>!isO s.types o) os)):=pr3 E246 Tryz.func246 T246 (ymwY _ 206 (fun o=>!isO s.types o) os hl _ (yfpY s) fun y _=>p206 s hF y)
theorem p205 (s:SnapV) (hF:FSnap s) (os:List OffV) (hl:os.length<4611686018427387904):PR3.v 205 [.sl 3 false (os.map offD),.fn 206 [] [.vptr (snapD s) 0]] (.bool (os.any fun o=>!isO s.types o)):=pr3 E205 Tryz.func205 T205 (yn0Y _ 206 _ os _ (yfpY s) (p246 s hF os hl))
theorem p164 (s:SnapV) (hF:FSnap s) (os:List OffV) (hl:os.length<4611686018427387904):PR3.v 164 [snapD s,.sl 3 false (os.map offD)] (.bool (yqY s.types os)):=pr3 E164 Tryz.func164 T164 (yomY _ s os (p205 s hF os hl))
theorem y6fY (n:Str):Clean (.agg [mkS n]):=⟨rfl,rfl⟩
theorem p105 (l:List PoolV) (hl:l.length<4611686018427387904) (n:Str):PR3.v 105 [.sl 10 false (l.map poolD),.fn 204 [] [.vptr (.agg [mkS n]) 0]] (jI (idxI (fun y=>decide (y.name=n)) l)):=pr3 E105 Tryz.func105 T105 (ymxY _ 204 (fun y=>decide (y.name=n)) l hl _ (y6fY n) fun y _=>p204 y n)
theorem p46 (l:List PoolV) (hl:l.length<4611686018427387904) (n:Str):PR3.v 46 [.sl 10 false (l.map poolD),.fn 204 [] [.vptr (.agg [mkS n]) 0]] (.bool (l.any fun y=>decide (y.name=n))):=pr3 E46 Tryz.func46 T46 (yn1Y _ 204 _ l _ (y6fY n) (p105 l hl n))
theorem p163 (s:SnapV) (hF:FSnap s) (n:Str):PR3.v 163 [snapD s,mkS n] (.bool (y1nY s n)):=pr3 E163 Tryz.func163 T163 (yonY _ s n (p46 _ hF.pools.lt n))
theorem p50 (l:List ClaimV) (hl:l.length<4611686018427387904) (n:Str):PR3.v 50 [.sl 15 false (l.map y5Y),.fn 207 [] [.vptr (.agg [mkS n]) 0]] (jI (idxI (fun y=>decide (y.name=n)) l)):=pr3 E50 Tryz.func50 T50 (yf9Y _ 207 (fun y=>decide (y.name=n)) l hl _ (y6fY n) fun y _=>p207 y n)
theorem p169 (l:List ClaimV) (hl:l.length<4611686018427387904) (n:Str):PR3.v 169 [.sl 15 false (l.map y5Y),.fn 207 [] [.vptr (.agg [mkS n]) 0]] (.bool (l.any fun y=>decide (y.name=n))):=pr3 E169 Tryz.func169 T169 (yn2Y _ 207 _ l _ (y6fY n) (p50 l hl n))
theorem p165 (s:SnapV) (hF:FSnap s) (n:Str):PR3.v 165 [snapD s,mkS n] (.bool (y1aY s n)):=pr3 E165 Tryz.func165 T165 (yooY _ s n (p169 _ hF.claims.lt n))
theorem p99 (s:SnapV) (hF:FSnap s):PR3.v 99 [snapD s] (jI (y2eY s)):=pr3 E99 Tryz.func99 T99 (yotY _ s hF m22)
theorem p102 (s:SnapV) (hF:FSnap s):PR3.v 102 [snapD s] (jI (cmdsE s)):=pr3 E102 Tryz.func102 T102 (youY _ s hF m24 (p163 s hF) (p164 s hF))
theorem p101 (s:SnapV) (hF:FSnap s):PR3.v 101 [snapD s] (jI (podsE s)):=pr3 E101 Tryz.func101 T101 (yovY _ s hF m21 (p165 s hF))
theorem p100 (s:SnapV) (hF:FSnap s):PR3.v 100 [snapD s] (jI (y1oY s)):=pr3 E100 Tryz.func100 T100 (yowY _ s hF m23 (p162 _ hF.types) (p163 s hF) (p164 s hF))
theorem p167 (x y:OffV):PR3.v 167 [offD x,offD y] (jI (cmpO x y)):=pr3 E167 Tryz.func167 T167 (yoxY _ x y cmp88 m200)
theorem p103 (s:SnapV) (hF:FSnap s):PR3.v 103 [snapD s] (jI (y23Y s)):=pr3 E103 Tryz.func103 T103 (yoyY _ s hF (p164 s hF) p96 p167)
theorem p104 (s:SnapV) (hF:FSnap s):PR3.v 104 [snapD s] (jI (y24Y s)):=pr3 E104 Tryz.func104 T104 (yp0Y _ s hF (p164 s hF) p96)
theorem p45 (s:SnapV) (hF:FSnap s):PR3.v 45 [snapD s] (jI (snapE s)):=pr3 E45 Tryz.func45 T45 (yp2Y _ s hF p96 p97 (p98 _ hF.types) (p99 s hF) (p100 s hF) (p101 s hF) (p102 s hF) (p103 s hF) (p104 s hF))
theorem p49 (s:SnapV) (hF:FSnap s) (n:Str):PR3.v 49 [snapD s,mkS n] (.tup [poolD ((s.pools.find? fun x=>decide (x.name=n)).getD y3pY),.bool (s.pools.find? fun x=>decide (x.name=n)).isSome]):=pr3 E49 Tryz.func49 T49 (yp3Y _ s hF n)
theorem p76 (s:SnapV) (hF:FSnap s) (n:Str):PR3.v 76 [snapD s,mkS n] (.tup [y5Y ((s.claims.find? fun x=>decide (x.name=n)).getD zeroC),.bool (s.claims.find? fun x=>decide (x.name=n)).isSome]):=pr3 E76 Tryz.func76 T76 (yp4Y _ s hF n)
theorem p122 (l:List TypeV) (hf:FLs FType l) (os:List OffV) (hl:os.length<4611686018427387904):PR3.v 122 [.sl 7 false (l.map typeD),.sl 3 false (os.map offD)] (.bool (yqY l os)):=pr3 E122 Tryz.func122 T122 (yopY _ l os hl (p123 l hf))
theorem p125 (x y:OffV):PR3.v 125 [offD x,offD y] (.bool (ltO x y)):=pr3 E125 Tryz.func125 T125 (yp5Y _ x y)
theorem p75 (s:SnapV) (hF:FSnap s):PR3.v 75 [snapD s] (jI (y1oY s)):=pr3 E75 Tryz.func75 T75 (yp6Y _ s hF m50 (p123 _ hF.types) (p49 s hF) (p122 _ hF.types))
theorem p77 (s:SnapV) (hF:FSnap s):PR3.v 77 [snapD s] (jI (y3Y [cmdsE s,y23Y s,y24Y s])):=pr3 E77 Tryz.func77 T77 (yp7Y _ s hF m51 (p49 s hF) (p122 _ hF.types) p71 p125)
theorem p33 (s:SnapV) (hF:FSnap s):PR3.v 33 [snapD s] (jI (snapE s)):=pr3 E33 Tryz.func33 T33 (yp9Y _ s hF p71 p72 (p73 _ hF.types) m49 (p75 s hF) m48 (p76 s hF) (p77 s hF))
end Go.Proofs.AM
