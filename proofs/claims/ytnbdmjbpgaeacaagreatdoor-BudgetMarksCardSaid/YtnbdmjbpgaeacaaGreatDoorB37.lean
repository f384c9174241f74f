/- Part 37 of the lemmas: AGSc. -/
import Derived.Test.YtnbdmjbpgaeacaaGreatDoorB31
import Derived.Test.YtnbdmjbpgaeacaaGreatDoorB32
import Derived.Test.YtnbdmjbpgaeacaaGreatDoorB34
import Derived.Test.YtnbdmjbpgaeacaaGreatDoorB35
import Derived.Test.YtnbdmjbpgaeacaaGreatDoorB36
import Derived.Test.YtnbdmjbpgaeacaaGreatDoorB06
set_option maxRecDepth 100000
set_option maxHeartbeats 8000000
set_option linter.all false
namespace Go.Proofs.AM
open Go Go.Lib Cd
theorem fls0 {α:Type} {F:α->Prop}:FLs F ([]:List α):=⟨by simp,by simp⟩
theorem fls1 {α:Type} {F:α->Prop} {x:α} (h:F x):FLs F [x]:=⟨by simp,fun y hy=>by rw [List.mem_singleton.1 hy];exact h⟩
theorem fls2 {α:Type} {F:α->Prop} {x y:α} (h:F x) (k:F y):FLs F [x,y]:=⟨by simp,fun z hz=>by
 rcases List.mem_cons.1 hz with rfl|hz
 ·exact h
 ·rw [List.mem_singleton.1 hz];exact k⟩
theorem sm {s:Str} (h:s.length<=100):SL s:=ylgY (by omega)
theorem im {n:Int} (h:0<=n/\n<=1099511627776):FI n:=ylhY h
theorem f_off {z:Str} (hz:z.length<=100):FO ⟨tS,z,tOd⟩:=⟨(show SL tS from sm (by decide)),sm hz,(show SL tOd from sm (by decide))⟩
theorem f0:FI 0:=im (by decide)
theorem yeoY {n z:Str} (hn:n.length<=100) (hz:z.length<=100):FClaim (nodeV n z):=⟨sm hn,(show SL tP from sm (by decide)),(show FI 1 from im (by decide)),f_off hz,(show FI 100 from im (by decide)),(show FI 2000 from im (by decide)),(show FI 4096 from im (by decide)),fls1 (f_off hz),(show FI 1 from im (by decide)),sm hn,(show FI 3 from im (by decide)),f0⟩
theorem f_ofg {z k:Str} {p:Int} {o:Bool} (hz:z.length<=100) (hk:k.length<=100) (hp:0<=p/\p<=1099511627776):FOfg ⟨z,k,p,o⟩:=⟨sm hz,sm hk,im hp⟩
theorem ypcY:FType typeL:=⟨sm (by decide),im (by decide),im (by decide),im (by decide),im (by decide),fls0,fls1 (f_ofg (by decide) (by decide) (by decide))⟩
theorem ypdY:FType typeT:=⟨sm (by decide),im (by decide),im (by decide),im (by decide),im (by decide),fls0,fls2 (f_ofg (by decide) (by decide) (by decide)) (f_ofg (by decide) (by decide) (by decide))⟩
theorem ypeY:FPool (poolN 1):=⟨sm (by decide),im (by decide),im (by decide),im (by decide),fls0,fls0,im (by decide),im (by decide),im (by decide),im (by decide)⟩
theorem yepY {c:ClaimV} {m:Bool} (h:FClaim c):FClaim { c with marked:=m }:=⟨h.name,h.pool,h.gen,h.off,h.price,h.c0,h.c1,h.opts,h.tries,h.id,h.phase,h.born⟩
theorem f_bud (m:Bool):FSnap (budS 1 m):=⟨(show FI 9 from im (by decide)),(show FI 5 from im (by decide)),(show FI 20 from im (by decide)),(show FI 10 from im (by decide)),(show FI 60 from im (by decide)),(show FI 30 from im (by decide)),fls2 ypcY ypdY,fls0,fls1 ypeY,fls2 (yeoY (by decide) (by decide)) (yepY (yeoY (by decide) (by decide))),fls0,fls0,fls0,fls0⟩
theorem r47 (y:PoolV) (n:Str):PR3.v 47 [poolD y,.vptr (.agg [mkS n]) 0] (.bool (decide (y.name=n))):=pr3 E47 Tryz.func47 T47 (yotY _ y n)
theorem r51 (y:ClaimV) (n:Str):PR3.v 51 [yaY y,.vptr (.agg [mkS n]) 0] (.bool (decide (y.name=n))):=pr3 E51 Tryz.func51 T51 (youY _ y n)
theorem r44 (n:Str):PR3.v 44 [mkS n] (yaY (nodeV n tA)):=pr3 E44 Tryz.func44 T44 (yovY _ n)
theorem r26 (l:List Str) (hl:l.length<4611686018427387904) (x:Str):PR3.v 26 [.sl 1 false (l.map mkS),mkS x] (.bool (decide (x∈l))):=pr3 E26 Tryz.func26 T26 (yowY _ l hl x)
theorem r53 (s:SnapV) (hF:FSnap s) (l:List Str) (hl:l.length<4611686018427387904):PR3.v 53 [snapD s,.sl 1 false (l.map mkS)] (jI (y1dY s l)):=pr3 E53 Tryz.func53 T53 (yoxY _ s l hl (p76 s hF))
theorem r46 (s:SnapV) (hF:FSnap s) (n:Str):PR3.v 46 [.sl 10 false (s.pools.map poolD),.fn 47 [] [.vptr (.agg [mkS n]) 0]] (.bool (yzY s n)):=pr3 E46 Tryz.func46 T46 (ye3Y _ 47 _ s.pools _ (y43Y n) (pr3 E105 Tryz.func105 T105 (ye1Y _ 47 (fun y=>decide (y.name=n)) s.pools hF.pools.lt _ (y43Y n) fun y _=>r47 y n)))
theorem r48 (s:SnapV) (hF:FSnap s) (l:List Str) (hl:l.length<4611686018427387904):PR3.v 48 [snapD s,.sl 1 false (l.map mkS)] (.mapv ((goM s l).map (entA mkS iD))):=pr3 E48 Tryz.func48 T48 (yozY _ s hF.claims.lt l fun x=>k55 l hl x)
theorem r22 (s:SnapV) (hF:FSnap s) (n:Str):PR3.v 22 [snapD s,mkS n] (.tup [jI (yiY s n).1,jI (yiY s n).2]):=pr3 E22 Tryz.func22 T22 (yp0Y _ s n (p45 s hF) (r46 s hF n) (r48 s hF [] (by decide)))
theorem r23 (s:SnapV) (hF:FSnap s) (n:Str):PR3.v 23 [snapD s,mkS n] (.tup [jI (yiY s n).1,jI (yiY s n).2]):=pr3 E23 Tryz.func23 T23 (yoyY _ s hF.claims.lt n (p33 s hF) (p49 s hF n))
theorem r50 (l:List ClaimV) (hl:l.length<4611686018427387904) (n:Str):PR3.v 50 [.sl 15 false (l.map yaY),.fn 51 [] [.vptr (.agg [mkS n]) 0]] (jI (idxI (fun y:ClaimV=>decide (y.name=n)) l)):=pr3 E50 Tryz.func50 T50 (ye2Y _ 51 (fun y=>decide (y.name=n)) l hl _ (y43Y n) fun y _=>r51 y n)
theorem r24 (s:SnapV) (hF:FSnap s) (l:List Str) (hl:l.length<4611686018427387904):PR3.v 24 [snapD s,.sl 1 false (l.map mkS)] (.tup [.bool (mayE s l).1,jI (mayE s l).2]):=pr3 E24 Tryz.func24 T24 (yp1Y _ s hF l hl (p45 s hF) (r50 _ hF.claims.lt) (fun l x h=>k55 l h x) (r48 s hF l hl))
theorem r25 (s:SnapV) (hF:FSnap s) (l:List Str) (hl:l.length<4611686018427387904):PR3.v 25 [snapD s,.sl 1 false (l.map mkS)] (.tup [.bool (mayE s l).1,jI (mayE s l).2]):=pr3 E25 Tryz.func25 T25 (yp2Y _ s hF l (p33 s hF) (r53 s hF l hl) (r26 l hl))
theorem at24 (m:Bool) {l:List Str} (hl:l.length<4611686018427387904) {b:Bool} {e:Int} (h:mayE (budS 1 m) l=(b,e)):PR3.v 24 [snapD (budS 1 m),.sl 1 false (l.map mkS)] (.tup [.bool b,jI e]):=by
 have:=r24 (budS 1 m) (f_bud m) l hl
 rw [h] at this
 exact this
theorem at22 {b e:Int} (h:yiY (budS 1 true) tP=(b,e)):PR3.v 22 [snapD (budS 1 true),mkS tP] (.tup [jI b,jI e]):=by
 have:=r22 (budS 1 true) (f_bud true) tP
 rw [h] at this
 exact this
theorem n43:([]:List D).length=c43.params/\c43.params<=c43.ntmps:=⟨rfl,Nat.zero_le _⟩
theorem r43:SCall PR3 200 43 [] [] Q43:=SCall.of (af:=c43) (base:=200) (args:=[]) (gv:=[]) (Q:=Q43) (Gd.grows _) yd5Y E43 Tryz.func43 T43 n43 (yp3Y PR3)
theorem r21:PR3.v 21 [] (.bool true):=by
 obtain ⟨h1,h2,h3,h4,h5⟩:=yojY
 exact pr3 E21 Tryz.func21 T21 (yp4Y _ r43 r44 (at24 false (by decide) h1) (at24 false (by decide) h2) (at24 true (by decide) h3) (at24 true (by decide) h4) (at22 h5))
theorem r3 (s:SnapV) (hs:FSnap s) (n:Str) (l:List Str) (hl:FL l):PR3.v 3 [snapD s,mkS n,.sl 1 false (l.map mkS)] (.bool true):=pr3 E3 Tryz.func3 T3 (yp5Y _ s n l r21 (r22 s hs n) (r23 s hs n) (r24 s hs l (fl_lt hl)) (r25 s hs l (fl_lt hl)))
theorem r4 (s:SnapV) (hs:FSnap s) (l:List Str) (hl:FL l):PR3.v 4 [snapD s,.sl 1 false (l.map mkS)] (.bool true):=pr3 E4 Tryz.func4 T4 (yp7Y _ s l hl.len r21 fun m h=>r24 s hs m (by have:=hl.len;omega))
theorem r6 (s:SnapV) (hs:FSnap s):PR3.v 6 [snapD s] (.bool true):=by
 have h:=r24 s hs [] (by decide)
 rw [yenY] at h
 exact pr3 E6 Tryz.func6 T6 (yp6Y _ s hs r21 (r22 s hs) h)
theorem ypfY {s:SnapV} (hs:FSnap s) (l:List Str):FSnap (markS l s):=⟨hs.now,hs.idle,hs.most,hs.hold,hs.late,hs.cool,hs.types,hs.pods,hs.pools,⟨by rw [show (markS l s).claims=s.claims.map (markC l) from rfl,List.length_map];exact hs.claims.len,fun c hc=>by
 obtain ⟨c0,h0,rfl⟩:=List.mem_map.1 (show c∈s.claims.map (markC l) from hc)
 unfold markC
 split
 ·exact yepY (hs.claims.all c0 h0)
 ·exact hs.claims.all c0 h0⟩,hs.cmds,hs.cools,hs.insts,hs.notes⟩
theorem r5 (s:SnapV) (hs:FSnap s) (l:List Str) (hl:FL l):PR3.v 5 [snapD s,.sl 1 false (l.map mkS)] (.bool true):=pr3 E5 Tryz.func5 T5 (ypbY _ s hs l r21 (r24 s hs l (fl_lt hl)) (r26 l (fl_lt hl)) (r22 _ (ypfY hs l)))
end Go.Proofs.AM
