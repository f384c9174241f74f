/- Part 36 of the lemmas: AGTc. -/
import Derived.Test.YtnbdmjbpgaeacaaGreatDoorC30
import Derived.Test.YtnbdmjbpgaeacaaGreatDoorC32
import Derived.Test.YtnbdmjbpgaeacaaGreatDoorC31
import Derived.Test.YtnbdmjbpgaeacaaGreatDoorC34
import Derived.Test.YtnbdmjbpgaeacaaGreatDoorC35
import Derived.Test.YtnbdmjbpgaeacaaGreatDoorC06
set_option maxRecDepth 100000
set_option maxHeartbeats 8000000
set_option linter.all false
namespace Go.Proofs.AM
open Go Go.Lib Cd
theorem u127 (y:ClaimV) (n:Str):PR3.v 127 [y5Y y,.vptr (.agg [mkS n]) 0] (.bool (decide (y.name=n))):=pr3 E127 Tryz.func127 T127 (yqdY _ y n)
theorem u50 (l:List ClaimV) (hl:l.length<4611686018427387904) (n:Str):PR3.v 50 [.sl 15 false (l.map y5Y),.fn 127 [] [.vptr (.agg [mkS n]) 0]] (jI (idxI (fun y:ClaimV=>decide (y.name=n)) l)):=pr3 E50 Tryz.func50 T50 (yf9Y _ 127 (fun y=>decide (y.name=n)) l hl _ (y6fY n) fun y _=>u127 y n)
theorem u79 (s:SnapV) (hF:FSnap s) (n:Str):PR3.v 79 [snapD s,mkS n] (.tup [y5Y ((ygY s n).getD zeroC),.bool (ygY s n).isSome]):=pr3 E79 Tryz.func79 T79 (yqeY _ s n hF.claims.lt (u50 _ hF.claims.lt n))
theorem u83 (key:Str) (c:ClaimV):PR3.v 83 [mkS key,y5Y c] (keyD key (domOf key c)):=pr3 E83 Tryz.func83 T83 (yqfY _ key c)
theorem u128 (s:SnapV) (hF:FSnap s) (key app but:Str):PR3.v 128 [snapD s,mkS key,mkS app,mkS but] (.mapv ((cntL s key app but s.pods).map (entA (keyD key) iD))) :=
 ypnY (Gd.grows _) yegY E128 Tryz.func128 U128 rfl (yqgY _ s hF.pods.lt key app but (u79 s hF) (u83 key))
theorem yaxY {s:SnapV} (h:snapE s=0):s.claims.length<=1024:=by
 have hz:=(y5eY h).sizes
 unfold y4eY at hz
 simp only [Bool.and_eq_true,decide_eq_true_eq] at hz
 omega
theorem u80 (s:SnapV) (hF:FSnap s) (hl:s.claims.length<=1024) (key app but:Str) (c:ClaimV):PR3.v 80 [snapD s,mkS key,mkS app,mkS but,y5Y c] (.sl 3 false ((domsL s key app but c.name).map domD)):=pr3 E80 Tryz.func80 T80 (yqhY _ s hl key app but c (u128 s hF key app but) (u83 key) h129)
theorem u35 (s:SnapV) (hF:FSnap s) (key app but claim:Str):PR3.v 35 [snapD s,mkS key,mkS app,mkS but,mkS claim] (domsX (domsE s key app but claim)):=pr3 E35 Tryz.func35 T35 (yqnY _ s key app but claim (p45 s hF) (u79 s hF) fun h c _=>u80 s hF (yaxY h) key app but c)
theorem u37 (s:SnapV) (hF:FSnap s) (p:PodV) (hp:FPod p) (claim:Str):PR3.v 37 [snapD s,podD p,mkS claim] (sfitX (sfitE s p claim)):=pr3 E37 Tryz.func37 T37 (yqoY _ s p claim hp.spr.lt hF.pods.lt hF.claims.lt (p45 s hF) (m21 p hp) (u79 s hF) (fun h key app c=>u80 s hF (yaxY h) key app p.name c) u83)
theorem p85s (key:Str) (c:ClaimV):PR3.v 85 [mkS key,y5Y c] (mkS (domOf key c)):=pr3 E85s Tryz.func85 T85s (ypaY _ key c)
theorem u84 (s:SnapV) (hF:FSnap s) (h:snapE s=0) (key val app but:Str):PR3.v 84 [snapD s,mkS key,mkS val,mkS app,mkS but] (jI (y1cY s key app but val)):=pr3 E84 Tryz.func84 T84 (yqpY _ s hF.pods.lt (fun c hc=>yg9Y h hc) key val app but (p76 s hF) p85s)
theorem u81 (s:SnapV) (hF:FSnap s) (h:snapE s=0) (key app but claim:Str):PR3.v 81 [snapD s,mkS key,mkS app,mkS but,mkS claim] (.sl 3 false ((domsL s key app but claim).map domD)):=pr3 E81 Tryz.func81 T81 (yqqY _ s (yaxY h) key app but claim (fun v=>u84 s hF h key v app but) p85s)
theorem u36 (s:SnapV) (hF:FSnap s) (key app but claim:Str):PR3.v 36 [snapD s,mkS key,mkS app,mkS but,mkS claim] (domsX (domsE s key app but claim)):=pr3 E36 Tryz.func36 T36 (yqrY _ s key app but claim (p33 s hF) (p76 s hF) fun h c _=>u81 s hF h key app but c.name)
theorem u38 (s:SnapV) (hF:FSnap s) (p:PodV) (hp:FPod p) (claim:Str):PR3.v 38 [snapD s,podD p,mkS claim] (sfitX (sfitE s p claim)):=pr3 E38 Tryz.func38 T38 (yqsY _ s p claim hp.spr.lt hF.pods.lt hF.claims.lt (p33 s hF) (m48 p hp) (p76 s hF) (fun h key app=>u81 s hF h key app p.name claim) (fun h key v app=>u84 s hF h key v app p.name) p85s)
theorem fls0 {α:Type} {F:α->Prop}:FLs F ([]:List α):=⟨by simp,by simp⟩
theorem fls1 {α:Type} {F:α->Prop} {x:α} (h:F x):FLs F [x]:=⟨by simp,fun y hy=>by rw [List.mem_singleton.1 hy];exact h⟩
theorem fls2 {α:Type} {F:α->Prop} {x y:α} (h:F x) (k:F y):FLs F [x,y]:=⟨by simp,fun z hz=>by
 rcases List.mem_cons.1 hz with rfl|hz
 ·exact h
 ·rw [List.mem_singleton.1 hz];exact k⟩
theorem sm {s:Str} (h:s.length<=100):SL s:=ymsY (by omega)
theorem im {n:Int} (h:0<=n/\n<=1099511627776):FI n:=ymtY h
theorem f_off {z:Str} (hz:z.length<=100):FO ⟨tS,z,tOd⟩:=⟨(show SL tS from sm (by decide)),sm hz,(show SL tOd from sm (by decide))⟩
theorem f0:FI 0:=im (by decide)
theorem ygfY {n z:Str} (hn:n.length<=100) (hz:z.length<=100):FClaim (nodeV n z):=⟨sm hn,(show SL tP from sm (by decide)),(show FI 1 from im (by decide)),f_off hz,(show FI 100 from im (by decide)),(show FI 2000 from im (by decide)),(show FI 4096 from im (by decide)),fls1 (f_off hz),(show FI 1 from im (by decide)),sm hn,(show FI 3 from im (by decide)),f0⟩
theorem yayY {n a o:Str} (hn:n.length<=100) (ha:a.length<=100) (ho:o.length<=100):FPod (podX n a o):=⟨sm hn,sm ha,f0,f0,f0,fls0,fls0,fls0,fls0,fls0,f0,sm ho⟩
theorem f_ofg {z k:Str} {p:Int} {o:Bool} (hz:z.length<=100) (hk:k.length<=100) (hp:0<=p/\p<=1099511627776):FOfg ⟨z,k,p,o⟩:=⟨sm hz,sm hk,im hp⟩
theorem yrhY:FPool poolZ:=⟨sm (by decide),im (by decide),im (by decide),im (by decide),fls0,fls0,im (by decide),im (by decide),im (by decide),im (by decide)⟩
theorem yriY:FType typeZ:=⟨sm (by decide),im (by decide),im (by decide),im (by decide),im (by decide),fls0,fls2 (f_ofg (by decide) (by decide) (by decide)) (f_ofg (by decide) (by decide) (by decide))⟩
theorem y7yY:FSnap sprS:=⟨im (by decide),im (by decide),im (by decide),im (by decide),im (by decide),im (by decide),fls1 yriY,fls2 (yayY (by decide) (by decide) (by decide)) (yayY (by decide) (by decide) (by decide)),fls1 yrhY,fls2 (ygfY (by decide) (by decide)) (ygfY (by decide) (by decide)),fls0,fls0,fls0,fls0⟩
theorem y7zY {p:PodV} {l:List SprV} (hp:FPod p) (hl:FLs FSpr l):FPod { p with spr:=l }:=⟨hp.name,hp.app,hp.n0,hp.n1,hp.prio,hp.reqs,hp.tols,hl,hp.near,hp.apart,hp.since,hp.on⟩
theorem f_spr {k a:Str} {n:Int} (hk:SL k) (ha:SL a) (hn:FI n):FSpr ⟨k,a,n⟩:=⟨hk,ha,hn⟩
theorem yazY {n:Int} (hn:FI n):FPod (y2vY n):=y7zY (p:=podX tQ tX []) (yayY (by decide) (by decide) (by decide)) (fls1 (f_spr (sm (by decide)) (sm (by decide)) hn))
theorem u126 (n z:Str):PR3.v 126 [mkS n,mkS z] (y5Y (nodeV n z)):=pr3 E126 Tryz.func126 T126 (yqtY _ n z)
theorem u78:PR3.v 78 [] (snapD sprS):=pr3 E78 Tryz.func78 T78 (yquY _ u126)
theorem at37 {s:SnapV} (hF:FSnap s) {p:PodV} (hp:FPod p) {c:Str} {b:Bool} {e:Int} (h:sfitE s p c=(b,e)):PR3.v 37 [snapD s,podD p,mkS c] (.tup [.bool b,jI e]):=by
 have:=u37 s hF p hp c
 rw [h] at this
 exact this
theorem at35 {s:SnapV} (hF:FSnap s) {k a b c:Str} {l:List DomV} {e:Int} (h:domsE s k a b c=(l,e)):PR3.v 35 [snapD s,mkS k,mkS a,mkS b,mkS c] (.tup [.sl 3 false (l.map domD),jI e]):=by
 have:=u35 s hF k a b c
 rw [h] at this
 exact this
theorem u34:PR3.v 34 [] (.bool true):=by
 obtain ⟨h1,h2,h3,h4⟩:=yq1Y
 exact pr3 E34 Tryz.func34 T34 (yqvY _ u78 (at37 y7yY (yazY (im (by decide))) h1) (at37 y7yY (yazY (im (by decide))) h2) (at37 y7yY (yazY (im (by decide))) h3) (at35 y7yY h4))
theorem yrjY {s:SnapV} (hF:FSnap s) (key app but claim:Str):(domsE s key app but claim).1.length<4611686018427387904:=by
 have h1:=hF.claims.lt
 have h2:=y6kY s key app but claim
 unfold domsE
 split
 ·simp
 ·split
  ·split
   ·simp only;omega
   ·simp
  ·simp
theorem v12 (s:SnapV) (hF:FSnap s) (key app but claim:Str):PR3.v 12 [snapD s,mkS key,mkS app,mkS but,mkS claim] (.bool true):=pr3 E12 Tryz.func12 T12 (yqwY _ s key app but claim (yrjY hF _ _ _ _) u34 (u35 s hF key app but claim) (u36 s hF key app but claim))
theorem v13 (s:SnapV) (hF:FSnap s) (p:PodV) (hp:FPod p) (claim:Str):PR3.v 13 [snapD s,podD p,mkS claim] (.bool true):=pr3 E13 Tryz.func13 T13 (yqxY _ s p claim u34 (u37 s hF p hp claim) (u38 s hF p hp claim))
theorem yrkY {n:Int} (h:FI n):FI (min 16 (n+1)):=by unfold FI at *;omega
theorem yrlY {p:PodV} (hp:FPod p):FPod (moreS p):=y7zY hp ⟨by simpa using hp.spr.len,fun x hx=>by
 obtain ⟨y,hy,rfl⟩:=List.mem_map.1 hx
 obtain ⟨a,b,c⟩:=hp.spr.all y hy
 exact ⟨a,b,yrkY c⟩⟩
theorem v14 (s:SnapV) (hF:FSnap s) (p:PodV) (hp:FPod p) (claim:Str):PR3.v 14 [snapD s,podD p,mkS claim] (.bool true):=pr3 E14 Tryz.func14 T14 (yqyY _ s p claim u34 (u37 s hF p hp claim) (u37 s hF _ (yrlY hp) claim) (u37 s hF _ (y7zY hp fls0) claim))
theorem v15 (s:SnapV) (hF:FSnap s) (p:PodV) (hp:FPod p) (key:Str) (hk:SL key):PR3.v 15 [snapD s,podD p,mkS key] (.bool true):=pr3 E15 Tryz.func15 T15 (yrbY _ s p key hF.claims.lt u34 (fun n=>u35 s hF key p.app p.name n) (fun n=>u37 s hF _ (y7zY hp (fls1 (f_spr hk hp.app (im (by decide))))) n))
theorem v16 (s:SnapV) (hF:FSnap s) (app:Str):PR3.v 16 [snapD s,mkS app] (.bool true):=pr3 E16 Tryz.func16 T16 (yrcY _ s app hF.claims.lt hF.pods.lt u34 (p33 s hF) (fun key n=>u35 s hF key app [] n))
end Go.Proofs.AM
