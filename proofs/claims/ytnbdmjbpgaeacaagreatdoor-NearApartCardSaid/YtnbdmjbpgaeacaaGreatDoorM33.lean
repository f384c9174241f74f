/- Part 33 of the lemmas: AKv, AKw, AKx, AKy, AKz, AGRc. -/
import Derived.Test.YtnbdmjbpgaeacaaGreatDoorM31
import Derived.Test.YtnbdmjbpgaeacaaGreatDoorM30
import Derived.Test.YtnbdmjbpgaeacaaGreatDoorM32
import Derived.Test.YtnbdmjbpgaeacaaGreatDoorM06
set_option maxRecDepth 100000
set_option maxHeartbeats 8000000
set_option linter.all false
namespace Go.Proofs.AM
open Go Go.Lib Cd
theorem ypgY (R:Ans) (n z:Str):AnsF R c107 [mkS n,mkS z] (ybY (nodeV n z)):=by
 obtain ⟨r,hr⟩:∃ r,r=ybY (nodeV n z):=⟨_,rfl⟩
 rw [←hr]
 conv at hr=>rhs;cbv
 refine y0Y ⟨rfl,by decide⟩ fun O hO V hV=>?_
 subst hV
 conv=>cbv
 repeat' (first|(refine And.intro (by first|assumption|exact ⟨by omega⟩|exact ⟨rfl⟩|exact ⟨rfl,rfl⟩) ?_)|(intro (g:Nat);(conv=>cbv)))
 exact hr.symm
theorem yphY (R:Ans) (h107:∀ n z,R.v 107 [mkS n,mkS z] (ybY (nodeV n z))):AnsF R c54 [] (snapD nearS):=by
 have k1:=h107 tC1 tA
 have k2:=h107 tC2 tA
 have k3:=h107 tC3 tB
 clear h107
 obtain ⟨r,hr⟩:∃ r,r=snapD nearS:=⟨_,rfl⟩
 rw [←hr]
 conv at hr=>rhs;cbv
 conv at k1=>cbv
 conv at k2=>cbv
 conv at k3=>cbv
 refine y0Y ⟨rfl,by decide⟩ fun O hO V hV=>?_
 subst hV
 conv=>cbv
 repeat' (first|(refine And.intro (by first|assumption|exact ⟨by omega⟩|exact ⟨rfl⟩|exact ⟨rfl,rfl⟩) ?_)|(intro (g:Nat);(conv=>cbv)))
 refine ⟨_,k1,?_⟩
 conv=>cbv
 repeat' (first|(refine And.intro (by first|assumption|exact ⟨by omega⟩|exact ⟨rfl⟩|exact ⟨rfl,rfl⟩) ?_)|(intro (g:Nat);(conv=>cbv)))
 refine ⟨_,k2,?_⟩
 conv=>cbv
 repeat' (first|(refine And.intro (by first|assumption|exact ⟨by omega⟩|exact ⟨rfl⟩|exact ⟨rfl,rfl⟩) ?_)|(intro (g:Nat);(conv=>cbv)))
 refine ⟨_,k3,?_⟩
 conv=>cbv
 repeat' (first|(refine And.intro (by first|assumption|exact ⟨by omega⟩|exact ⟨rfl⟩|exact ⟨rfl,rfl⟩) ?_)|(intro (g:Nat);(conv=>cbv)))
 repeat' (refine And.intro ⟨rfl,rfl⟩ ?_)
 exact hr.symm
def acc1:Nat->Str
 | 0=>[]
 | 1=>tC1
 | _=>tC1++tC2
def acc2:Nat->Str
 | 0=>tC1++tC2
 | 1=>tC1++tC2
 | 2=>tC1++tC2
 | _=>tC1++tC2++tC3
theorem ypiY (R:Ans) (h54:R.v 54 [] (snapD nearS)) (g1:R.v 28 [snapD nearS,podD podNear,mkS tC1] (.tup [.bool true,jI 0])) (g2:R.v 28 [snapD nearS,podD podNear,mkS tC2] (.tup [.bool true,jI 0])) (g3:R.v 28 [snapD nearS,podD podNear,mkS tC3] (.tup [.bool false,jI 0])) (k1:R.v 30 [snapD nearS,podD podApart,mkS tC1] (.tup [.bool false,jI 0])) (k2:R.v 30 [snapD nearS,podD podApart,mkS tC2] (.tup [.bool false,jI 0])) (k3:R.v 30 [snapD nearS,podD podApart,mkS tC3] (.tup [.bool true,jI 0])):AnsF R c27 [] (.bool true):=by
 obtain ⟨s,hs⟩:∃ s,s=nearS:=⟨_,rfl⟩
 rw [←hs] at h54 g1 g2 g3 k1 k2 k3
 obtain ⟨ty,po,pl,cl,cm,co,is,no,hce,hsn,cty,cpo,cpl,ccl,ccm,cco,cis,cno⟩:=ytY s
 rw [hsn] at h54 g1 g2 g3 k1 k2 k3
 clear hs hce hsn
 refine y0Y ⟨rfl,by decide⟩ fun O hO V hV=>?_
 subst hV
 conv=>cbv
 repeat' (first|(refine And.intro (by first|assumption|exact ⟨by omega⟩|exact ⟨rfl⟩|exact ⟨rfl,rfl⟩) ?_)|(intro (g:Nat);(conv=>cbv)))
 obtain ⟨fs,hfs⟩:∃ fs:List D,fs=[.str ⟨⟨[99,49]⟩⟩,.str ⟨⟨[99,50]⟩⟩,.str ⟨⟨[99,51]⟩⟩]:=⟨_,rfl⟩
 have hlf:O .len fs=3:=by rw [o_len hO,hfs];rfl
 rw [←hfs]
 have hall28:∀ k,k<3->∃ x b,fs[k]?=some (mkS x)/\V.v 28 [.agg (sB s ty po pl cl cm co is no),podD podNear,mkS x] (.tup [.bool b,jI 0])/\acc1 (k+1)=(if b then acc1 k++x else acc1 k)/\x.length=2/\(acc1 k).length<=6:=by
  intro k hk
  rw [hfs]
  match k,hk with
  | 0,_=>exact ⟨tC1,_,rfl,g1,rfl,rfl,by decide⟩
  | 1,_=>exact ⟨tC2,_,rfl,g2,rfl,rfl,by decide⟩
  | 2,_=>exact ⟨tC3,_,rfl,g3,rfl,rfl,by decide⟩
 clear g1 g2 g3
 refine y6Y (fun n d=>∃ (i:Int) (k:Nat) (v:ByteArray),d=⟨[(1,.ptr 1 1 0),(2,.str v),(14,.own 14 1),(15,jI (O .len fs)),(16,jI i)],[(1,⟨1,.rw,.var,[.str ⟨⟨[113]⟩⟩,.str ⟨⟨[121]⟩⟩,jI 0,jI 0,jI 0,.sl 4 true [],.sl 3 true [],.sl 3 true [],.own 12 1,.sl 2 true [],jI 0,.str ⟨⟨[]⟩⟩]⟩),(12,⟨1,.rw,.arr 2 66,[.agg [.str ⟨⟨[122,111,110,101]⟩⟩,.str ⟨⟨[120]⟩⟩]]⟩),(14,⟨1,.rw,.arr 1 9,fs⟩)],false⟩/\i=k/\k<=3/\n=3-k/\v=⟨⟨acc1 k⟩⟩) ⟨_,_,⟨_,0,_,rfl,rfl,by omega,rfl,rfl⟩,⟨⟨rfl,rfl,rfl,rfl,rfl,trivial⟩,⟨rfl,rfl,rfl,trivial⟩,rfl⟩⟩ ?_
 rintro J up n d ⟨i,k,v,rfl,hi,hk,rfl,hv⟩
 obtain ⟨u,hu⟩:∃ u,u=acc1 k:=⟨_,rfl⟩
 rw [←hu] at hv
 subst hv
 conv=>cbv
 rintro (_|_) h1<;>(conv=>cbv)
 case true =>
  replace h1:=t_lss hO h1
  rw [hlf] at h1
  obtain ⟨x,b,g1,g2,g3,g4,g5⟩:=hall28 k (by omega)
  rw [←hu] at g5
  have hgt:fs[O .nat i]?=some (mkS x):=by rw [o_nat hO,hi];simpa using g1
  clear hall28 g1
  refine ⟨⟨by omega⟩,⟨by show i<O .len fs;rw [hlf];omega⟩,_,hgt,?_⟩
  conv=>cbv
  repeat' (first|(refine And.intro (by first|assumption|exact ⟨by omega⟩|exact ⟨rfl⟩|exact ⟨rfl,rfl⟩) ?_)|(intro (g:Nat);(conv=>cbv)))
  refine ⟨_,h54,?_⟩
  conv=>cbv
  repeat' (first|(refine And.intro (by first|assumption|exact ⟨by omega⟩|exact ⟨rfl⟩|exact ⟨rfl,rfl⟩) ?_)|(intro (g:Nat);(conv=>cbv)))
  refine ⟨_,g2,?_⟩
  cases b<;>(conv=>cbv)
  case false=>exact ⟨_,_,up _ _ ⟨_,k+1,_,rfl,by rw [y2Y hO (by omega) (by omega)];omega,by omega,rfl,by rw [g3,hu];rfl⟩,⟨⟨rfl,rfl,rfl,rfl,rfl,trivial⟩,⟨rfl,rfl,rfl,trivial⟩,rfl⟩,by omega⟩
  rintro (_|_) h<;>replace h:=ci hO h<;>dsimp only [CmpI] at h<;>(conv=>cbv)
  case false=>exact absurd rfl h
  refine ⟨⟨by rw [y1bY hO,y1bY hO];omega⟩,?_⟩
  conv=>cbv
  exact ⟨_,_,up _ _ ⟨_,k+1,_,rfl,by rw [y2Y hO (by omega) (by omega)];omega,by omega,rfl,by rw [g3,if_pos rfl,←hu];exact o_cat hO _ _⟩,⟨⟨rfl,rfl,rfl,rfl,rfl,trivial⟩,⟨rfl,rfl,rfl,trivial⟩,rfl⟩,by omega⟩
 replace h1:=f_lss hO h1
 rw [hlf] at h1
 obtain rfl:k=3:=by omega
 clear hall28 up
 clear h1
 intro g37
 conv=>cbv
 intro g39
 conv=>cbv
 obtain ⟨fs2,hfs2⟩:∃ fs:List D,fs=[.str ⟨⟨[99,49]⟩⟩,.str ⟨⟨[99,50]⟩⟩,.str ⟨⟨[99,51]⟩⟩]:=⟨_,rfl⟩
 have hlf2:O .len fs2=3:=by rw [o_len hO,hfs2];rfl
 rw [←hfs2]
 clear hfs hlf
 have hall30:∀ k,k<3->∃ x b,fs2[k]?=some (mkS x)/\V.v 30 [.agg (sB s ty po pl cl cm co is no),podD podApart,mkS x] (.tup [.bool b,jI 0])/\acc2 (k+1)=(if b then acc2 k++x else acc2 k)/\x.length=2/\(acc2 k).length<=6:=by
  intro k hk
  rw [hfs2]
  match k,hk with
  | 0,_=>exact ⟨tC1,_,rfl,k1,rfl,rfl,by decide⟩
  | 1,_=>exact ⟨tC2,_,rfl,k2,rfl,rfl,by decide⟩
  | 2,_=>exact ⟨tC3,_,rfl,k3,rfl,rfl,by decide⟩
 clear k1 k2 k3
 refine y6Y (fun n d=>∃ (i:Int) (k:Nat) (v:ByteArray),d=⟨[(1,.ptr 1 1 0),(2,.str v),(39,.own 39 g39),(40,jI (O .len fs2)),(41,jI i)],[(1,⟨1,.rw,.var,[.str ⟨⟨[113]⟩⟩,.str ⟨⟨[121]⟩⟩,jI 0,jI 0,jI 0,.sl 4 true [],.sl 3 true [],.sl 3 true [],.sl 2 true [],.own 37 g37,jI 0,.str ⟨⟨[]⟩⟩]⟩),(37,⟨g37,.rw,.arr 2 66,[.agg [.str ⟨⟨[122,111,110,101]⟩⟩,.str ⟨⟨[120]⟩⟩]]⟩),(39,⟨g39,.rw,.arr 1 9,fs2⟩)],false⟩/\i=k/\k<=3/\n=3-k/\v=⟨⟨acc2 k⟩⟩) ⟨_,_,⟨_,0,_,rfl,rfl,by omega,rfl,by rw [hu];rfl⟩,⟨⟨rfl,rfl,rfl,rfl,rfl,trivial⟩,⟨rfl,rfl,rfl,trivial⟩,rfl⟩⟩ ?_
 rintro J up n d ⟨i,k,v,rfl,hi,hk,rfl,hv⟩
 obtain ⟨u,hu⟩:∃ u,u=acc2 k:=⟨_,rfl⟩
 rw [←hu] at hv
 subst hv
 conv=>cbv
 rintro (_|_) h1<;>(conv=>cbv)
 case true =>
  replace h1:=t_lss hO h1
  rw [hlf2] at h1
  obtain ⟨x,b,g1,g2,g3,g4,g5⟩:=hall30 k (by omega)
  rw [←hu] at g5
  have hgt:fs2[O .nat i]?=some (mkS x):=by rw [o_nat hO,hi];simpa using g1
  clear hall30 g1
  refine ⟨⟨by omega⟩,⟨by show i<O .len fs2;rw [hlf2];omega⟩,_,hgt,?_⟩
  conv=>cbv
  repeat' (first|(refine And.intro (by first|assumption|exact ⟨by omega⟩|exact ⟨rfl⟩|exact ⟨rfl,rfl⟩) ?_)|(intro (g:Nat);(conv=>cbv)))
  refine ⟨_,h54,?_⟩
  conv=>cbv
  repeat' (first|(refine And.intro (by first|assumption|exact ⟨by omega⟩|exact ⟨rfl⟩|exact ⟨rfl,rfl⟩) ?_)|(intro (g:Nat);(conv=>cbv)))
  refine ⟨_,g2,?_⟩
  cases b<;>(conv=>cbv)
  case false=>exact ⟨_,_,up _ _ ⟨_,k+1,_,rfl,by rw [y2Y hO (by omega) (by omega)];omega,by omega,rfl,by rw [g3,hu];rfl⟩,⟨⟨rfl,rfl,rfl,rfl,rfl,trivial⟩,⟨rfl,rfl,rfl,trivial⟩,rfl⟩,by omega⟩
  rintro (_|_) h<;>replace h:=ci hO h<;>dsimp only [CmpI] at h<;>(conv=>cbv)
  case false=>exact absurd rfl h
  refine ⟨⟨by rw [y1bY hO,y1bY hO];omega⟩,?_⟩
  conv=>cbv
  exact ⟨_,_,up _ _ ⟨_,k+1,_,rfl,by rw [y2Y hO (by omega) (by omega)];omega,by omega,rfl,by rw [g3,if_pos rfl,←hu];exact o_cat hO _ _⟩,⟨⟨rfl,rfl,rfl,rfl,rfl,trivial⟩,⟨rfl,rfl,rfl,trivial⟩,rfl⟩,by omega⟩
 replace h1:=f_lss hO h1
 rw [hlf2] at h1
 obtain rfl:k=3:=by omega
 clear hall30 up
 rintro (_|_) h<;>replace h:=cs hO h<;>dsimp only [CmpS] at h<;>(conv=>cbv)
 all_goals first|trivial|rfl|exact absurd (by rw [hu];rfl) h
theorem ypjY (R:Ans) (s:SnapV) (p:PodV) (claim:Str) (h27:R.v 27 [] (.bool true)) (h28:R.v 28 [snapD s,podD p,mkS claim] (.tup [.bool (nearE s p claim).1,jI (nearE s p claim).2])) (h29:R.v 29 [snapD s,podD p,mkS claim] (.tup [.bool (nearE s p claim).1,jI (nearE s p claim).2])):AnsF R c7 [snapD s,podD p,mkS claim] (.bool true):=by
 obtain ⟨b,hb⟩:∃ b,b=(nearE s p claim).1:=⟨_,rfl⟩
 obtain ⟨e,he⟩:∃ e,e=(nearE s p claim).2:=⟨_,rfl⟩
 rw [←hb,←he] at h28 h29
 clear hb he
 obtain ⟨ty,po,pl,cl,cm,co,is,no,hce,hsn,cty,cpo,cpl,ccl,ccm,cco,cis,cno⟩:=ytY s
 rw [hsn] at h28 h29 ⊢
 clear hce hsn
 obtain ⟨pnm,pap,pn0,pn1,ppr,prs,pts,pss,pns,pas,psi,pon⟩:=p
 simp only [podD,podC] at h28 h29 ⊢
 obtain ⟨xprs,hxprs⟩:∃ xs,xs=prs.map reqD:=⟨_,rfl⟩
 have cxprs:CleanL xprs:=by rw [hxprs];exact ykY _
 simp only [←hxprs] at h28 h29 ⊢
 obtain ⟨xpts,hxpts⟩:∃ xs,xs=pts.map tolD:=⟨_,rfl⟩
 have cxpts:CleanL xpts:=by rw [hxpts];exact yqY _
 simp only [←hxpts] at h28 h29 ⊢
 obtain ⟨xpss,hxpss⟩:∃ xs,xs=pss.map sprD:=⟨_,rfl⟩
 have cxpss:CleanL xpss:=by rw [hxpss];exact yrY _
 simp only [←hxpss] at h28 h29 ⊢
 obtain ⟨xpns,hxpns⟩:∃ xs,xs=pns.map labD:=⟨_,rfl⟩
 have cxpns:CleanL xpns:=by rw [hxpns];exact y4Y _
 simp only [←hxpns] at h28 h29 ⊢
 obtain ⟨xpas,hxpas⟩:∃ xs,xs=pas.map labD:=⟨_,rfl⟩
 have cxpas:CleanL xpas:=by rw [hxpas];exact y4Y _
 simp only [←hxpas] at h28 h29 ⊢
 refine y0Y ⟨rfl,by decide⟩ fun O hO V hV=>?_
 subst hV
 conv=>cbv
 refine ⟨_,h27,?_⟩
 conv=>cbv
 repeat' (first|(refine And.intro (by first|assumption|exact ⟨by omega⟩|exact ⟨rfl⟩|exact ⟨rfl,rfl⟩) ?_)|(intro (g:Nat);(conv=>cbv)))
 refine ⟨_,h28,?_⟩
 conv=>cbv
 repeat' (first|(refine And.intro (by first|assumption|exact ⟨by omega⟩|exact ⟨rfl⟩|exact ⟨rfl,rfl⟩) ?_)|(intro (g:Nat);(conv=>cbv)))
 refine ⟨_,h29,?_⟩
 conv=>cbv
 rintro t h
 obtain rfl:t=true:=by rw [b_eq hO h];simp
 conv=>cbv
 rintro (_|_) h2<;>replace h2:=ci hO h2<;>dsimp only [CmpI] at h2<;>(conv=>cbv)
 all_goals (first|trivial|rfl|exact absurd rfl h2)
theorem ypkY (R:Ans) (s:SnapV) (p:PodV) (claim:Str) (h27:R.v 27 [] (.bool true)) (h30:R.v 30 [snapD s,podD p,mkS claim] (.tup [.bool (yfY s p claim).1,jI (yfY s p claim).2])) (h31:R.v 31 [snapD s,podD p,mkS claim] (.tup [.bool (yfY s p claim).1,jI (yfY s p claim).2])):AnsF R c8 [snapD s,podD p,mkS claim] (.bool true):=by
 obtain ⟨b,hb⟩:∃ b,b=(yfY s p claim).1:=⟨_,rfl⟩
 obtain ⟨e,he⟩:∃ e,e=(yfY s p claim).2:=⟨_,rfl⟩
 rw [←hb,←he] at h30 h31
 clear hb he
 obtain ⟨ty,po,pl,cl,cm,co,is,no,hce,hsn,cty,cpo,cpl,ccl,ccm,cco,cis,cno⟩:=ytY s
 rw [hsn] at h30 h31 ⊢
 clear hce hsn
 obtain ⟨pnm,pap,pn0,pn1,ppr,prs,pts,pss,pns,pas,psi,pon⟩:=p
 simp only [podD,podC] at h30 h31 ⊢
 obtain ⟨xprs,hxprs⟩:∃ xs,xs=prs.map reqD:=⟨_,rfl⟩
 have cxprs:CleanL xprs:=by rw [hxprs];exact ykY _
 simp only [←hxprs] at h30 h31 ⊢
 obtain ⟨xpts,hxpts⟩:∃ xs,xs=pts.map tolD:=⟨_,rfl⟩
 have cxpts:CleanL xpts:=by rw [hxpts];exact yqY _
 simp only [←hxpts] at h30 h31 ⊢
 obtain ⟨xpss,hxpss⟩:∃ xs,xs=pss.map sprD:=⟨_,rfl⟩
 have cxpss:CleanL xpss:=by rw [hxpss];exact yrY _
 simp only [←hxpss] at h30 h31 ⊢
 obtain ⟨xpns,hxpns⟩:∃ xs,xs=pns.map labD:=⟨_,rfl⟩
 have cxpns:CleanL xpns:=by rw [hxpns];exact y4Y _
 simp only [←hxpns] at h30 h31 ⊢
 obtain ⟨xpas,hxpas⟩:∃ xs,xs=pas.map labD:=⟨_,rfl⟩
 have cxpas:CleanL xpas:=by rw [hxpas];exact y4Y _
 simp only [←hxpas] at h30 h31 ⊢
 refine y0Y ⟨rfl,by decide⟩ fun O hO V hV=>?_
 subst hV
 conv=>cbv
 refine ⟨_,h27,?_⟩
 conv=>cbv
 repeat' (first|(refine And.intro (by first|assumption|exact ⟨by omega⟩|exact ⟨rfl⟩|exact ⟨rfl,rfl⟩) ?_)|(intro (g:Nat);(conv=>cbv)))
 refine ⟨_,h30,?_⟩
 conv=>cbv
 repeat' (first|(refine And.intro (by first|assumption|exact ⟨by omega⟩|exact ⟨rfl⟩|exact ⟨rfl,rfl⟩) ?_)|(intro (g:Nat);(conv=>cbv)))
 refine ⟨_,h31,?_⟩
 conv=>cbv
 rintro t h
 obtain rfl:t=true:=by rw [b_eq hO h];simp
 conv=>cbv
 rintro (_|_) h2<;>replace h2:=ci hO h2<;>dsimp only [CmpI] at h2<;>(conv=>cbv)
 all_goals (first|trivial|rfl|exact absurd rfl h2)
theorem yplY (R:Ans) (s:SnapV) (p:PodV) (claim:Str) (hl:p.near.length<4611686018427387904) (h15:R.v 27 [] (.bool true)) (h28:R.v 28 [snapD (y1jY s),podD p,mkS claim] (.tup [.bool (nearE (y1jY s) p claim).1,jI (nearE (y1jY s) p claim).2])) (h30:R.v 30 [snapD (y1jY s),podD p,mkS claim] (.tup [.bool (yfY (y1jY s) p claim).1,jI (yfY (y1jY s) p claim).2])):AnsF R c10 [snapD s,podD p,mkS claim] (.bool true):=by
 have hlaw:=ymeY s p claim
 have e1:(nearE (y1jY s) p claim).2=yhY (y1jY s) p claim:=rfl
 have e2:(yfY (y1jY s) p claim).2=yhY (y1jY s) p claim:=rfl
 rw [e1] at h28
 rw [e2] at h30
 clear e1 e2
 obtain ⟨e,he⟩:∃ e,e=yhY (y1jY s) p claim:=⟨_,rfl⟩
 obtain ⟨a,ha⟩:∃ a,a=(nearE (y1jY s) p claim).1:=⟨_,rfl⟩
 obtain ⟨b,hb⟩:∃ b,b=(yfY (y1jY s) p claim).1:=⟨_,rfl⟩
 rw [←he,←ha,←hb] at hlaw
 rw [←he,←ha] at h28
 rw [←he,←hb] at h30
 clear he ha hb
 obtain ⟨ty,po,pl,cl,cm,co,is,no,hce,hsn,cty,cpo,cpl,ccl,ccm,cco,cis,cno⟩:=ytY s
 have hno:snapD (y1jY s)=.agg [jI s.now,jI s.idle,jI s.most,jI s.hold,jI s.late,jI s.cool,.sl 7 false ty,.sl 12 false [],.sl 10 false pl,.sl 15 false cl,.sl 8 false cm,.sl 4 false co,.sl 7 false is,.sl 1 false no]:=by
  rw [hce.ty,hce.pl,hce.cl,hce.cm,hce.co,hce.is,hce.no]
  rfl
 rw [hno] at h28 h30
 rw [hsn]
 clear hno hce hsn
 obtain ⟨pnm,pap,pn0,pn1,ppr,prs,pts,pss,pns,pas,psi,pon⟩:=p
 simp only [podD,podC] at h28 h30 hlaw hl ⊢
 obtain ⟨xprs,hxprs⟩:∃ xs,xs=prs.map reqD:=⟨_,rfl⟩
 have cxprs:CleanL xprs:=by rw [hxprs];exact ykY _
 simp only [←hxprs] at h28 h30 hlaw hl ⊢
 obtain ⟨xpts,hxpts⟩:∃ xs,xs=pts.map tolD:=⟨_,rfl⟩
 have cxpts:CleanL xpts:=by rw [hxpts];exact yqY _
 simp only [←hxpts] at h28 h30 hlaw hl ⊢
 obtain ⟨xpss,hxpss⟩:∃ xs,xs=pss.map sprD:=⟨_,rfl⟩
 have cxpss:CleanL xpss:=by rw [hxpss];exact yrY _
 simp only [←hxpss] at h28 h30 hlaw hl ⊢
 obtain ⟨xpns,hxpns⟩:∃ xs,xs=pns.map labD:=⟨_,rfl⟩
 have cxpns:CleanL xpns:=by rw [hxpns];exact y4Y _
 simp only [←hxpns] at h28 h30 hlaw hl ⊢
 obtain ⟨xpas,hxpas⟩:∃ xs,xs=pas.map labD:=⟨_,rfl⟩
 have cxpas:CleanL xpas:=by rw [hxpas];exact y4Y _
 simp only [←hxpas] at h28 h30 hlaw hl ⊢
 refine y0Y ⟨rfl,by decide⟩ fun O hO V hV=>?_
 subst hV
 have hlen:O .len xpns=pns.length:=by rw [o_len hO,hxpns];simp
 conv=>cbv
 refine ⟨_,h15,?_⟩
 conv=>cbv
 repeat' (first|(refine And.intro (by first|assumption|exact ⟨by omega⟩|exact ⟨by rw [hlen];omega⟩|exact ⟨rfl⟩|exact ⟨rfl,rfl⟩) ?_)|(intro (g:Nat);(conv=>cbv)))
 refine ⟨_,h28,?_⟩
 conv=>cbv
 repeat' (first|(refine And.intro (by first|assumption|exact ⟨by omega⟩|exact ⟨by rw [hlen];omega⟩|exact ⟨rfl⟩|exact ⟨rfl,rfl⟩) ?_)|(intro (g:Nat);(conv=>cbv)))
 refine ⟨_,h30,?_⟩
 conv=>cbv
 rintro (_|_) h<;>replace h:=ci hO h<;>dsimp only [CmpI] at h<;>(conv=>cbv)
 case true =>
  obtain ⟨rfl,rfl⟩:=hlaw.2 h
  clear hlaw
  repeat' (rintro (_|_) h2<;>replace h2:=ci hO h2<;>dsimp only [CmpI] at h2<;>(conv=>cbv))
  all_goals (first|trivial|rfl|exact absurd rfl h2|skip)
 rintro (_|_) h2<;>replace h2:=ci hO h2<;>dsimp only [CmpI] at h2<;>(conv=>cbv)
 case true=>exact absurd h h2
 obtain ⟨ha,rfl⟩:=hlaw.1 h
 clear hlaw
 refine y6Y (fun n d=>∃ (i:Int) (k:Nat) (w:Bool),d=⟨[(4,.ptr 4 1 0),(7,.bool true),(8,.bool a),(10,.bool true),(12,.bool w),(52,.sl 2 false xpns),(53,jI (O .len xpns)),(54,jI i)],[(4,⟨1,.rw,.var,[mkS pnm,mkS pap,jI pn0,jI pn1,jI ppr,.sl 4 false xprs,.sl 3 false xpts,.sl 3 false xpss,.sl 2 false xpns,.sl 2 false xpas,jI psi,mkS pon]⟩)],false⟩/\i=k/\k<=pns.length/\n=pns.length-k/\w=(pns.take k).all fun t=>decide (pap=t.v)) ⟨_,_,⟨_,0,_,rfl,rfl,by omega,rfl,by simp⟩,⟨⟨rfl,rfl,rfl,rfl,rfl,rfl,rfl,rfl,trivial⟩,⟨rfl,trivial⟩,rfl⟩⟩ ?_
 rintro J up n d ⟨i,k,w,rfl,hi,hk,rfl,hw⟩
 conv=>cbv
 rintro (_|_) h1<;>(conv=>cbv)
 ·replace h1:=f_lss hO h1
  rw [hlen] at h1
  rw [List.take_of_length_le (by omega)] at hw
  have haw:a=w:=by rw [ha,hw]
  subst haw
  rintro t h3
  obtain rfl:t=true:=by rw [b_eq hO h3];simp
  conv=>cbv
  all_goals (first|trivial|rfl)
 replace h1:=t_lss hO h1
 rw [hlen] at h1
 obtain ⟨y,hy⟩:∃ y,pns[k]?=some y:=⟨_,List.getElem?_eq_getElem (by omega)⟩
 have hat:atX xpns i (labD y):=y9Y hy hxpns hi
 have hw2:((pns.take (k+1)).all fun t=>decide (pap=t.v))=(w&&decide (pap=y.v)):=by rw [List.take_add_one,hy,List.all_append,hw];simp
 clear hy hw
 obtain ⟨yk,yv⟩:=y
 simp only [labD] at hat hw2
 refine ⟨_,hat,?_⟩
 conv=>cbv
 repeat' (first|(refine And.intro (by first|assumption|exact ⟨by omega⟩|exact ⟨by rw [hlen];omega⟩|exact ⟨rfl⟩|exact ⟨rfl,rfl⟩) ?_)|(intro (g:Nat);(conv=>cbv)))
 cases w<;>(conv=>cbv)
 case false=>exact ⟨_,_,up _ _ ⟨_,k+1,false,rfl,by rw [y2Y hO (by omega) (by omega)];omega,by omega,rfl,by rw [hw2];rfl⟩,⟨⟨rfl,rfl,rfl,rfl,rfl,rfl,rfl,rfl,trivial⟩,⟨rfl,trivial⟩,rfl⟩,by omega⟩
 rintro (_|_) h3<;>replace h3:=cs hO h3<;>dsimp only [CmpS] at h3<;>(conv=>cbv)
 ·exact ⟨_,_,up _ _ ⟨_,k+1,false,rfl,by rw [y2Y hO (by omega) (by omega)];omega,by omega,rfl,by rw [hw2];simp [Ne.symm h3]⟩,⟨⟨rfl,rfl,rfl,rfl,rfl,rfl,rfl,rfl,trivial⟩,⟨rfl,trivial⟩,rfl⟩,by omega⟩
 ·exact ⟨_,_,up _ _ ⟨_,k+1,true,rfl,by rw [y2Y hO (by omega) (by omega)];omega,by omega,rfl,by rw [hw2];simp [h3]⟩,⟨⟨rfl,rfl,rfl,rfl,rfl,rfl,rfl,rfl,trivial⟩,⟨rfl,trivial⟩,rfl⟩,by omega⟩
def firS:Str:=[102,105,114,115,116]
def secS:Str:=[115,101,99,111,110,100]
theorem yewY (p:PodV):CleanL [podD p]:=y1iY [p]
theorem ypmY (R:Ans) (s:SnapV) (a b:PodV) (x y:Str) (h27:R.v 27 [] (.bool true))
 (k1:R.v 32 [podD (y8Y firS [] a)] (jI (podE (y8Y firS [] a)))) (k2:R.v 32 [podD (y8Y secS [] b)] (jI (podE (y8Y secS [] b))))
 (k3:R.v 33 [snapD (onlyP s (y8Y firS x a))] (jI (snapE (onlyP s (y8Y firS x a))))) (k5:R.v 33 [snapD (onlyP s (y8Y secS y b))] (jI (snapE (onlyP s (y8Y secS y b)))))
 (k4:R.v 30 [snapD (onlyP s (y8Y firS x a)),podD (y8Y secS [] b),mkS y] (.tup [.bool (yfY (onlyP s (y8Y firS x a)) (y8Y secS [] b) y).1,jI (yfY (onlyP s (y8Y firS x a)) (y8Y secS [] b) y).2]))
 (k6:R.v 30 [snapD (onlyP s (y8Y secS y b)),podD (y8Y firS x a),mkS x] (.tup [.bool (yfY (onlyP s (y8Y secS y b)) (y8Y firS x a) x).1,jI (yfY (onlyP s (y8Y secS y b)) (y8Y firS x a) x).2])):AnsF R c9 [snapD s,podD a,podD b,mkS x,mkS y] (.bool true):=by
 have hlaw:x≠[]->y≠[]->snapE (onlyP s (y8Y firS x a))=0->snapE (onlyP s (y8Y secS y b))=0->podE (y8Y secS [] b)=0->(yfY (onlyP s (y8Y firS x a)) (y8Y secS [] b) y).2=0/\(yfY (onlyP s (y8Y secS y b)) (y8Y firS x a) x).2=0/\(yfY (onlyP s (y8Y firS x a)) (y8Y secS [] b) y).1=(yfY (onlyP s (y8Y secS y b)) (y8Y firS x a) x).1:=fun hx hy h1 h2 h3=>ymgY hx hy (by decide) h1 h2 h3
 obtain ⟨w1,hw1⟩:∃ w,w=podE (y8Y firS [] a):=⟨_,rfl⟩
 obtain ⟨w2,hw2⟩:∃ w,w=podE (y8Y secS [] b):=⟨_,rfl⟩
 obtain ⟨w3,hw3⟩:∃ w,w=snapE (onlyP s (y8Y firS x a)):=⟨_,rfl⟩
 obtain ⟨w4,hw4⟩:∃ w,w=snapE (onlyP s (y8Y secS y b)):=⟨_,rfl⟩
 obtain ⟨⟨q1,e1⟩,hq1⟩:∃ w,w=yfY (onlyP s (y8Y firS x a)) (y8Y secS [] b) y:=⟨_,rfl⟩
 obtain ⟨⟨q2,e2⟩,hq2⟩:∃ w,w=yfY (onlyP s (y8Y secS y b)) (y8Y firS x a) x:=⟨_,rfl⟩
 rw [←hw1] at k1
 rw [←hw2] at k2
 rw [←hw3] at k3
 rw [←hw4] at k5
 rw [←hq1] at k4
 rw [←hq2] at k6
 rw [←hw3,←hw4,←hw2,←hq1,←hq2] at hlaw
 simp only at k4 k6 hlaw
 have c1:=yewY (y8Y firS x a)
 have c2:=yewY (y8Y secS y b)
 clear hw1 hw2 hw3 hw4 hq1 hq2
 obtain ⟨ty,po,pl,cl,cm,co,is,no,hce,hsn,cty,cpo,cpl,ccl,ccm,cco,cis,cno⟩:=ytY s
 obtain ⟨anm,aap,an0,an1,apr,ars,ats,ass,ans,aas,asi,aon⟩:=a
 obtain ⟨bnm,bap,bn0,bn1,bpr,brs,bts,bss,bns,bas,bsi,bon⟩:=b
 obtain ⟨xars,hxars⟩:∃ xs,xs=ars.map reqD:=⟨_,rfl⟩
 have cxars:CleanL xars:=by rw [hxars];exact ykY _
 obtain ⟨xats,hxats⟩:∃ xs,xs=ats.map tolD:=⟨_,rfl⟩
 have cxats:CleanL xats:=by rw [hxats];exact yqY _
 obtain ⟨xass,hxass⟩:∃ xs,xs=ass.map sprD:=⟨_,rfl⟩
 have cxass:CleanL xass:=by rw [hxass];exact yrY _
 obtain ⟨xans,hxans⟩:∃ xs,xs=ans.map labD:=⟨_,rfl⟩
 have cxans:CleanL xans:=by rw [hxans];exact y4Y _
 obtain ⟨xaas,hxaas⟩:∃ xs,xs=aas.map labD:=⟨_,rfl⟩
 have cxaas:CleanL xaas:=by rw [hxaas];exact y4Y _
 obtain ⟨xbrs,hxbrs⟩:∃ xs,xs=brs.map reqD:=⟨_,rfl⟩
 have cxbrs:CleanL xbrs:=by rw [hxbrs];exact ykY _
 obtain ⟨xbts,hxbts⟩:∃ xs,xs=bts.map tolD:=⟨_,rfl⟩
 have cxbts:CleanL xbts:=by rw [hxbts];exact yqY _
 obtain ⟨xbss,hxbss⟩:∃ xs,xs=bss.map sprD:=⟨_,rfl⟩
 have cxbss:CleanL xbss:=by rw [hxbss];exact yrY _
 obtain ⟨xbns,hxbns⟩:∃ xs,xs=bns.map labD:=⟨_,rfl⟩
 have cxbns:CleanL xbns:=by rw [hxbns];exact y4Y _
 obtain ⟨xbas,hxbas⟩:∃ xs,xs=bas.map labD:=⟨_,rfl⟩
 have cxbas:CleanL xbas:=by rw [hxbas];exact y4Y _
 have ea0:podD (y8Y firS [] ⟨anm,aap,an0,an1,apr,ars,ats,ass,ans,aas,asi,aon⟩)=.agg [mkS firS,mkS aap,jI an0,jI an1,jI apr,.sl 4 false xars,.sl 3 false xats,.sl 3 false xass,.sl 2 false xans,.sl 2 false xaas,jI 0,mkS []]:=by rw [hxars,hxats,hxass,hxans,hxaas];rfl
 have ea1:podD (y8Y firS x ⟨anm,aap,an0,an1,apr,ars,ats,ass,ans,aas,asi,aon⟩)=.agg [mkS firS,mkS aap,jI an0,jI an1,jI apr,.sl 4 false xars,.sl 3 false xats,.sl 3 false xass,.sl 2 false xans,.sl 2 false xaas,jI 0,mkS x]:=by rw [hxars,hxats,hxass,hxans,hxaas];rfl
 have eb0:podD (y8Y secS [] ⟨bnm,bap,bn0,bn1,bpr,brs,bts,bss,bns,bas,bsi,bon⟩)=.agg [mkS secS,mkS bap,jI bn0,jI bn1,jI bpr,.sl 4 false xbrs,.sl 3 false xbts,.sl 3 false xbss,.sl 2 false xbns,.sl 2 false xbas,jI 0,mkS []]:=by rw [hxbrs,hxbts,hxbss,hxbns,hxbas];rfl
 have eb1:podD (y8Y secS y ⟨bnm,bap,bn0,bn1,bpr,brs,bts,bss,bns,bas,bsi,bon⟩)=.agg [mkS secS,mkS bap,jI bn0,jI bn1,jI bpr,.sl 4 false xbrs,.sl 3 false xbts,.sl 3 false xbss,.sl 2 false xbns,.sl 2 false xbas,jI 0,mkS y]:=by rw [hxbrs,hxbts,hxbss,hxbns,hxbas];rfl
 have es1:snapD (onlyP s (y8Y firS x ⟨anm,aap,an0,an1,apr,ars,ats,ass,ans,aas,asi,aon⟩))=.agg [jI s.now,jI s.idle,jI s.most,jI s.hold,jI s.late,jI s.cool,.sl 7 false ty,.sl 12 false [.agg [mkS firS,mkS aap,jI an0,jI an1,jI apr,.sl 4 false xars,.sl 3 false xats,.sl 3 false xass,.sl 2 false xans,.sl 2 false xaas,jI 0,mkS x]],.sl 10 false pl,.sl 15 false cl,.sl 8 false cm,.sl 4 false co,.sl 7 false is,.sl 1 false no]:=by
  rw [←ea1,hce.ty,hce.pl,hce.cl,hce.cm,hce.co,hce.is,hce.no]
  rfl
 have es2:snapD (onlyP s (y8Y secS y ⟨bnm,bap,bn0,bn1,bpr,brs,bts,bss,bns,bas,bsi,bon⟩))=.agg [jI s.now,jI s.idle,jI s.most,jI s.hold,jI s.late,jI s.cool,.sl 7 false ty,.sl 12 false [.agg [mkS secS,mkS bap,jI bn0,jI bn1,jI bpr,.sl 4 false xbrs,.sl 3 false xbts,.sl 3 false xbss,.sl 2 false xbns,.sl 2 false xbas,jI 0,mkS y]],.sl 10 false pl,.sl 15 false cl,.sl 8 false cm,.sl 4 false co,.sl 7 false is,.sl 1 false no]:=by
  rw [←eb1,hce.ty,hce.pl,hce.cl,hce.cm,hce.co,hce.is,hce.no]
  rfl
 have eaa:podD ⟨anm,aap,an0,an1,apr,ars,ats,ass,ans,aas,asi,aon⟩=.agg [mkS anm,mkS aap,jI an0,jI an1,jI apr,.sl 4 false xars,.sl 3 false xats,.sl 3 false xass,.sl 2 false xans,.sl 2 false xaas,jI asi,mkS aon]:=by rw [hxars,hxats,hxass,hxans,hxaas];rfl
 have ebb:podD ⟨bnm,bap,bn0,bn1,bpr,brs,bts,bss,bns,bas,bsi,bon⟩=.agg [mkS bnm,mkS bap,jI bn0,jI bn1,jI bpr,.sl 4 false xbrs,.sl 3 false xbts,.sl 3 false xbss,.sl 2 false xbns,.sl 2 false xbas,jI bsi,mkS bon]:=by rw [hxbrs,hxbts,hxbss,hxbns,hxbas];rfl
 rw [ea0] at k1
 rw [eb0] at k2
 rw [es1] at k3
 rw [es2] at k5
 rw [es1,eb0] at k4
 rw [es2,ea1] at k6
 rw [ea1] at c1
 rw [eb1] at c2
 rw [hsn,eaa,ebb]
 clear ea0 ea1 eb0 eb1 es1 es2 eaa ebb hce hsn
 refine y0Y ⟨rfl,by decide⟩ fun O hO V hV=>?_
 subst hV
 conv=>cbv
 repeat' (first|(refine And.intro (by first|assumption|exact ⟨by omega⟩|exact ⟨rfl⟩|exact ⟨rfl,rfl⟩) ?_)|(intro (g:Nat);(conv=>cbv)))
 refine ⟨_,h27,?_⟩
 conv=>cbv
 repeat' (first|(refine And.intro (by first|assumption|exact ⟨by omega⟩|exact ⟨rfl⟩|exact ⟨rfl,rfl⟩) ?_)|(intro (g:Nat);(conv=>cbv)))
 refine ⟨_,k1,?_⟩
 conv=>cbv
 rintro (_|_) h<;>replace h:=ci hO h<;>dsimp only [CmpI] at h<;>(conv=>cbv)
 case true=>first|trivial|rfl
 repeat' (first|(refine And.intro (by first|assumption|exact ⟨by omega⟩|exact ⟨rfl⟩|exact ⟨rfl,rfl⟩) ?_)|(intro (g:Nat);(conv=>cbv)))
 refine ⟨_,k2,?_⟩
 conv=>cbv
 rintro (_|_) h2<;>replace h2:=ci hO h2<;>dsimp only [CmpI] at h2<;>(conv=>cbv)
 case true=>first|trivial|rfl
 repeat' (first|(refine And.intro (by first|assumption|exact ⟨by omega⟩|exact ⟨rfl⟩|exact ⟨rfl,rfl⟩) ?_)|(intro (g:Nat);(conv=>cbv)))
 refine ⟨_,k3,?_⟩
 conv=>cbv
 rintro (_|_) h3<;>replace h3:=ci hO h3<;>dsimp only [CmpI] at h3<;>(conv=>cbv)
 case true=>first|trivial|rfl
 repeat' (first|(refine And.intro (by first|assumption|exact ⟨by omega⟩|exact ⟨rfl⟩|exact ⟨rfl,rfl⟩) ?_)|(intro (g:Nat);(conv=>cbv)))
 rintro (_|_) h4<;>replace h4:=cs hO h4<;>dsimp only [CmpS] at h4<;>(conv=>cbv)
 case true=>first|trivial|rfl
 repeat' (first|(refine And.intro (by first|assumption|exact ⟨by omega⟩|exact ⟨rfl⟩|exact ⟨rfl,rfl⟩) ?_)|(intro (g:Nat);(conv=>cbv)))
 refine ⟨_,k4,?_⟩
 conv=>cbv
 repeat' (first|(refine And.intro (by first|assumption|exact ⟨by omega⟩|exact ⟨rfl⟩|exact ⟨rfl,rfl⟩) ?_)|(intro (g:Nat);(conv=>cbv)))
 refine ⟨_,k5,?_⟩
 conv=>cbv
 rintro (_|_) h5<;>replace h5:=ci hO h5<;>dsimp only [CmpI] at h5<;>(conv=>cbv)
 case true=>first|trivial|rfl
 repeat' (first|(refine And.intro (by first|assumption|exact ⟨by omega⟩|exact ⟨rfl⟩|exact ⟨rfl,rfl⟩) ?_)|(intro (g:Nat);(conv=>cbv)))
 rintro (_|_) h6<;>replace h6:=cs hO h6<;>dsimp only [CmpS] at h6<;>(conv=>cbv)
 case true=>first|trivial|rfl
 repeat' (first|(refine And.intro (by first|assumption|exact ⟨by omega⟩|exact ⟨rfl⟩|exact ⟨rfl,rfl⟩) ?_)|(intro (g:Nat);(conv=>cbv)))
 refine ⟨_,k6,?_⟩
 obtain ⟨rfl,rfl,rfl⟩:=hlaw h4 h6 h3 h5 h2
 conv=>cbv
 rintro (_|_) h7<;>replace h7:=ci hO h7<;>dsimp only [CmpI] at h7<;>(conv=>cbv)
 case false=>exact absurd rfl h7
 rintro (_|_) h8<;>replace h8:=ci hO h8<;>dsimp only [CmpI] at h8<;>(conv=>cbv)
 case false=>exact absurd rfl h8
 rintro t h9
 obtain rfl:t=true:=by rw [b_eq hO h9];simp
 conv=>cbv
 all_goals (first|trivial|rfl)
theorem yexY {p:PodV} (h:podE p=0):p.near.length<=3/\p.apart.length<=3:=by
 unfold podE at h
 have h2:=y2uY h
 simp only [List.mem_cons,List.not_mem_nil,or_false] at h2
 have c:=h2 _ (.inr (.inr (.inr (.inr (.inr (.inl rfl))))))
 unfold allTE at c
 split at c
 ·simp at c
 ·omega
theorem ypnY {w n:Int} (hn:0<n):0<=(w.tmod n+n).tmod n/\(w.tmod n+n).tmod n<n/\-n<w.tmod n/\w.tmod n<n:=by
 have h1:-n<w.tmod n:=by have:=Int.tmod_lt_of_pos (-w) hn;rw [Int.neg_tmod] at this;omega
 have h2:w.tmod n<n:=Int.tmod_lt_of_pos w hn
 exact ⟨Int.tmod_nonneg n (by omega),Int.tmod_lt_of_pos _ hn,h1,h2⟩
theorem ypoY (R:Ans) (s:SnapV) (p:PodV) (claim:Str) (w:Int) (hp:FPod p) (hw:FI w) (h27:R.v 27 [] (.bool true)) (h28:R.v 28 [snapD s,podD p,mkS claim] (.tup [.bool (nearE s p claim).1,jI (nearE s p claim).2])) (h30:R.v 30 [snapD s,podD p,mkS claim] (.tup [.bool (yfY s p claim).1,jI (yfY s p claim).2]))
 (n1:∀ k,R.v 28 [snapD s,podD (withT (p.near.eraseIdx k) p.apart p),mkS claim] (.tup [.bool (nearE s (withT (p.near.eraseIdx k) p.apart p) claim).1,jI (nearE s (withT (p.near.eraseIdx k) p.apart p) claim).2])) (n2:∀ k,R.v 30 [snapD s,podD (withT (p.near.eraseIdx k) p.apart p),mkS claim] (.tup [.bool (yfY s (withT (p.near.eraseIdx k) p.apart p) claim).1,jI (yfY s (withT (p.near.eraseIdx k) p.apart p) claim).2])) (a1:∀ k,R.v 28 [snapD s,podD (withT p.near (p.apart.eraseIdx k) p),mkS claim] (.tup [.bool (nearE s (withT p.near (p.apart.eraseIdx k) p) claim).1,jI (nearE s (withT p.near (p.apart.eraseIdx k) p) claim).2])) (a2:∀ k,R.v 30 [snapD s,podD (withT p.near (p.apart.eraseIdx k) p),mkS claim] (.tup [.bool (yfY s (withT p.near (p.apart.eraseIdx k) p) claim).1,jI (yfY s (withT p.near (p.apart.eraseIdx k) p) claim).2])):AnsF R c11 [snapD s,podD p,mkS claim,jI w] (.bool true):=by
 have e1:(nearE s p claim).2=yhY s p claim:=rfl
 have e2:(yfY s p claim).2=yhY s p claim:=rfl
 rw [e1] at h28
 rw [e2] at h30
 clear e1 e2
 have hlaw:yhY s p claim=0->p.near.length<=3/\p.apart.length<=3/\(∀ k,yhY s (withT (p.near.eraseIdx k) p.apart p) claim=0/\((nearE s p claim).1=true->(nearE s (withT (p.near.eraseIdx k) p.apart p) claim).1=true)/\((yfY s p claim).1=true->(yfY s (withT (p.near.eraseIdx k) p.apart p) claim).1=true))/\∀ k,yhY s (withT p.near (p.apart.eraseIdx k) p) claim=0/\((nearE s p claim).1=true->(nearE s (withT p.near (p.apart.eraseIdx k) p) claim).1=true)/\((yfY s p claim).1=true->(yfY s (withT p.near (p.apart.eraseIdx k) p) claim).1=true):=fun h =>
  ⟨(yexY (begin_parts.1 h).2.1).1,(yexY (begin_parts.1 h).2.1).2,fun k=>yelY h (fun x hx=>(List.eraseIdx_sublist _ k).subset hx) (fun x hx=>hx) ((List.eraseIdx_sublist _ k).length_le) (Nat.le_refl _),fun k=>yelY h (fun x hx=>hx) (fun x hx=>(List.eraseIdx_sublist _ k).subset hx) (Nat.le_refl _) ((List.eraseIdx_sublist _ k).length_le)⟩
 obtain ⟨e,he⟩:∃ e,e=yhY s p claim:=⟨_,rfl⟩
 obtain ⟨a,ha⟩:∃ a,a=(nearE s p claim).1:=⟨_,rfl⟩
 obtain ⟨b,hb⟩:∃ b,b=(yfY s p claim).1:=⟨_,rfl⟩
 rw [←he,←ha,←hb] at hlaw
 rw [←he,←ha] at h28
 rw [←he,←hb] at h30
 have hN:e=0->∀ k,∃ c d,R.v 28 [snapD s,podD (withT (p.near.eraseIdx k) p.apart p),mkS claim] (.tup [.bool c,jI 0])/\R.v 30 [snapD s,podD (withT (p.near.eraseIdx k) p.apart p),mkS claim] (.tup [.bool d,jI 0])/\(a=true->c=true)/\(b=true->d=true):=fun h k=>by
  obtain ⟨j1,j2,j3⟩:=(hlaw h).2.2.1 k
  have g1:=n1 k
  have g2:=n2 k
  rw [show (nearE s (withT (p.near.eraseIdx k) p.apart p) claim).2=0 from j1] at g1
  rw [show (yfY s (withT (p.near.eraseIdx k) p.apart p) claim).2=0 from j1] at g2
  exact ⟨_,_,g1,g2,j2,j3⟩
 have hA:e=0->∀ k,∃ c d,R.v 28 [snapD s,podD (withT p.near (p.apart.eraseIdx k) p),mkS claim] (.tup [.bool c,jI 0])/\R.v 30 [snapD s,podD (withT p.near (p.apart.eraseIdx k) p),mkS claim] (.tup [.bool d,jI 0])/\(a=true->c=true)/\(b=true->d=true):=fun h k=>by
  obtain ⟨j1,j2,j3⟩:=(hlaw h).2.2.2 k
  have g1:=a1 k
  have g2:=a2 k
  rw [show (nearE s (withT p.near (p.apart.eraseIdx k) p) claim).2=0 from j1] at g1
  rw [show (yfY s (withT p.near (p.apart.eraseIdx k) p) claim).2=0 from j1] at g2
  exact ⟨_,_,g1,g2,j2,j3⟩
 have hsh:e=0->p.near.length<=3/\p.apart.length<=3:=fun h=>⟨(hlaw h).1,(hlaw h).2.1⟩
 clear n1 n2 a1 a2 hlaw he ha hb hp
 obtain ⟨ty,po,pl,cl,cm,co,is,no,hce,hsn,cty,cpo,cpl,ccl,ccm,cco,cis,cno⟩:=ytY s
 obtain ⟨pnm,pap,pn0,pn1,ppr,prs,pts,pss,pns,pas,psi,pon⟩:=p
 obtain ⟨xprs,hxprs⟩:∃ xs,xs=prs.map reqD:=⟨_,rfl⟩
 have cxprs:CleanL xprs:=by rw [hxprs];exact ykY _
 obtain ⟨xpts,hxpts⟩:∃ xs,xs=pts.map tolD:=⟨_,rfl⟩
 have cxpts:CleanL xpts:=by rw [hxpts];exact yqY _
 obtain ⟨xpss,hxpss⟩:∃ xs,xs=pss.map sprD:=⟨_,rfl⟩
 have cxpss:CleanL xpss:=by rw [hxpss];exact yrY _
 obtain ⟨xpns,hxpns⟩:∃ xs,xs=pns.map labD:=⟨_,rfl⟩
 have cxpns:CleanL xpns:=by rw [hxpns];exact y4Y _
 obtain ⟨xpas,hxpas⟩:∃ xs,xs=pas.map labD:=⟨_,rfl⟩
 have cxpas:CleanL xpas:=by rw [hxpas];exact y4Y _
 simp only at hN hA hsh
 have hN2:e=0->∀ (k:Nat) (us:List D),us=(pns.eraseIdx k).map labD->∃ c d,R.v 28 [.agg (sB s ty po pl cl cm co is no),.agg [mkS pnm,mkS pap,jI pn0,jI pn1,jI ppr,.sl 4 false xprs,.sl 3 false xpts,.sl 3 false xpss,.sl 2 false us,.sl 2 false xpas,jI psi,mkS pon],mkS claim] (.tup [.bool c,jI 0])/\R.v 30 [.agg (sB s ty po pl cl cm co is no),.agg [mkS pnm,mkS pap,jI pn0,jI pn1,jI ppr,.sl 4 false xprs,.sl 3 false xpts,.sl 3 false xpss,.sl 2 false us,.sl 2 false xpas,jI psi,mkS pon],mkS claim] (.tup [.bool d,jI 0])/\(a=true->c=true)/\(b=true->d=true):=fun h k us hus=>by
  obtain ⟨c,d,g1,g2,g3⟩:=hN h k
  have e1:podD (withT (pns.eraseIdx k) pas ⟨pnm,pap,pn0,pn1,ppr,prs,pts,pss,pns,pas,psi,pon⟩)=.agg [mkS pnm,mkS pap,jI pn0,jI pn1,jI ppr,.sl 4 false xprs,.sl 3 false xpts,.sl 3 false xpss,.sl 2 false us,.sl 2 false xpas,jI psi,mkS pon]:=by rw [hus,hxprs,hxpts,hxpss,hxpas];rfl
  rw [hsn,e1] at g1 g2
  exact ⟨c,d,g1,g2,g3⟩
 clear hN
 have hA2:e=0->∀ (k:Nat) (us:List D),us=(pas.eraseIdx k).map labD->∃ c d,R.v 28 [.agg (sB s ty po pl cl cm co is no),.agg [mkS pnm,mkS pap,jI pn0,jI pn1,jI ppr,.sl 4 false xprs,.sl 3 false xpts,.sl 3 false xpss,.sl 2 false xpns,.sl 2 false us,jI psi,mkS pon],mkS claim] (.tup [.bool c,jI 0])/\R.v 30 [.agg (sB s ty po pl cl cm co is no),.agg [mkS pnm,mkS pap,jI pn0,jI pn1,jI ppr,.sl 4 false xprs,.sl 3 false xpts,.sl 3 false xpss,.sl 2 false xpns,.sl 2 false us,jI psi,mkS pon],mkS claim] (.tup [.bool d,jI 0])/\(a=true->c=true)/\(b=true->d=true):=fun h k us hus=>by
  obtain ⟨c,d,g1,g2,g3⟩:=hA h k
  have e1:podD (withT pns (pas.eraseIdx k) ⟨pnm,pap,pn0,pn1,ppr,prs,pts,pss,pns,pas,psi,pon⟩)=.agg [mkS pnm,mkS pap,jI pn0,jI pn1,jI ppr,.sl 4 false xprs,.sl 3 false xpts,.sl 3 false xpss,.sl 2 false xpns,.sl 2 false us,jI psi,mkS pon]:=by rw [hus,hxprs,hxpts,hxpss,hxpns];rfl
  rw [hsn,e1] at g1 g2
  exact ⟨c,d,g1,g2,g3⟩
 clear hA
 have e1:podD ⟨pnm,pap,pn0,pn1,ppr,prs,pts,pss,pns,pas,psi,pon⟩=.agg [mkS pnm,mkS pap,jI pn0,jI pn1,jI ppr,.sl 4 false xprs,.sl 3 false xpts,.sl 3 false xpss,.sl 2 false xpns,.sl 2 false xpas,jI psi,mkS pon]:=by rw [hxprs,hxpts,hxpss,hxpns,hxpas];rfl
 rw [hsn,e1] at h28 h30 ⊢
 clear e1 hce hsn
 refine y0Y ⟨rfl,by decide⟩ fun O hO V hV=>?_
 subst hV
 have hln:O .len xpns=pns.length:=by rw [o_len hO,hxpns];simp
 have hla:O .len xpas=pas.length:=by rw [o_len hO,hxpas];simp
 conv=>cbv
 refine ⟨_,h27,?_⟩
 conv=>cbv
 repeat' (first|(refine And.intro (by first|assumption|exact ⟨by omega⟩|exact ⟨rfl⟩|exact ⟨rfl,rfl⟩) ?_)|(intro (g:Nat);(conv=>cbv)))
 refine ⟨_,h28,?_⟩
 conv=>cbv
 repeat' (first|(refine And.intro (by first|assumption|exact ⟨by omega⟩|exact ⟨rfl⟩|exact ⟨rfl,rfl⟩) ?_)|(intro (g:Nat);(conv=>cbv)))
 refine ⟨_,h30,?_⟩
 conv=>cbv
 rintro (_|_) h<;>replace h:=ci hO h<;>dsimp only [CmpI] at h<;>(conv=>cbv)
 case true=>first|trivial|rfl
 rintro (_|_) h2<;>replace h2:=ci hO h2<;>dsimp only [CmpI] at h2<;>(conv=>cbv)
 case true=>exact absurd h h2
 subst h
 replace hN2:=hN2 rfl
 replace hA2:=hA2 rfl
 obtain ⟨s1,s2⟩:=hsh rfl
 clear hsh h2 h28 h30
 obtain ⟨nn,hnn⟩:∃ nn,nn=O .iop .add .i64 (O .len xpns) (O .len xpas):=⟨_,rfl⟩
 have hnl:nn=pns.length+pas.length:=by rw [hnn,hln,hla,y2Y hO (by omega) (by omega)]
 rw [←hnn]
 rintro (_|_) h3<;>replace h3:=ci hO h3<;>dsimp only [CmpI] at h3<;>(conv=>cbv)
 case true=>first|trivial|rfl
 refine ⟨fun h=>h3 (by rw [hnn];exact h),fun h=>h3 (by rw [hnn];exact h),?_⟩
 rw [←hnn]
 obtain ⟨kk,hkk⟩:∃ kk,kk=O .iop .rem .i64 (O .iop .add .i64 (O .iop .rem .i64 w nn) nn) nn:=⟨_,rfl⟩
 rw [←hkk]
 have hwh:=ypnY (w:=w) (n:=nn) (by omega)
 have hkb:0<=kk/\kk<nn:=by
  rw [hkk,o_rem hO _ _ _ h3,o_rem hO _ _ _ h3,y2Y hO (by omega) (by omega)]
  exact ⟨hwh.1,hwh.2.1⟩
 clear hkk hwh
 rintro (_|_) h4<;>(conv=>cbv)
 case true =>
  replace h4:=t_lss hO h4
  rw [hln] at h4
  have hkk1:O .iop .add .i64 kk 1=kk+1:=y2Y hO (by omega) (by omega)
  have e1:O .subL xpns 0 kk=(pns.take (kk).toNat).map labD:=by rw [y22Y hO,hxpns,←List.map_take];simp
  have e2:O .subL xpns (O .iop .add .i64 kk 1) (O .len xpns)=(pns.drop ((kk).toNat+1)).map labD:=by
   rw [y22Y hO,hkk1,hln,hxpns,List.take_of_length_le (by simp),←List.map_drop]
   congr 2
   omega
  obtain ⟨ys,hys⟩:∃ ys,ys=O .subL xpns 0 kk:=⟨_,rfl⟩
  obtain ⟨zs,hzs⟩:∃ zs,zs=O .subL xpns (O .iop .add .i64 kk 1) (O .len xpns):=⟨_,rfl⟩
  have cys:CleanL ys:=by rw [hys,e1];exact y4Y _
  have czs:CleanL zs:=by rw [hzs,e2];exact y4Y _
  have lys:O .len ys<=3:=by rw [o_len hO,hys,e1];simp;omega
  have lzs:O .len zs<=3:=by rw [o_len hO,hzs,e2];simp;omega
  obtain ⟨us,hus⟩:∃ us,us=O .app ys zs:=⟨_,rfl⟩
  have hue:us=(pns.eraseIdx (kk).toNat).map labD:=by rw [hus,o_app hO,hys,hzs,e1,e2,←List.map_append,List.eraseIdx_eq_take_drop_succ]
  have cus:CleanL us:=by rw [hue];exact y4Y _
  obtain ⟨c,d,g1,g2,g3,g4⟩:=hN2 (kk).toNat us hue
  rw [←hzs,←hys,←hus]
  clear e1 e2 hys hzs hus hue hN2 hA2
  repeat' (refine And.intro (by first|assumption|exact cys.x|exact czs.x|exact ⟨by rw [hkk1];omega⟩|exact ⟨by omega⟩|exact ⟨by show O .len ys*((32:Nat):Int)<=_;omega⟩|exact ⟨by show (O .len ys+O .len zs)*((32:Nat):Int)<=_;omega⟩) ?_)
  refine ⟨_,g1,?_⟩
  conv=>cbv
  repeat' (first|(refine And.intro (by first|assumption|exact ⟨by omega⟩|exact ⟨rfl⟩|exact ⟨rfl,rfl⟩) ?_)|(intro (g:Nat);(conv=>cbv)))
  refine ⟨_,g2,?_⟩
  conv=>cbv
  rintro (_|_) h7<;>replace h7:=ci hO h7<;>dsimp only [CmpI] at h7<;>(conv=>cbv)
  case false=>exact absurd rfl h7
  rintro (_|_) h8<;>replace h8:=ci hO h8<;>dsimp only [CmpI] at h8<;>(conv=>cbv)
  case false=>exact absurd rfl h8
  cases a<;>cases b<;>cases c<;>cases d<;>(conv=>cbv)
  all_goals first
   | (exact absurd (g3 rfl) (by decide))
   | (exact absurd (g4 rfl) (by decide))
   | (first|trivial|rfl)
   | skip
 case false =>
  replace h4:=f_lss hO h4
  rw [hln] at h4
  obtain ⟨jj,hjj⟩:∃ jj,jj=O .iop .sub .i64 kk (O .len xpns):=⟨_,rfl⟩
  have hj:jj=kk-pns.length:=by rw [hjj,hln,y1nY hO (by omega) (by omega)]
  rw [←hjj]
  clear hjj
  have hkk1:O .iop .add .i64 jj 1=jj+1:=y2Y hO (by omega) (by omega)
  have e1:O .subL xpas 0 jj=(pas.take (jj).toNat).map labD:=by rw [y22Y hO,hxpas,←List.map_take];simp
  have e2:O .subL xpas (O .iop .add .i64 jj 1) (O .len xpas)=(pas.drop ((jj).toNat+1)).map labD:=by
   rw [y22Y hO,hkk1,hla,hxpas,List.take_of_length_le (by simp),←List.map_drop]
   congr 2
   omega
  obtain ⟨ys,hys⟩:∃ ys,ys=O .subL xpas 0 jj:=⟨_,rfl⟩
  obtain ⟨zs,hzs⟩:∃ zs,zs=O .subL xpas (O .iop .add .i64 jj 1) (O .len xpas):=⟨_,rfl⟩
  have cys:CleanL ys:=by rw [hys,e1];exact y4Y _
  have czs:CleanL zs:=by rw [hzs,e2];exact y4Y _
  have lys:O .len ys<=3:=by rw [o_len hO,hys,e1];simp;omega
  have lzs:O .len zs<=3:=by rw [o_len hO,hzs,e2];simp;omega
  obtain ⟨us,hus⟩:∃ us,us=O .app ys zs:=⟨_,rfl⟩
  have hue:us=(pas.eraseIdx (jj).toNat).map labD:=by rw [hus,o_app hO,hys,hzs,e1,e2,←List.map_append,List.eraseIdx_eq_take_drop_succ]
  have cus:CleanL us:=by rw [hue];exact y4Y _
  obtain ⟨c,d,g1,g2,g3,g4⟩:=hA2 (jj).toNat us hue
  rw [←hzs,←hys,←hus]
  clear e1 e2 hys hzs hus hue hN2 hA2
  repeat' (refine And.intro (by first|assumption|exact cys.x|exact czs.x|exact ⟨by rw [hkk1];omega⟩|exact ⟨by omega⟩|exact ⟨by show O .len ys*((32:Nat):Int)<=_;omega⟩|exact ⟨by show (O .len ys+O .len zs)*((32:Nat):Int)<=_;omega⟩) ?_)
  refine ⟨_,g1,?_⟩
  conv=>cbv
  repeat' (first|(refine And.intro (by first|assumption|exact ⟨by omega⟩|exact ⟨rfl⟩|exact ⟨rfl,rfl⟩) ?_)|(intro (g:Nat);(conv=>cbv)))
  refine ⟨_,g2,?_⟩
  conv=>cbv
  rintro (_|_) h7<;>replace h7:=ci hO h7<;>dsimp only [CmpI] at h7<;>(conv=>cbv)
  case false=>exact absurd rfl h7
  rintro (_|_) h8<;>replace h8:=ci hO h8<;>dsimp only [CmpI] at h8<;>(conv=>cbv)
  case false=>exact absurd rfl h8
  cases a<;>cases b<;>cases c<;>cases d<;>(conv=>cbv)
  all_goals first
   | (exact absurd (g3 rfl) (by decide))
   | (exact absurd (g4 rfl) (by decide))
   | (first|trivial|rfl)
   | skip
theorem fls0 {α:Type} {F:α->Prop}:FLs F ([]:List α):=⟨by simp,by simp⟩
theorem fls1 {α:Type} {F:α->Prop} {x:α} (h:F x):FLs F [x]:=⟨by simp,fun y hy=>by rw [List.mem_singleton.1 hy];exact h⟩
theorem fls2 {α:Type} {F:α->Prop} {x y:α} (h:F x) (k:F y):FLs F [x,y]:=⟨by simp,fun z hz=>by
 rcases List.mem_cons.1 hz with rfl|hz
 ·exact h
 ·rw [List.mem_singleton.1 hz];exact k⟩
theorem fls3 {α:Type} {F:α->Prop} {x y w:α} (h:F x) (k:F y) (j:F w):FLs F [x,y,w]:=⟨by simp,fun z hz=>by
 rcases List.mem_cons.1 hz with rfl|hz
 ·exact h
 ·rcases List.mem_cons.1 hz with rfl|hz
  ·exact k
  ·rw [List.mem_singleton.1 hz];exact j⟩
theorem sm {s:Str} (h:s.length<=100):SL s:=yliY (by omega)
theorem im {n:Int} (h:0<=n/\n<=1099511627776):FI n:=yljY h
theorem f_off {z:Str} (hz:z.length<=100):FO ⟨tS,z,tOd⟩:=⟨(show SL tS from sm (by decide)),sm hz,(show SL tOd from sm (by decide))⟩
theorem f0:FI 0:=im (by decide)
theorem y9sY {n z:Str} (hn:n.length<=100) (hz:z.length<=100):FClaim (nodeV n z):=⟨sm hn,(show SL tP from sm (by decide)),(show FI 1 from im (by decide)),f_off hz,(show FI 100 from im (by decide)),(show FI 2000 from im (by decide)),(show FI 4096 from im (by decide)),fls1 (f_off hz),(show FI 1 from im (by decide)),sm hn,(show FI 3 from im (by decide)),f0⟩
theorem yppY {n a o:Str} (hn:n.length<=100) (ha:a.length<=100) (ho:o.length<=100):FPod (podX n a o):=⟨sm hn,sm ha,f0,f0,f0,fls0,fls0,fls0,fls0,fls0,f0,sm ho⟩
theorem f_ofg {z k:Str} {p:Int} {o:Bool} (hz:z.length<=100) (hk:k.length<=100) (hp:0<=p/\p<=1099511627776):FOfg ⟨z,k,p,o⟩:=⟨sm hz,sm hk,im hp⟩
theorem ypqY:FPool poolZ:=⟨sm (by decide),im (by decide),im (by decide),im (by decide),fls0,fls0,im (by decide),im (by decide),im (by decide),im (by decide)⟩
theorem yprY:FType typeZ:=⟨sm (by decide),im (by decide),im (by decide),im (by decide),im (by decide),fls0,fls2 (f_ofg (by decide) (by decide) (by decide)) (f_ofg (by decide) (by decide) (by decide))⟩
theorem y58Y:FSnap nearS:=⟨im (by decide),im (by decide),im (by decide),im (by decide),im (by decide),im (by decide),fls1 yprY,fls1 (yppY (by decide) (by decide) (by decide)),fls1 ypqY,fls3 (y9sY (by decide) (by decide)) (y9sY (by decide) (by decide)) (y9sY (by decide) (by decide)),fls0,fls0,fls0,fls0⟩
theorem f_lab {k v:Str} (hk:k.length<=100) (hv:v.length<=100):FLab ⟨k,v⟩:=⟨sm hk,sm hv⟩
theorem y9tY:FPod podNear:=⟨sm (by decide),sm (by decide),im (by decide),im (by decide),im (by decide),fls0,fls0,fls0,fls1 (f_lab (by decide) (by decide)),fls0,im (by decide),sm (by decide)⟩
theorem y9uY:FPod podApart:=⟨sm (by decide),sm (by decide),im (by decide),im (by decide),im (by decide),fls0,fls0,fls0,fls0,fls1 (f_lab (by decide) (by decide)),im (by decide),sm (by decide)⟩
theorem q107 (n z:Str):PR3.v 107 [mkS n,mkS z] (ybY (nodeV n z)):=pr3 E107 Tryz.func107 T107 (ypgY _ n z)
theorem q54:PR3.v 54 [] (snapD nearS):=pr3 E54 Tryz.func54 T54 (yphY _ q107)
theorem at28 {s:SnapV} (hF:FSnap s) {p:PodV} (hp:FPod p) {c:Str} {b:Bool} {e:Int} (h:nearE s p c=(b,e)):PR3.v 28 [snapD s,podD p,mkS c] (.tup [.bool b,jI e]):=by
 have:=p28 s hF p hp c
 rw [h] at this
 exact this
theorem at30 {s:SnapV} (hF:FSnap s) {p:PodV} (hp:FPod p) {c:Str} {b:Bool} {e:Int} (h:yfY s p c=(b,e)):PR3.v 30 [snapD s,podD p,mkS c] (.tup [.bool b,jI e]):=by
 have:=p30 s hF p hp c
 rw [h] at this
 exact this
theorem q27:PR3.v 27 [] (.bool true):=by
 obtain ⟨h1,h2,h3,k1,k2,k3⟩:=ypfY
 exact pr3 E27 Tryz.func27 T27 (ypiY _ q54 (at28 y58Y y9tY h1) (at28 y58Y y9tY h2) (at28 y58Y y9tY h3) (at30 y58Y y9uY k1) (at30 y58Y y9uY k2) (at30 y58Y y9uY k3))
theorem q7 (s:SnapV) (hs:FSnap s) (p:PodV) (hp:FPod p) (c:Str):PR3.v 7 [snapD s,podD p,mkS c] (.bool true):=pr3 E7 Tryz.func7 T7 (ypjY _ s p c q27 (p28 s hs p hp c) (p29 s hs p hp c))
theorem q8 (s:SnapV) (hs:FSnap s) (p:PodV) (hp:FPod p) (c:Str):PR3.v 8 [snapD s,podD p,mkS c] (.bool true):=pr3 E8 Tryz.func8 T8 (ypkY _ s p c q27 (p30 s hs p hp c) (p31 s hs p hp c))
theorem y7aY {n o:Str} {p:PodV} (hn:SL n) (ho:SL o) (hp:FPod p):FPod (y8Y n o p):=⟨hn,hp.app,hp.n0,hp.n1,hp.prio,hp.reqs,hp.tols,hp.spr,hp.near,hp.apart,im (by simp [y8Y]),ho⟩
theorem y7bY {s:SnapV} {p:PodV} (hs:FSnap s) (hp:FPod p):FSnap (onlyP s p):=⟨hs.now,hs.idle,hs.most,hs.hold,hs.late,hs.cool,hs.types,fls1 hp,hs.pools,hs.claims,hs.cmds,hs.cools,hs.insts,hs.notes⟩
theorem yeyY {s:SnapV} (hs:FSnap s):FSnap (y1jY s):=⟨hs.now,hs.idle,hs.most,hs.hold,hs.late,hs.cool,hs.types,fls0,hs.pools,hs.claims,hs.cmds,hs.cools,hs.insts,hs.notes⟩
theorem q9 (s:SnapV) (hs:FSnap s) (a:PodV) (ha:FPod a) (b:PodV) (hb:FPod b) (x:Str) (hx:SL x) (y:Str) (hy:SL y):PR3.v 9 [snapD s,podD a,podD b,mkS x,mkS y] (.bool true) :=
 have a0:=y7aY (n:=firS) (o:=[]) (sm (by decide)) (sm (by decide)) ha
 have b0:=y7aY (n:=secS) (o:=[]) (sm (by decide)) (sm (by decide)) hb
 have a1:=y7aY (n:=firS) (sm (by decide)) hx ha
 have b1:=y7aY (n:=secS) (sm (by decide)) hy hb
 pr3 E9 Tryz.func9 T9 (ypmY _ s a b x y q27 (m48 _ a0) (m48 _ b0) (p33 _ (y7bY hs a1)) (p33 _ (y7bY hs b1)) (p30 _ (y7bY hs a1) _ b0 y) (p30 _ (y7bY hs b1) _ a1 x))
theorem q10 (s:SnapV) (hs:FSnap s) (p:PodV) (hp:FPod p) (c:Str):PR3.v 10 [snapD s,podD p,mkS c] (.bool true):=pr3 E10 Tryz.func10 T10 (yplY _ s p c hp.near.lt q27 (p28 _ (yeyY hs) p hp c) (p30 _ (yeyY hs) p hp c))
theorem y7cY {α:Type} {F:α->Prop} {l:List α} (h:FLs F l) (k:Nat):FLs F (l.eraseIdx k):=⟨Nat.le_trans (List.eraseIdx_sublist l k).length_le h.len,fun x hx=>h.all x ((List.eraseIdx_sublist l k).subset hx)⟩
theorem y7dY {n a:List LabV} {p:PodV} (hn:FLs FLab n) (ha:FLs FLab a) (hp:FPod p):FPod (withT n a p):=⟨hp.name,hp.app,hp.n0,hp.n1,hp.prio,hp.reqs,hp.tols,hp.spr,hn,ha,hp.since,hp.on⟩
theorem q11 (s:SnapV) (hs:FSnap s) (p:PodV) (hp:FPod p) (c:Str) (w:Int) (hw:FI w):PR3.v 11 [snapD s,podD p,mkS c,jI w] (.bool true):=pr3 E11 Tryz.func11 T11 (ypoY _ s p c w hp hw q27 (p28 s hs p hp c) (p30 s hs p hp c)
 (fun k=>p28 s hs _ (y7dY (y7cY hp.near k) hp.apart hp) c) (fun k=>p30 s hs _ (y7dY (y7cY hp.near k) hp.apart hp) c)
 (fun k=>p28 s hs _ (y7dY hp.near (y7cY hp.apart k) hp) c) (fun k=>p30 s hs _ (y7dY hp.near (y7cY hp.apart k) hp) c))
end Go.Proofs.AM
