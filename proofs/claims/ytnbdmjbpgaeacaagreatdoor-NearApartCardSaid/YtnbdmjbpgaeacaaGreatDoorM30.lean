/- Part 30 of the lemmas: AKp, AKq, AKr, AKs, AKt, AKu. -/
import Derived.Test.YtnbdmjbpgaeacaaGreatDoorM29
import Derived.Test.YtnbdmjbpgaeacaaGreatDoorM15
import Derived.Test.YtnbdmjbpgaeacaaGreatDoorM23
import Derived.Test.YtnbdmjbpgaeacaaGreatDoorM06
set_option maxRecDepth 100000
set_option maxHeartbeats 8000000
set_option linter.all false
namespace Go.Proofs.AM
open Go Go.Lib Cd
abbrev pB (s:SnapV) (ty po pl cl cm co is no:List D) (pnm pap:Str) (pn0 pn1 ppr:Int) (xprs xpts xpss xpns xpas:List D) (psi:Int) (pon knm kpo:Str) (kge:Int) (kot koz kok:Str) (kpr kc0 kc1:Int) (xkos:List D) (ktr:Int) (kid:Str) (kph kbo:Int) (kma:Bool):List D:=[jI s.now,jI s.idle,jI s.most,jI s.hold,jI s.late,jI s.cool,.sl 7 false ty,.sl 12 false po,.sl 10 false pl,.sl 15 false cl,.sl 8 false cm,.sl 4 false co,.sl 7 false is,.sl 1 false no,mkS pnm,mkS pap,jI pn0,jI pn1,jI ppr,.sl 4 false xprs,.sl 3 false xpts,.sl 3 false xpss,.sl 2 false xpns,.sl 2 false xpas,jI psi,mkS pon,mkS knm,mkS kpo,jI kge,mkS kot,mkS koz,mkS kok,jI kpr,jI kc0,jI kc1,.sl 3 false xkos,jI ktr,mkS kid,jI kph,jI kbo,.bool kma]
def yepY (s:SnapV) (p:PodV) (c:ClaimV):List D:=snapC s++(podC p++y1gY c)
def ygY (s:SnapV) (p:PodV) (c:ClaimV):D:=.agg (yepY s p c)
theorem yeqY {a b:List D} (ha:CleanL a) (hb:CleanL b):CleanL (a++b):=ha.app hb
theorem yo9Y (s:SnapV) (p:PodV) (c:ClaimV):CleanL (yepY s p c):=by
 have h1:CleanL (snapC s):=y5Y (yjY _) (y5Y (yjY _) (y5Y (yjY _) (y5Y (yjY _) (y5Y (yjY _) (y5Y (yjY _) (y5Y (y10Y (y2eY _)) (y5Y (y10Y (y1iY _)) (y5Y (y10Y (y71Y _)) (y5Y (y10Y (y62Y _)) (y5Y (y10Y (y96Y _)) (y5Y (y10Y (y97Y _)) (y5Y (y10Y (y72Y _)) (y5Y (y10Y (y56Y _)) y2wY)))))))))))))
 have h2:CleanL (podC p):=y5Y (yiY _) (y5Y (yiY _) (y5Y (yjY _) (y5Y (yjY _) (y5Y (yjY _) (y5Y (y10Y (ykY _)) (y5Y (y10Y (yqY _)) (y5Y (y10Y (yrY _)) (y5Y (y10Y (y4Y _)) (y5Y (y10Y (y4Y _)) (y5Y (yjY _) (y5Y (yiY _) y2wY)))))))))))
 have h3:CleanL (y1gY c):=y5Y (yiY _) (y5Y (yiY _) (y5Y (yjY _) (y5Y (yiY _) (y5Y (yiY _) (y5Y (yiY _) (y5Y (yjY _) (y5Y (yjY _) (y5Y (yjY _) (y5Y (y10Y (y12Y _)) (y5Y (yjY _) (y5Y (yiY _) (y5Y (yjY _) (y5Y (yjY _) (y5Y (y95Y _) y2wY))))))))))))))
 exact yeqY h1 (yeqY h2 h3)
theorem y32Y (s:SnapV) (p:PodV) (c:ClaimV):Clean (ygY s p c):=by
 obtain ⟨h1,h2⟩:=yo9Y s p c
 exact ⟨by simp [ygY,closed,h1],by simp [ygY,strip,h2]⟩
def hereC (q:PodV) (key:Str) (c:ClaimV) (y:ClaimV):Bool:=decide (y.name=q.on)&&((decide (key=hostS)&&decide (y.name=c.name))||(decide (key=zoneS)&&decide (y.off.z=c.off.z)))
theorem yoaY (R:Ans) (y:ClaimV) (n:Str):AnsF R c108 [ybY y,.vptr (.agg [mkS n]) 0] (.bool (decide (y.name=n))):=by
 obtain ⟨r,hr⟩:∃ r,r=decide (y.name=n):=⟨_,rfl⟩
 rw [←hr]
 obtain ⟨u,hu⟩:∃ u,u=ybY y:=⟨_,rfl⟩
 rw [←hu]
 obtain ⟨ynm,ypo,yge,⟨yot,yoz,yok⟩,ypr,yc0,yc1,yos,ytr,yid,yph,ybo,yma⟩:=y
 simp only [ybY,y1gY] at hr hu
 obtain ⟨xyos,hxyos⟩:∃ xs,xs=yos.map offD:=⟨_,rfl⟩
 have cxyos:CleanL xyos:=by rw [hxyos];exact y12Y _
 simp only [←hxyos] at hr hu
 subst hu
 refine y0Y ⟨rfl,by decide⟩ fun O hO V hV=>?_
 subst hV
 conv=>cbv
 repeat' (rintro (_|_) h<;>(first|replace h:=ci hO h|replace h:=cs hO h)<;>(dsimp only [CmpI,CmpS] at h)<;>(conv=>cbv))
 all_goals (rw [hr];simp_all)
theorem yobY (R:Ans) (y:ClaimV) (q:PodV) (key:Str) (s:SnapV) (p:PodV) (c:ClaimV):AnsF R c170 [ybY y,.vptr (podD q) 0,.vptr (.agg [mkS key]) 0,.vptr (ygY s p c) 0] (.bool (hereC q key c y)):=by
 obtain ⟨r,hr⟩:∃ r,r=hereC q key c y:=⟨_,rfl⟩
 rw [←hr]
 unfold hereC hostS zoneS at hr
 obtain ⟨ty,po,pl,cl,cm,co,is,no,hce,hsn,cty,cpo,cpl,ccl,ccm,cco,cis,cno⟩:=ytY s
 obtain ⟨pnm,pap,pn0,pn1,ppr,prs,pts,pss,pns,pas,psi,pon⟩:=p
 obtain ⟨knm,kpo,kge,⟨kot,koz,kok⟩,kpr,kc0,kc1,kos,ktr,kid,kph,kbo,kma⟩:=c
 obtain ⟨xprs,hxprs⟩:∃ xs,xs=prs.map reqD:=⟨_,rfl⟩
 have cxprs:CleanL xprs:=by rw [hxprs];exact ykY _
 obtain ⟨xpts,hxpts⟩:∃ xs,xs=pts.map tolD:=⟨_,rfl⟩
 have cxpts:CleanL xpts:=by rw [hxpts];exact yqY _
 obtain ⟨xpss,hxpss⟩:∃ xs,xs=pss.map sprD:=⟨_,rfl⟩
 have cxpss:CleanL xpss:=by rw [hxpss];exact yrY _
 obtain ⟨xpns,hxpns⟩:∃ xs,xs=pns.map labD:=⟨_,rfl⟩
 have cxpns:CleanL xpns:=by rw [hxpns];exact y4Y _
 obtain ⟨xpas,hxpas⟩:∃ xs,xs=pas.map labD:=⟨_,rfl⟩
 have cxpas:CleanL xpas:=by rw [hxpas];exact y4Y _
 obtain ⟨xkos,hxkos⟩:∃ xs,xs=kos.map offD:=⟨_,rfl⟩
 have cxkos:CleanL xkos:=by rw [hxkos];exact y12Y _
 have hP:ygY s ⟨pnm,pap,pn0,pn1,ppr,prs,pts,pss,pns,pas,psi,pon⟩ ⟨knm,kpo,kge,⟨kot,koz,kok⟩,kpr,kc0,kc1,kos,ktr,kid,kph,kbo,kma⟩=.agg (pB s ty po pl cl cm co is no pnm pap pn0 pn1 ppr xprs xpts xpss xpns xpas psi pon knm kpo kge kot koz kok kpr kc0 kc1 xkos ktr kid kph kbo kma):=by
  rw [hce.ty,hce.po,hce.pl,hce.cl,hce.cm,hce.co,hce.is,hce.no,hxprs,hxpts,hxpss,hxpns,hxpas,hxkos]
  rfl
 rw [hP]
 clear hP hce hsn
 obtain ⟨qnm,qap,qn0,qn1,qpr,qrs,qts,qss,qns,qas,qsi,qon⟩:=q
 simp only [podD,podC] at hr ⊢
 obtain ⟨xqrs,hxqrs⟩:∃ xs,xs=qrs.map reqD:=⟨_,rfl⟩
 have cxqrs:CleanL xqrs:=by rw [hxqrs];exact ykY _
 simp only [←hxqrs] at hr ⊢
 obtain ⟨xqts,hxqts⟩:∃ xs,xs=qts.map tolD:=⟨_,rfl⟩
 have cxqts:CleanL xqts:=by rw [hxqts];exact yqY _
 simp only [←hxqts] at hr ⊢
 obtain ⟨xqss,hxqss⟩:∃ xs,xs=qss.map sprD:=⟨_,rfl⟩
 have cxqss:CleanL xqss:=by rw [hxqss];exact yrY _
 simp only [←hxqss] at hr ⊢
 obtain ⟨xqns,hxqns⟩:∃ xs,xs=qns.map labD:=⟨_,rfl⟩
 have cxqns:CleanL xqns:=by rw [hxqns];exact y4Y _
 simp only [←hxqns] at hr ⊢
 obtain ⟨xqas,hxqas⟩:∃ xs,xs=qas.map labD:=⟨_,rfl⟩
 have cxqas:CleanL xqas:=by rw [hxqas];exact y4Y _
 simp only [←hxqas] at hr ⊢
 obtain ⟨ynm,ypo,yge,⟨yot,yoz,yok⟩,ypr,yc0,yc1,yos,ytr,yid,yph,ybo,yma⟩:=y
 simp only [ybY,y1gY] at hr ⊢
 obtain ⟨xyos,hxyos⟩:∃ xs,xs=yos.map offD:=⟨_,rfl⟩
 have cxyos:CleanL xyos:=by rw [hxyos];exact y12Y _
 simp only [←hxyos] at hr ⊢
 refine y0Y ⟨rfl,by decide⟩ fun O hO V hV=>?_
 subst hV
 conv=>cbv
 repeat' (rintro (_|_) h<;>(first|replace h:=ci hO h|replace h:=cs hO h)<;>(dsimp only [CmpI,CmpS] at h)<;>(conv=>cbv))
 all_goals (rw [hr];simp_all)
theorem yocY (R:Ans) (s:SnapV) (p:PodV) (c:ClaimV) (key:Str) (q:PodV) (h:R.v 169 [.sl 15 false (s.claims.map ybY),.fn 170 [] [.vptr (podD q) 0,.vptr (.agg [mkS key]) 0,.vptr (ygY s p c) 0]] (.bool (hereB s c key q))):AnsF R c111 [ygY s p c,mkS key,podD q] (.bool (hereB s c key q)):=by
 obtain ⟨r,hr⟩:∃ r,r=hereB s c key q:=⟨_,rfl⟩
 rw [←hr] at h ⊢
 clear hr
 obtain ⟨ty,po,pl,cl,cm,co,is,no,hce,hsn,cty,cpo,cpl,ccl,ccm,cco,cis,cno⟩:=ytY s
 obtain ⟨pnm,pap,pn0,pn1,ppr,prs,pts,pss,pns,pas,psi,pon⟩:=p
 obtain ⟨knm,kpo,kge,⟨kot,koz,kok⟩,kpr,kc0,kc1,kos,ktr,kid,kph,kbo,kma⟩:=c
 obtain ⟨xprs,hxprs⟩:∃ xs,xs=prs.map reqD:=⟨_,rfl⟩
 have cxprs:CleanL xprs:=by rw [hxprs];exact ykY _
 obtain ⟨xpts,hxpts⟩:∃ xs,xs=pts.map tolD:=⟨_,rfl⟩
 have cxpts:CleanL xpts:=by rw [hxpts];exact yqY _
 obtain ⟨xpss,hxpss⟩:∃ xs,xs=pss.map sprD:=⟨_,rfl⟩
 have cxpss:CleanL xpss:=by rw [hxpss];exact yrY _
 obtain ⟨xpns,hxpns⟩:∃ xs,xs=pns.map labD:=⟨_,rfl⟩
 have cxpns:CleanL xpns:=by rw [hxpns];exact y4Y _
 obtain ⟨xpas,hxpas⟩:∃ xs,xs=pas.map labD:=⟨_,rfl⟩
 have cxpas:CleanL xpas:=by rw [hxpas];exact y4Y _
 obtain ⟨xkos,hxkos⟩:∃ xs,xs=kos.map offD:=⟨_,rfl⟩
 have cxkos:CleanL xkos:=by rw [hxkos];exact y12Y _
 have hP:ygY s ⟨pnm,pap,pn0,pn1,ppr,prs,pts,pss,pns,pas,psi,pon⟩ ⟨knm,kpo,kge,⟨kot,koz,kok⟩,kpr,kc0,kc1,kos,ktr,kid,kph,kbo,kma⟩=.agg (pB s ty po pl cl cm co is no pnm pap pn0 pn1 ppr xprs xpts xpss xpns xpas psi pon knm kpo kge kot koz kok kpr kc0 kc1 xkos ktr kid kph kbo kma):=by
  rw [hce.ty,hce.po,hce.pl,hce.cl,hce.cm,hce.co,hce.is,hce.no,hxprs,hxpts,hxpss,hxpns,hxpas,hxkos]
  rfl
 rw [hP] at h ⊢
 rw [←hce.cl] at h
 clear hP hce hsn
 obtain ⟨qnm,qap,qn0,qn1,qpr,qrs,qts,qss,qns,qas,qsi,qon⟩:=q
 simp only [podD,podC] at h ⊢
 obtain ⟨xqrs,hxqrs⟩:∃ xs,xs=qrs.map reqD:=⟨_,rfl⟩
 have cxqrs:CleanL xqrs:=by rw [hxqrs];exact ykY _
 simp only [←hxqrs] at h ⊢
 obtain ⟨xqts,hxqts⟩:∃ xs,xs=qts.map tolD:=⟨_,rfl⟩
 have cxqts:CleanL xqts:=by rw [hxqts];exact yqY _
 simp only [←hxqts] at h ⊢
 obtain ⟨xqss,hxqss⟩:∃ xs,xs=qss.map sprD:=⟨_,rfl⟩
 have cxqss:CleanL xqss:=by rw [hxqss];exact yrY _
 simp only [←hxqss] at h ⊢
 obtain ⟨xqns,hxqns⟩:∃ xs,xs=qns.map labD:=⟨_,rfl⟩
 have cxqns:CleanL xqns:=by rw [hxqns];exact y4Y _
 simp only [←hxqns] at h ⊢
 obtain ⟨xqas,hxqas⟩:∃ xs,xs=qas.map labD:=⟨_,rfl⟩
 have cxqas:CleanL xqas:=by rw [hxqas];exact y4Y _
 simp only [←hxqas] at h ⊢
 refine y0Y ⟨rfl,by decide⟩ fun O hO V hV=>?_
 subst hV
 conv=>cbv
 repeat' (refine And.intro (by first|assumption|exact ⟨rfl⟩|exact ⟨rfl,rfl⟩) ?_)
 refine ⟨_,h,?_⟩
 conv=>cbv
 all_goals (first|trivial|rfl)
theorem yodY (R:Ans) (q:PodV) (t:LabV) (s:SnapV) (p:PodV) (c:ClaimV) (h:R.v 111 [ygY s p c,mkS t.k,podD q] (.bool (hereB s c t.k q))):AnsF R c113 [podD q,.vptr (labD t) 0,.vptr (ygY s p c) 0] (.bool (decide (q.app=t.v)&&hereB s c t.k q)):=by
 obtain ⟨b,hb⟩:∃ r,r=hereB s c t.k q:=⟨_,rfl⟩
 rw [←hb] at h ⊢
 clear hb
 obtain ⟨r,hr⟩:∃ r,r=(decide (q.app=t.v)&&b):=⟨_,rfl⟩
 rw [←hr]
 obtain ⟨ty,po,pl,cl,cm,co,is,no,hce,hsn,cty,cpo,cpl,ccl,ccm,cco,cis,cno⟩:=ytY s
 obtain ⟨pnm,pap,pn0,pn1,ppr,prs,pts,pss,pns,pas,psi,pon⟩:=p
 obtain ⟨knm,kpo,kge,⟨kot,koz,kok⟩,kpr,kc0,kc1,kos,ktr,kid,kph,kbo,kma⟩:=c
 obtain ⟨xprs,hxprs⟩:∃ xs,xs=prs.map reqD:=⟨_,rfl⟩
 have cxprs:CleanL xprs:=by rw [hxprs];exact ykY _
 obtain ⟨xpts,hxpts⟩:∃ xs,xs=pts.map tolD:=⟨_,rfl⟩
 have cxpts:CleanL xpts:=by rw [hxpts];exact yqY _
 obtain ⟨xpss,hxpss⟩:∃ xs,xs=pss.map sprD:=⟨_,rfl⟩
 have cxpss:CleanL xpss:=by rw [hxpss];exact yrY _
 obtain ⟨xpns,hxpns⟩:∃ xs,xs=pns.map labD:=⟨_,rfl⟩
 have cxpns:CleanL xpns:=by rw [hxpns];exact y4Y _
 obtain ⟨xpas,hxpas⟩:∃ xs,xs=pas.map labD:=⟨_,rfl⟩
 have cxpas:CleanL xpas:=by rw [hxpas];exact y4Y _
 obtain ⟨xkos,hxkos⟩:∃ xs,xs=kos.map offD:=⟨_,rfl⟩
 have cxkos:CleanL xkos:=by rw [hxkos];exact y12Y _
 have hP:ygY s ⟨pnm,pap,pn0,pn1,ppr,prs,pts,pss,pns,pas,psi,pon⟩ ⟨knm,kpo,kge,⟨kot,koz,kok⟩,kpr,kc0,kc1,kos,ktr,kid,kph,kbo,kma⟩=.agg (pB s ty po pl cl cm co is no pnm pap pn0 pn1 ppr xprs xpts xpss xpns xpas psi pon knm kpo kge kot koz kok kpr kc0 kc1 xkos ktr kid kph kbo kma):=by
  rw [hce.ty,hce.po,hce.pl,hce.cl,hce.cm,hce.co,hce.is,hce.no,hxprs,hxpts,hxpss,hxpns,hxpas,hxkos]
  rfl
 rw [hP] at h ⊢
 clear hP hce hsn
 obtain ⟨qnm,qap,qn0,qn1,qpr,qrs,qts,qss,qns,qas,qsi,qon⟩:=q
 simp only [podD,podC] at h hr ⊢
 obtain ⟨xqrs,hxqrs⟩:∃ xs,xs=qrs.map reqD:=⟨_,rfl⟩
 have cxqrs:CleanL xqrs:=by rw [hxqrs];exact ykY _
 simp only [←hxqrs] at h hr ⊢
 obtain ⟨xqts,hxqts⟩:∃ xs,xs=qts.map tolD:=⟨_,rfl⟩
 have cxqts:CleanL xqts:=by rw [hxqts];exact yqY _
 simp only [←hxqts] at h hr ⊢
 obtain ⟨xqss,hxqss⟩:∃ xs,xs=qss.map sprD:=⟨_,rfl⟩
 have cxqss:CleanL xqss:=by rw [hxqss];exact yrY _
 simp only [←hxqss] at h hr ⊢
 obtain ⟨xqns,hxqns⟩:∃ xs,xs=qns.map labD:=⟨_,rfl⟩
 have cxqns:CleanL xqns:=by rw [hxqns];exact y4Y _
 simp only [←hxqns] at h hr ⊢
 obtain ⟨xqas,hxqas⟩:∃ xs,xs=qas.map labD:=⟨_,rfl⟩
 have cxqas:CleanL xqas:=by rw [hxqas];exact y4Y _
 simp only [←hxqas] at h hr ⊢
 obtain ⟨tk,tv⟩:=t
 simp only [labD] at h hr ⊢
 refine y0Y ⟨rfl,by decide⟩ fun O hO V hV=>?_
 subst hV
 conv=>cbv
 rintro (_|_) h2<;>replace h2:=cs hO h2<;>dsimp only [CmpS] at h2<;>(conv=>cbv)
 ·rw [hr];simp [h2]
 repeat' (refine And.intro (by first|assumption|exact ⟨rfl⟩|exact ⟨rfl,rfl⟩) ?_)
 refine ⟨_,h,?_⟩
 conv=>cbv
 rw [hr];simp [h2]
theorem yoeY (R:Ans) (q:PodV) (t:LabV) (s:SnapV) (p:PodV) (c:ClaimV) (h:R.v 111 [ygY s p c,mkS t.k,podD q] (.bool (hereB s c t.k q))):AnsF R c115 [labD t,.vptr (ygY s p c) 0,.vptr (podD q) 0] (.bool (decide (t.v=p.app)&&hereB s c t.k q)):=by
 obtain ⟨b,hb⟩:∃ r,r=hereB s c t.k q:=⟨_,rfl⟩
 rw [←hb] at h ⊢
 clear hb
 obtain ⟨r,hr⟩:∃ r,r=(decide (t.v=p.app)&&b):=⟨_,rfl⟩
 rw [←hr]
 obtain ⟨ty,po,pl,cl,cm,co,is,no,hce,hsn,cty,cpo,cpl,ccl,ccm,cco,cis,cno⟩:=ytY s
 obtain ⟨pnm,pap,pn0,pn1,ppr,prs,pts,pss,pns,pas,psi,pon⟩:=p
 obtain ⟨knm,kpo,kge,⟨kot,koz,kok⟩,kpr,kc0,kc1,kos,ktr,kid,kph,kbo,kma⟩:=c
 obtain ⟨xprs,hxprs⟩:∃ xs,xs=prs.map reqD:=⟨_,rfl⟩
 have cxprs:CleanL xprs:=by rw [hxprs];exact ykY _
 obtain ⟨xpts,hxpts⟩:∃ xs,xs=pts.map tolD:=⟨_,rfl⟩
 have cxpts:CleanL xpts:=by rw [hxpts];exact yqY _
 obtain ⟨xpss,hxpss⟩:∃ xs,xs=pss.map sprD:=⟨_,rfl⟩
 have cxpss:CleanL xpss:=by rw [hxpss];exact yrY _
 obtain ⟨xpns,hxpns⟩:∃ xs,xs=pns.map labD:=⟨_,rfl⟩
 have cxpns:CleanL xpns:=by rw [hxpns];exact y4Y _
 obtain ⟨xpas,hxpas⟩:∃ xs,xs=pas.map labD:=⟨_,rfl⟩
 have cxpas:CleanL xpas:=by rw [hxpas];exact y4Y _
 obtain ⟨xkos,hxkos⟩:∃ xs,xs=kos.map offD:=⟨_,rfl⟩
 have cxkos:CleanL xkos:=by rw [hxkos];exact y12Y _
 have hP:ygY s ⟨pnm,pap,pn0,pn1,ppr,prs,pts,pss,pns,pas,psi,pon⟩ ⟨knm,kpo,kge,⟨kot,koz,kok⟩,kpr,kc0,kc1,kos,ktr,kid,kph,kbo,kma⟩=.agg (pB s ty po pl cl cm co is no pnm pap pn0 pn1 ppr xprs xpts xpss xpns xpas psi pon knm kpo kge kot koz kok kpr kc0 kc1 xkos ktr kid kph kbo kma):=by
  rw [hce.ty,hce.po,hce.pl,hce.cl,hce.cm,hce.co,hce.is,hce.no,hxprs,hxpts,hxpss,hxpns,hxpas,hxkos]
  rfl
 rw [hP] at h ⊢
 clear hP hce hsn
 simp only at hr
 obtain ⟨qnm,qap,qn0,qn1,qpr,qrs,qts,qss,qns,qas,qsi,qon⟩:=q
 simp only [podD,podC] at h ⊢
 obtain ⟨xqrs,hxqrs⟩:∃ xs,xs=qrs.map reqD:=⟨_,rfl⟩
 have cxqrs:CleanL xqrs:=by rw [hxqrs];exact ykY _
 simp only [←hxqrs] at h ⊢
 obtain ⟨xqts,hxqts⟩:∃ xs,xs=qts.map tolD:=⟨_,rfl⟩
 have cxqts:CleanL xqts:=by rw [hxqts];exact yqY _
 simp only [←hxqts] at h ⊢
 obtain ⟨xqss,hxqss⟩:∃ xs,xs=qss.map sprD:=⟨_,rfl⟩
 have cxqss:CleanL xqss:=by rw [hxqss];exact yrY _
 simp only [←hxqss] at h ⊢
 obtain ⟨xqns,hxqns⟩:∃ xs,xs=qns.map labD:=⟨_,rfl⟩
 have cxqns:CleanL xqns:=by rw [hxqns];exact y4Y _
 simp only [←hxqns] at h ⊢
 obtain ⟨xqas,hxqas⟩:∃ xs,xs=qas.map labD:=⟨_,rfl⟩
 have cxqas:CleanL xqas:=by rw [hxqas];exact y4Y _
 simp only [←hxqas] at h ⊢
 obtain ⟨tk,tv⟩:=t
 simp only [labD] at h hr ⊢
 refine y0Y ⟨rfl,by decide⟩ fun O hO V hV=>?_
 subst hV
 conv=>cbv
 rintro (_|_) h2<;>replace h2:=cs hO h2<;>dsimp only [CmpS] at h2<;>(conv=>cbv)
 ·rw [hr];simp [h2]
 repeat' (refine And.intro (by first|assumption|exact ⟨rfl⟩|exact ⟨rfl,rfl⟩) ?_)
 refine ⟨_,h,?_⟩
 conv=>cbv
 rw [hr];simp [h2]
theorem yofY (R:Ans) (s:SnapV) (p:PodV) (c:ClaimV) (t:LabV) (h63:R.v 63 [ygY s p c] (.sl 12 false ((ysY s p.name).map podD))) (h112:R.v 112 [.sl 12 false ((ysY s p.name).map podD),.fn 113 [] [.vptr (labD t) 0,.vptr (ygY s p c) 0]] (.bool ((ysY s p.name).any fun q=>decide (q.app=t.v)&&hereB s c t.k q))):AnsF R c61 [ygY s p c,labD t] (.bool (y2oY s c p t)):=by
 unfold y2oY
 obtain ⟨b,hb⟩:∃ r,r=(ysY s p.name).any fun q=>decide (q.app=t.v)&&hereB s c t.k q:=⟨_,rfl⟩
 rw [←hb] at h112 ⊢
 clear hb
 obtain ⟨os,hos⟩:∃ os,os=(ysY s p.name).map podD:=⟨_,rfl⟩
 have cos:CleanL os:=by rw [hos];exact y1iY _
 rw [←hos] at h63 h112
 clear hos
 obtain ⟨ty,po,pl,cl,cm,co,is,no,hce,hsn,cty,cpo,cpl,ccl,ccm,cco,cis,cno⟩:=ytY s
 obtain ⟨pnm,pap,pn0,pn1,ppr,prs,pts,pss,pns,pas,psi,pon⟩:=p
 obtain ⟨knm,kpo,kge,⟨kot,koz,kok⟩,kpr,kc0,kc1,kos,ktr,kid,kph,kbo,kma⟩:=c
 obtain ⟨xprs,hxprs⟩:∃ xs,xs=prs.map reqD:=⟨_,rfl⟩
 have cxprs:CleanL xprs:=by rw [hxprs];exact ykY _
 obtain ⟨xpts,hxpts⟩:∃ xs,xs=pts.map tolD:=⟨_,rfl⟩
 have cxpts:CleanL xpts:=by rw [hxpts];exact yqY _
 obtain ⟨xpss,hxpss⟩:∃ xs,xs=pss.map sprD:=⟨_,rfl⟩
 have cxpss:CleanL xpss:=by rw [hxpss];exact yrY _
 obtain ⟨xpns,hxpns⟩:∃ xs,xs=pns.map labD:=⟨_,rfl⟩
 have cxpns:CleanL xpns:=by rw [hxpns];exact y4Y _
 obtain ⟨xpas,hxpas⟩:∃ xs,xs=pas.map labD:=⟨_,rfl⟩
 have cxpas:CleanL xpas:=by rw [hxpas];exact y4Y _
 obtain ⟨xkos,hxkos⟩:∃ xs,xs=kos.map offD:=⟨_,rfl⟩
 have cxkos:CleanL xkos:=by rw [hxkos];exact y12Y _
 have hP:ygY s ⟨pnm,pap,pn0,pn1,ppr,prs,pts,pss,pns,pas,psi,pon⟩ ⟨knm,kpo,kge,⟨kot,koz,kok⟩,kpr,kc0,kc1,kos,ktr,kid,kph,kbo,kma⟩=.agg (pB s ty po pl cl cm co is no pnm pap pn0 pn1 ppr xprs xpts xpss xpns xpas psi pon knm kpo kge kot koz kok kpr kc0 kc1 xkos ktr kid kph kbo kma):=by
  rw [hce.ty,hce.po,hce.pl,hce.cl,hce.cm,hce.co,hce.is,hce.no,hxprs,hxpts,hxpss,hxpns,hxpas,hxkos]
  rfl
 rw [hP] at h63 h112 ⊢
 clear hP hce hsn
 obtain ⟨tk,tv⟩:=t
 simp only [labD] at h112 ⊢
 refine y0Y ⟨rfl,by decide⟩ fun O hO V hV=>?_
 subst hV
 conv=>cbv
 repeat' (first|(refine And.intro (by first|assumption|exact ⟨by omega⟩|exact ⟨rfl⟩|exact ⟨rfl,rfl⟩) ?_)|(intro (g:Nat);(conv=>cbv)))
 refine ⟨_,h63,?_⟩
 conv=>cbv
 repeat' (first|(refine And.intro (by first|assumption|exact ⟨by omega⟩|exact ⟨rfl⟩|exact ⟨rfl,rfl⟩) ?_)|(intro (g:Nat);(conv=>cbv)))
 refine ⟨_,h112,?_⟩
 conv=>cbv
 cases b<;>rfl
theorem yogY (R:Ans) (s:SnapV) (p:PodV) (c:ClaimV) (q:PodV) (h109:R.v 109 [.sl 2 false (q.apart.map labD),.fn 115 [] [.vptr (ygY s p c) 0,.vptr (podD q) 0]] (.bool (q.apart.any fun t=>decide (t.v=p.app)&&hereB s c t.k q))):AnsF R c64 [ygY s p c,podD q] (.bool (y2xY s c p q)):=by
 unfold y2xY
 obtain ⟨b,hb⟩:∃ r,r=q.apart.any fun t=>decide (t.v=p.app)&&hereB s c t.k q:=⟨_,rfl⟩
 rw [←hb] at h109 ⊢
 clear hb
 obtain ⟨ty,po,pl,cl,cm,co,is,no,hce,hsn,cty,cpo,cpl,ccl,ccm,cco,cis,cno⟩:=ytY s
 obtain ⟨pnm,pap,pn0,pn1,ppr,prs,pts,pss,pns,pas,psi,pon⟩:=p
 obtain ⟨knm,kpo,kge,⟨kot,koz,kok⟩,kpr,kc0,kc1,kos,ktr,kid,kph,kbo,kma⟩:=c
 obtain ⟨xprs,hxprs⟩:∃ xs,xs=prs.map reqD:=⟨_,rfl⟩
 have cxprs:CleanL xprs:=by rw [hxprs];exact ykY _
 obtain ⟨xpts,hxpts⟩:∃ xs,xs=pts.map tolD:=⟨_,rfl⟩
 have cxpts:CleanL xpts:=by rw [hxpts];exact yqY _
 obtain ⟨xpss,hxpss⟩:∃ xs,xs=pss.map sprD:=⟨_,rfl⟩
 have cxpss:CleanL xpss:=by rw [hxpss];exact yrY _
 obtain ⟨xpns,hxpns⟩:∃ xs,xs=pns.map labD:=⟨_,rfl⟩
 have cxpns:CleanL xpns:=by rw [hxpns];exact y4Y _
 obtain ⟨xpas,hxpas⟩:∃ xs,xs=pas.map labD:=⟨_,rfl⟩
 have cxpas:CleanL xpas:=by rw [hxpas];exact y4Y _
 obtain ⟨xkos,hxkos⟩:∃ xs,xs=kos.map offD:=⟨_,rfl⟩
 have cxkos:CleanL xkos:=by rw [hxkos];exact y12Y _
 have hP:ygY s ⟨pnm,pap,pn0,pn1,ppr,prs,pts,pss,pns,pas,psi,pon⟩ ⟨knm,kpo,kge,⟨kot,koz,kok⟩,kpr,kc0,kc1,kos,ktr,kid,kph,kbo,kma⟩=.agg (pB s ty po pl cl cm co is no pnm pap pn0 pn1 ppr xprs xpts xpss xpns xpas psi pon knm kpo kge kot koz kok kpr kc0 kc1 xkos ktr kid kph kbo kma):=by
  rw [hce.ty,hce.po,hce.pl,hce.cl,hce.cm,hce.co,hce.is,hce.no,hxprs,hxpts,hxpss,hxpns,hxpas,hxkos]
  rfl
 rw [hP] at h109 ⊢
 clear hP hce hsn
 obtain ⟨qnm,qap,qn0,qn1,qpr,qrs,qts,qss,qns,qas,qsi,qon⟩:=q
 simp only [podD,podC] at h109 ⊢
 obtain ⟨xqrs,hxqrs⟩:∃ xs,xs=qrs.map reqD:=⟨_,rfl⟩
 have cxqrs:CleanL xqrs:=by rw [hxqrs];exact ykY _
 simp only [←hxqrs] at h109 ⊢
 obtain ⟨xqts,hxqts⟩:∃ xs,xs=qts.map tolD:=⟨_,rfl⟩
 have cxqts:CleanL xqts:=by rw [hxqts];exact yqY _
 simp only [←hxqts] at h109 ⊢
 obtain ⟨xqss,hxqss⟩:∃ xs,xs=qss.map sprD:=⟨_,rfl⟩
 have cxqss:CleanL xqss:=by rw [hxqss];exact yrY _
 simp only [←hxqss] at h109 ⊢
 obtain ⟨xqns,hxqns⟩:∃ xs,xs=qns.map labD:=⟨_,rfl⟩
 have cxqns:CleanL xqns:=by rw [hxqns];exact y4Y _
 simp only [←hxqns] at h109 ⊢
 obtain ⟨xqas,hxqas⟩:∃ xs,xs=qas.map labD:=⟨_,rfl⟩
 have cxqas:CleanL xqas:=by rw [hxqas];exact y4Y _
 simp only [←hxqas] at h109 ⊢
 refine y0Y ⟨rfl,by decide⟩ fun O hO V hV=>?_
 subst hV
 conv=>cbv
 repeat' (first|(refine And.intro (by first|assumption|exact ⟨by omega⟩|exact ⟨rfl⟩|exact ⟨rfl,rfl⟩) ?_)|(intro (g:Nat);(conv=>cbv)))
 refine ⟨_,h109,?_⟩
 conv=>cbv
 cases b<;>rfl
theorem yohY (R:Ans) (y:LabV) (g:Nat) (s:SnapV) (p:PodV) (c:ClaimV) (b:Bool) (h:R.v g [ygY s p c,labD y] (.bool b)):AnsF R c110 [labD y,.vptr (.agg [.fn g [ygY s p c] []]) 0] (.bool (!b)):=by
 obtain ⟨ty,po,pl,cl,cm,co,is,no,hce,hsn,cty,cpo,cpl,ccl,ccm,cco,cis,cno⟩:=ytY s
 obtain ⟨pnm,pap,pn0,pn1,ppr,prs,pts,pss,pns,pas,psi,pon⟩:=p
 obtain ⟨knm,kpo,kge,⟨kot,koz,kok⟩,kpr,kc0,kc1,kos,ktr,kid,kph,kbo,kma⟩:=c
 obtain ⟨xprs,hxprs⟩:∃ xs,xs=prs.map reqD:=⟨_,rfl⟩
 have cxprs:CleanL xprs:=by rw [hxprs];exact ykY _
 obtain ⟨xpts,hxpts⟩:∃ xs,xs=pts.map tolD:=⟨_,rfl⟩
 have cxpts:CleanL xpts:=by rw [hxpts];exact yqY _
 obtain ⟨xpss,hxpss⟩:∃ xs,xs=pss.map sprD:=⟨_,rfl⟩
 have cxpss:CleanL xpss:=by rw [hxpss];exact yrY _
 obtain ⟨xpns,hxpns⟩:∃ xs,xs=pns.map labD:=⟨_,rfl⟩
 have cxpns:CleanL xpns:=by rw [hxpns];exact y4Y _
 obtain ⟨xpas,hxpas⟩:∃ xs,xs=pas.map labD:=⟨_,rfl⟩
 have cxpas:CleanL xpas:=by rw [hxpas];exact y4Y _
 obtain ⟨xkos,hxkos⟩:∃ xs,xs=kos.map offD:=⟨_,rfl⟩
 have cxkos:CleanL xkos:=by rw [hxkos];exact y12Y _
 have hP:ygY s ⟨pnm,pap,pn0,pn1,ppr,prs,pts,pss,pns,pas,psi,pon⟩ ⟨knm,kpo,kge,⟨kot,koz,kok⟩,kpr,kc0,kc1,kos,ktr,kid,kph,kbo,kma⟩=.agg (pB s ty po pl cl cm co is no pnm pap pn0 pn1 ppr xprs xpts xpss xpns xpas psi pon knm kpo kge kot koz kok kpr kc0 kc1 xkos ktr kid kph kbo kma):=by
  rw [hce.ty,hce.po,hce.pl,hce.cl,hce.cm,hce.co,hce.is,hce.no,hxprs,hxpts,hxpss,hxpns,hxpas,hxkos]
  rfl
 rw [hP] at h ⊢
 clear hP hce hsn
 obtain ⟨yk,yv⟩:=y
 simp only [labD] at h ⊢
 refine y0Y ⟨rfl,by decide⟩ fun O hO V hV=>?_
 subst hV
 conv=>cbv
 repeat' (first|(refine And.intro (by first|assumption|exact ⟨by omega⟩|exact ⟨rfl⟩|exact ⟨rfl,rfl⟩) ?_)|(intro (g:Nat);(conv=>cbv)))
 refine ⟨_,h,?_⟩
 conv=>cbv
 cases b<;>rfl
theorem yoiY (R:Ans) (xs:List D) (cx:CleanL xs) (g:Nat) (s:SnapV) (p:PodV) (c:ClaimV) (b:Bool) (h:R.v 109 [.sl 2 false xs,.fn 110 [] [.vptr (.agg [.fn g [ygY s p c] []]) 0]] (.bool b)):AnsF R c56 [.sl 2 false xs,.fn g [ygY s p c] []] (.bool (!b)):=by
 obtain ⟨ty,po,pl,cl,cm,co,is,no,hce,hsn,cty,cpo,cpl,ccl,ccm,cco,cis,cno⟩:=ytY s
 obtain ⟨pnm,pap,pn0,pn1,ppr,prs,pts,pss,pns,pas,psi,pon⟩:=p
 obtain ⟨knm,kpo,kge,⟨kot,koz,kok⟩,kpr,kc0,kc1,kos,ktr,kid,kph,kbo,kma⟩:=c
 obtain ⟨xprs,hxprs⟩:∃ xs,xs=prs.map reqD:=⟨_,rfl⟩
 have cxprs:CleanL xprs:=by rw [hxprs];exact ykY _
 obtain ⟨xpts,hxpts⟩:∃ xs,xs=pts.map tolD:=⟨_,rfl⟩
 have cxpts:CleanL xpts:=by rw [hxpts];exact yqY _
 obtain ⟨xpss,hxpss⟩:∃ xs,xs=pss.map sprD:=⟨_,rfl⟩
 have cxpss:CleanL xpss:=by rw [hxpss];exact yrY _
 obtain ⟨xpns,hxpns⟩:∃ xs,xs=pns.map labD:=⟨_,rfl⟩
 have cxpns:CleanL xpns:=by rw [hxpns];exact y4Y _
 obtain ⟨xpas,hxpas⟩:∃ xs,xs=pas.map labD:=⟨_,rfl⟩
 have cxpas:CleanL xpas:=by rw [hxpas];exact y4Y _
 obtain ⟨xkos,hxkos⟩:∃ xs,xs=kos.map offD:=⟨_,rfl⟩
 have cxkos:CleanL xkos:=by rw [hxkos];exact y12Y _
 have hP:ygY s ⟨pnm,pap,pn0,pn1,ppr,prs,pts,pss,pns,pas,psi,pon⟩ ⟨knm,kpo,kge,⟨kot,koz,kok⟩,kpr,kc0,kc1,kos,ktr,kid,kph,kbo,kma⟩=.agg (pB s ty po pl cl cm co is no pnm pap pn0 pn1 ppr xprs xpts xpss xpns xpas psi pon knm kpo kge kot koz kok kpr kc0 kc1 xkos ktr kid kph kbo kma):=by
  rw [hce.ty,hce.po,hce.pl,hce.cl,hce.cm,hce.co,hce.is,hce.no,hxprs,hxpts,hxpss,hxpns,hxpas,hxkos]
  rfl
 rw [hP] at h ⊢
 clear hP hce hsn
 refine y0Y ⟨rfl,by decide⟩ fun O hO V hV=>?_
 subst hV
 conv=>cbv
 repeat' (first|(refine And.intro (by first|assumption|exact ⟨by omega⟩|exact ⟨rfl⟩|exact ⟨rfl,rfl⟩) ?_)|(intro (g:Nat);(conv=>cbv)))
 refine ⟨_,h,?_⟩
 conv=>cbv
 cases b<;>rfl
theorem yojY (R:Ans) (y:PodV) (g:Nat) (s:SnapV) (p:PodV) (c:ClaimV) (b:Bool) (h:R.v g [ygY s p c,podD y] (.bool b)):AnsF R c114 [podD y,.vptr (.agg [.fn g [ygY s p c] []]) 0] (.bool (!b)):=by
 obtain ⟨ty,po,pl,cl,cm,co,is,no,hce,hsn,cty,cpo,cpl,ccl,ccm,cco,cis,cno⟩:=ytY s
 obtain ⟨pnm,pap,pn0,pn1,ppr,prs,pts,pss,pns,pas,psi,pon⟩:=p
 obtain ⟨knm,kpo,kge,⟨kot,koz,kok⟩,kpr,kc0,kc1,kos,ktr,kid,kph,kbo,kma⟩:=c
 obtain ⟨xprs,hxprs⟩:∃ xs,xs=prs.map reqD:=⟨_,rfl⟩
 have cxprs:CleanL xprs:=by rw [hxprs];exact ykY _
 obtain ⟨xpts,hxpts⟩:∃ xs,xs=pts.map tolD:=⟨_,rfl⟩
 have cxpts:CleanL xpts:=by rw [hxpts];exact yqY _
 obtain ⟨xpss,hxpss⟩:∃ xs,xs=pss.map sprD:=⟨_,rfl⟩
 have cxpss:CleanL xpss:=by rw [hxpss];exact yrY _
 obtain ⟨xpns,hxpns⟩:∃ xs,xs=pns.map labD:=⟨_,rfl⟩
 have cxpns:CleanL xpns:=by rw [hxpns];exact y4Y _
 obtain ⟨xpas,hxpas⟩:∃ xs,xs=pas.map labD:=⟨_,rfl⟩
 have cxpas:CleanL xpas:=by rw [hxpas];exact y4Y _
 obtain ⟨xkos,hxkos⟩:∃ xs,xs=kos.map offD:=⟨_,rfl⟩
 have cxkos:CleanL xkos:=by rw [hxkos];exact y12Y _
 have hP:ygY s ⟨pnm,pap,pn0,pn1,ppr,prs,pts,pss,pns,pas,psi,pon⟩ ⟨knm,kpo,kge,⟨kot,koz,kok⟩,kpr,kc0,kc1,kos,ktr,kid,kph,kbo,kma⟩=.agg (pB s ty po pl cl cm co is no pnm pap pn0 pn1 ppr xprs xpts xpss xpns xpas psi pon knm kpo kge kot koz kok kpr kc0 kc1 xkos ktr kid kph kbo kma):=by
  rw [hce.ty,hce.po,hce.pl,hce.cl,hce.cm,hce.co,hce.is,hce.no,hxprs,hxpts,hxpss,hxpns,hxpas,hxkos]
  rfl
 rw [hP] at h ⊢
 clear hP hce hsn
 obtain ⟨ynm,yap,yn0,yn1,ypr,yrs,yts,yss,yns,yas,ysi,yon⟩:=y
 simp only [podD,podC] at h ⊢
 obtain ⟨xyrs,hxyrs⟩:∃ xs,xs=yrs.map reqD:=⟨_,rfl⟩
 have cxyrs:CleanL xyrs:=by rw [hxyrs];exact ykY _
 simp only [←hxyrs] at h ⊢
 obtain ⟨xyts,hxyts⟩:∃ xs,xs=yts.map tolD:=⟨_,rfl⟩
 have cxyts:CleanL xyts:=by rw [hxyts];exact yqY _
 simp only [←hxyts] at h ⊢
 obtain ⟨xyss,hxyss⟩:∃ xs,xs=yss.map sprD:=⟨_,rfl⟩
 have cxyss:CleanL xyss:=by rw [hxyss];exact yrY _
 simp only [←hxyss] at h ⊢
 obtain ⟨xyns,hxyns⟩:∃ xs,xs=yns.map labD:=⟨_,rfl⟩
 have cxyns:CleanL xyns:=by rw [hxyns];exact y4Y _
 simp only [←hxyns] at h ⊢
 obtain ⟨xyas,hxyas⟩:∃ xs,xs=yas.map labD:=⟨_,rfl⟩
 have cxyas:CleanL xyas:=by rw [hxyas];exact y4Y _
 simp only [←hxyas] at h ⊢
 refine y0Y ⟨rfl,by decide⟩ fun O hO V hV=>?_
 subst hV
 conv=>cbv
 repeat' (first|(refine And.intro (by first|assumption|exact ⟨by omega⟩|exact ⟨rfl⟩|exact ⟨rfl,rfl⟩) ?_)|(intro (g:Nat);(conv=>cbv)))
 refine ⟨_,h,?_⟩
 conv=>cbv
 cases b<;>rfl
theorem yokY (R:Ans) (xs:List D) (cx:CleanL xs) (g:Nat) (s:SnapV) (p:PodV) (c:ClaimV) (b:Bool) (h:R.v 112 [.sl 12 false xs,.fn 114 [] [.vptr (.agg [.fn g [ygY s p c] []]) 0]] (.bool b)):AnsF R c62 [.sl 12 false xs,.fn g [ygY s p c] []] (.bool (!b)):=by
 obtain ⟨ty,po,pl,cl,cm,co,is,no,hce,hsn,cty,cpo,cpl,ccl,ccm,cco,cis,cno⟩:=ytY s
 obtain ⟨pnm,pap,pn0,pn1,ppr,prs,pts,pss,pns,pas,psi,pon⟩:=p
 obtain ⟨knm,kpo,kge,⟨kot,koz,kok⟩,kpr,kc0,kc1,kos,ktr,kid,kph,kbo,kma⟩:=c
 obtain ⟨xprs,hxprs⟩:∃ xs,xs=prs.map reqD:=⟨_,rfl⟩
 have cxprs:CleanL xprs:=by rw [hxprs];exact ykY _
 obtain ⟨xpts,hxpts⟩:∃ xs,xs=pts.map tolD:=⟨_,rfl⟩
 have cxpts:CleanL xpts:=by rw [hxpts];exact yqY _
 obtain ⟨xpss,hxpss⟩:∃ xs,xs=pss.map sprD:=⟨_,rfl⟩
 have cxpss:CleanL xpss:=by rw [hxpss];exact yrY _
 obtain ⟨xpns,hxpns⟩:∃ xs,xs=pns.map labD:=⟨_,rfl⟩
 have cxpns:CleanL xpns:=by rw [hxpns];exact y4Y _
 obtain ⟨xpas,hxpas⟩:∃ xs,xs=pas.map labD:=⟨_,rfl⟩
 have cxpas:CleanL xpas:=by rw [hxpas];exact y4Y _
 obtain ⟨xkos,hxkos⟩:∃ xs,xs=kos.map offD:=⟨_,rfl⟩
 have cxkos:CleanL xkos:=by rw [hxkos];exact y12Y _
 have hP:ygY s ⟨pnm,pap,pn0,pn1,ppr,prs,pts,pss,pns,pas,psi,pon⟩ ⟨knm,kpo,kge,⟨kot,koz,kok⟩,kpr,kc0,kc1,kos,ktr,kid,kph,kbo,kma⟩=.agg (pB s ty po pl cl cm co is no pnm pap pn0 pn1 ppr xprs xpts xpss xpns xpas psi pon knm kpo kge kot koz kok kpr kc0 kc1 xkos ktr kid kph kbo kma):=by
  rw [hce.ty,hce.po,hce.pl,hce.cl,hce.cm,hce.co,hce.is,hce.no,hxprs,hxpts,hxpss,hxpns,hxpas,hxkos]
  rfl
 rw [hP] at h ⊢
 clear hP hce hsn
 refine y0Y ⟨rfl,by decide⟩ fun O hO V hV=>?_
 subst hV
 conv=>cbv
 repeat' (first|(refine And.intro (by first|assumption|exact ⟨by omega⟩|exact ⟨rfl⟩|exact ⟨rfl,rfl⟩) ?_)|(intro (g:Nat);(conv=>cbv)))
 refine ⟨_,h,?_⟩
 conv=>cbv
 cases b<;>rfl
theorem yolY (R:Ans) (s:SnapV) (hl:s.pods.length<=24) (p:PodV) (c:ClaimV):AnsF R c63 [ygY s p c] (.sl 12 false ((ysY s p.name).map podD)):=by
 obtain ⟨rs,hrs⟩:∃ r,r=(ysY s p.name).map podD:=⟨_,rfl⟩
 have crs:CleanL rs:=by rw [hrs];exact y1iY _
 rw [←hrs]
 unfold ysY at hrs
 obtain ⟨ty,po,pl,cl,cm,co,is,no,hce,hsn,cty,cpo,cpl,ccl,ccm,cco,cis,cno⟩:=ytY s
 obtain ⟨pnm,pap,pn0,pn1,ppr,prs,pts,pss,pns,pas,psi,pon⟩:=p
 obtain ⟨knm,kpo,kge,⟨kot,koz,kok⟩,kpr,kc0,kc1,kos,ktr,kid,kph,kbo,kma⟩:=c
 obtain ⟨xprs,hxprs⟩:∃ xs,xs=prs.map reqD:=⟨_,rfl⟩
 have cxprs:CleanL xprs:=by rw [hxprs];exact ykY _
 obtain ⟨xpts,hxpts⟩:∃ xs,xs=pts.map tolD:=⟨_,rfl⟩
 have cxpts:CleanL xpts:=by rw [hxpts];exact yqY _
 obtain ⟨xpss,hxpss⟩:∃ xs,xs=pss.map sprD:=⟨_,rfl⟩
 have cxpss:CleanL xpss:=by rw [hxpss];exact yrY _
 obtain ⟨xpns,hxpns⟩:∃ xs,xs=pns.map labD:=⟨_,rfl⟩
 have cxpns:CleanL xpns:=by rw [hxpns];exact y4Y _
 obtain ⟨xpas,hxpas⟩:∃ xs,xs=pas.map labD:=⟨_,rfl⟩
 have cxpas:CleanL xpas:=by rw [hxpas];exact y4Y _
 obtain ⟨xkos,hxkos⟩:∃ xs,xs=kos.map offD:=⟨_,rfl⟩
 have cxkos:CleanL xkos:=by rw [hxkos];exact y12Y _
 have hP:ygY s ⟨pnm,pap,pn0,pn1,ppr,prs,pts,pss,pns,pas,psi,pon⟩ ⟨knm,kpo,kge,⟨kot,koz,kok⟩,kpr,kc0,kc1,kos,ktr,kid,kph,kbo,kma⟩=.agg (pB s ty po pl cl cm co is no pnm pap pn0 pn1 ppr xprs xpts xpss xpns xpas psi pon knm kpo kge kot koz kok kpr kc0 kc1 xkos ktr kid kph kbo kma):=by
  rw [hce.ty,hce.po,hce.pl,hce.cl,hce.cm,hce.co,hce.is,hce.no,hxprs,hxpts,hxpss,hxpns,hxpas,hxkos]
  rfl
 rw [hP]
 simp only at hrs
 have hxs:=hce.po
 obtain ⟨l,hl0⟩:∃ l,l=s.pods:=⟨_,rfl⟩
 rw [←hl0] at hl hrs hxs
 obtain ⟨P,hP0⟩:∃ P,P=fun p:PodV=>!decide (p.on=[])&&!decide (p.name=pnm):=⟨_,rfl⟩
 rw [←hP0] at hrs
 clear hP hl0 hce hsn
 refine y0Y ⟨rfl,by decide⟩ fun O hO V hV=>?_
 subst hV
 have hlen:O .len po=l.length:=by rw [o_len hO,hxs];simp
 conv=>cbv
 refine y6Y (fun n d=>∃ (i:Int) (k gg:Nat) (ac:List D),d=⟨[(1,.ptr 1 1 0),(3,.own 28 gg),(8,.sl 12 false po),(9,jI (O .len po)),(10,jI i)],[(1,⟨1,.rw,.var,(pB s ty po pl cl cm co is no pnm pap pn0 pn1 ppr xprs xpts xpss xpns xpas psi pon knm kpo kge kot koz kok kpr kc0 kc1 xkos ktr kid kph kbo kma)⟩),(28,⟨gg,.rw,.arr 12 59,ac⟩)],false⟩/\i=k/\k<=l.length/\n=l.length-k/\ac=((l.take k).filter P).map podD) ⟨_,_,⟨_,0,_,_,rfl,rfl,by omega,rfl,by simp⟩,⟨⟨rfl,rfl,rfl,rfl,rfl,trivial⟩,⟨rfl,rfl,trivial⟩,rfl⟩⟩ ?_
 rintro J up n d ⟨i,k,gg,ac,rfl,hi,hk,rfl,hac⟩
 have hca:CleanL ac:=by rw [hac];exact y1iY _
 conv=>cbv
 rintro (_|_) h1<;>(conv=>cbv)
 ·replace h1:=f_lss hO h1
  rw [hlen] at h1
  have:ac=rs:=by rw [hac,hrs,List.take_of_length_le (by omega)]
  rw [this]
  exact ⟨crs,by first|trivial|rfl⟩
 replace h1:=t_lss hO h1
 rw [hlen] at h1
 obtain ⟨y,hy⟩:∃ y,l[k]?=some y:=⟨_,List.getElem?_eq_getElem (by omega)⟩
 have hat:atX po i (podD y):=y9Y hy hxs hi
 have hla:O .len ac<=k:=by rw [o_len hO,hac,List.length_map];have:=List.length_filter_le P (l.take k);have:=List.length_take_le k l;omega
 have hn:P y=false->ac=((l.take (k+1)).filter P).map podD:=fun h=>by rw [hac,List.take_add_one,hy,List.filter_append];simp [h]
 have hp:P y=true->O .app ac [podD y]=((l.take (k+1)).filter P).map podD:=fun h=>by rw [o_app hO,hac,List.take_add_one,hy,List.filter_append];simp [h]
 have hl1:∀ v:D,O .len [v]=1:=fun v=>by rw [o_len hO];rfl
 have cy:closedL [podD y]=true:=by have:=y1iY [y];exact this.c
 have hPy:P y=(!decide (y.on=[])&&!decide (y.name=pnm)):=by rw [hP0]
 obtain ⟨w,hw⟩:∃ w,w=P y:=⟨_,rfl⟩
 rw [←hw] at hn hp hPy
 clear hw hP0 hac hy
 obtain ⟨ynm,yap,yn0,yn1,ypr,yrs,yts,yss,yns,yas,ysi,yon⟩:=y
 simp only [podD,podC] at hat hp hPy cy
 obtain ⟨xyrs,hxyrs⟩:∃ xs,xs=yrs.map reqD:=⟨_,rfl⟩
 have cxyrs:CleanL xyrs:=by rw [hxyrs];exact ykY _
 simp only [←hxyrs] at hat hp hPy cy
 obtain ⟨xyts,hxyts⟩:∃ xs,xs=yts.map tolD:=⟨_,rfl⟩
 have cxyts:CleanL xyts:=by rw [hxyts];exact yqY _
 simp only [←hxyts] at hat hp hPy cy
 obtain ⟨xyss,hxyss⟩:∃ xs,xs=yss.map sprD:=⟨_,rfl⟩
 have cxyss:CleanL xyss:=by rw [hxyss];exact yrY _
 simp only [←hxyss] at hat hp hPy cy
 obtain ⟨xyns,hxyns⟩:∃ xs,xs=yns.map labD:=⟨_,rfl⟩
 have cxyns:CleanL xyns:=by rw [hxyns];exact y4Y _
 simp only [←hxyns] at hat hp hPy cy
 obtain ⟨xyas,hxyas⟩:∃ xs,xs=yas.map labD:=⟨_,rfl⟩
 have cxyas:CleanL xyas:=by rw [hxyas];exact y4Y _
 simp only [←hxyas] at hat hp hPy cy
 refine ⟨_,hat,?_⟩
 conv=>cbv
 repeat' (first|(refine And.intro (by first|assumption|exact ⟨by omega⟩|exact ⟨by rw [hlen];omega⟩|exact ⟨rfl⟩|exact ⟨rfl,rfl⟩) ?_)|(intro (g:Nat);(conv=>cbv)))
 rintro (_|_) a1<;>replace a1:=cs hO a1<;>dsimp only [CmpS] at a1<;>(conv=>cbv)
 case false =>
  exact ⟨_,_,up _ _ ⟨_,k+1,gg,ac,rfl,by rw [y2Y hO (by omega) (by omega)];omega,by omega,rfl,hn (by rw [hPy];simp_all)⟩,⟨⟨rfl,rfl,rfl,rfl,rfl,trivial⟩,⟨rfl,rfl,trivial⟩,rfl⟩,by omega⟩
 rintro (_|_) a2<;>replace a2:=cs hO a2<;>dsimp only [CmpS] at a2<;>(conv=>cbv)
 case false =>
  exact ⟨_,_,up _ _ ⟨_,k+1,gg,ac,rfl,by rw [y2Y hO (by omega) (by omega)];omega,by omega,rfl,hn (by rw [hPy];simp_all)⟩,⟨⟨rfl,rfl,rfl,rfl,rfl,trivial⟩,⟨rfl,rfl,trivial⟩,rfl⟩,by omega⟩
 repeat' (first|(refine And.intro (by first|assumption|exact ⟨by omega⟩|exact ⟨by rw [hlen];omega⟩|exact ⟨rfl⟩|exact ⟨rfl,rfl⟩) ?_)|(intro (g:Nat);(conv=>cbv)))
 refine ⟨⟨cy⟩,⟨?_⟩,?_⟩
 ·show (O .len ac+O .len [_])*((200:Nat):Int)<=_
  rw [hl1];omega
 exact ⟨_,_,up _ _ ⟨_,k+1,gg+1,_,rfl,by rw [y2Y hO (by omega) (by omega)];omega,by omega,rfl,hp (by rw [hPy];simp_all)⟩,⟨⟨rfl,rfl,rfl,rfl,rfl,trivial⟩,⟨rfl,rfl,trivial⟩,rfl⟩,by omega⟩
theorem yomY (R:Ans) (s:SnapV) (hl:s.pods.length<=24) (b:Str):AnsF R c59 [snapD s,mkS b] (.sl 12 false ((ysY s b).map podD)):=by
 obtain ⟨rs,hrs⟩:∃ r,r=(ysY s b).map podD:=⟨_,rfl⟩
 have crs:CleanL rs:=by rw [hrs];exact y1iY _
 rw [←hrs]
 unfold ysY at hrs
 obtain ⟨ty,po,pl,cl,cm,co,is,no,hce,hsn,cty,cpo,cpl,ccl,ccm,cco,cis,cno⟩:=ytY s
 rw [hsn]
 have hxs:=hce.po
 obtain ⟨l,hl0⟩:∃ l,l=s.pods:=⟨_,rfl⟩
 rw [←hl0] at hl hrs hxs
 obtain ⟨P,hP0⟩:∃ P,P=fun p:PodV=>!decide (p.on=[])&&!decide (p.name=b):=⟨_,rfl⟩
 rw [←hP0] at hrs
 clear hl0 hce hsn
 refine y0Y ⟨rfl,by decide⟩ fun O hO V hV=>?_
 subst hV
 have hlen:O .len po=l.length:=by rw [o_len hO,hxs];simp
 conv=>cbv
 refine y6Y (fun n d=>∃ (i:Int) (k gg:Nat) (ac:List D),d=⟨[(1,mkS b),(5,.own 27 gg),(9,.sl 12 false po),(10,jI (O .len po)),(11,jI i)],[(27,⟨gg,.rw,.arr 12 59,ac⟩)],false⟩/\i=k/\k<=l.length/\n=l.length-k/\ac=((l.take k).filter P).map podD) ⟨_,_,⟨_,0,_,_,rfl,rfl,by omega,rfl,by simp⟩,⟨⟨rfl,rfl,rfl,rfl,rfl,trivial⟩,⟨rfl,trivial⟩,rfl⟩⟩ ?_
 rintro J up n d ⟨i,k,gg,ac,rfl,hi,hk,rfl,hac⟩
 have hca:CleanL ac:=by rw [hac];exact y1iY _
 conv=>cbv
 rintro (_|_) h1<;>(conv=>cbv)
 ·replace h1:=f_lss hO h1
  rw [hlen] at h1
  have:ac=rs:=by rw [hac,hrs,List.take_of_length_le (by omega)]
  rw [this]
  exact ⟨crs,by first|trivial|rfl⟩
 replace h1:=t_lss hO h1
 rw [hlen] at h1
 obtain ⟨y,hy⟩:∃ y,l[k]?=some y:=⟨_,List.getElem?_eq_getElem (by omega)⟩
 have hat:atX po i (podD y):=y9Y hy hxs hi
 have hla:O .len ac<=k:=by rw [o_len hO,hac,List.length_map];have:=List.length_filter_le P (l.take k);have:=List.length_take_le k l;omega
 have hn:P y=false->ac=((l.take (k+1)).filter P).map podD:=fun h=>by rw [hac,List.take_add_one,hy,List.filter_append];simp [h]
 have hp:P y=true->O .app ac [podD y]=((l.take (k+1)).filter P).map podD:=fun h=>by rw [o_app hO,hac,List.take_add_one,hy,List.filter_append];simp [h]
 have hl1:∀ v:D,O .len [v]=1:=fun v=>by rw [o_len hO];rfl
 have cy:closedL [podD y]=true:=by have:=y1iY [y];exact this.c
 have hPy:P y=(!decide (y.on=[])&&!decide (y.name=b)):=by rw [hP0]
 obtain ⟨w,hw⟩:∃ w,w=P y:=⟨_,rfl⟩
 rw [←hw] at hn hp hPy
 clear hw hP0 hac hy
 obtain ⟨ynm,yap,yn0,yn1,ypr,yrs,yts,yss,yns,yas,ysi,yon⟩:=y
 simp only [podD,podC] at hat hp hPy cy
 obtain ⟨xyrs,hxyrs⟩:∃ xs,xs=yrs.map reqD:=⟨_,rfl⟩
 have cxyrs:CleanL xyrs:=by rw [hxyrs];exact ykY _
 simp only [←hxyrs] at hat hp hPy cy
 obtain ⟨xyts,hxyts⟩:∃ xs,xs=yts.map tolD:=⟨_,rfl⟩
 have cxyts:CleanL xyts:=by rw [hxyts];exact yqY _
 simp only [←hxyts] at hat hp hPy cy
 obtain ⟨xyss,hxyss⟩:∃ xs,xs=yss.map sprD:=⟨_,rfl⟩
 have cxyss:CleanL xyss:=by rw [hxyss];exact yrY _
 simp only [←hxyss] at hat hp hPy cy
 obtain ⟨xyns,hxyns⟩:∃ xs,xs=yns.map labD:=⟨_,rfl⟩
 have cxyns:CleanL xyns:=by rw [hxyns];exact y4Y _
 simp only [←hxyns] at hat hp hPy cy
 obtain ⟨xyas,hxyas⟩:∃ xs,xs=yas.map labD:=⟨_,rfl⟩
 have cxyas:CleanL xyas:=by rw [hxyas];exact y4Y _
 simp only [←hxyas] at hat hp hPy cy
 refine ⟨_,hat,?_⟩
 conv=>cbv
 repeat' (first|(refine And.intro (by first|assumption|exact ⟨by omega⟩|exact ⟨by rw [hlen];omega⟩|exact ⟨rfl⟩|exact ⟨rfl,rfl⟩) ?_)|(intro (g:Nat);(conv=>cbv)))
 rintro (_|_) a1<;>replace a1:=cs hO a1<;>dsimp only [CmpS] at a1<;>(conv=>cbv)
 case false =>
  exact ⟨_,_,up _ _ ⟨_,k+1,gg,ac,rfl,by rw [y2Y hO (by omega) (by omega)];omega,by omega,rfl,hn (by rw [hPy];simp_all)⟩,⟨⟨rfl,rfl,rfl,rfl,rfl,trivial⟩,⟨rfl,trivial⟩,rfl⟩,by omega⟩
 rintro (_|_) a2<;>replace a2:=cs hO a2<;>dsimp only [CmpS] at a2<;>(conv=>cbv)
 case false =>
  exact ⟨_,_,up _ _ ⟨_,k+1,gg,ac,rfl,by rw [y2Y hO (by omega) (by omega)];omega,by omega,rfl,hn (by rw [hPy];simp_all)⟩,⟨⟨rfl,rfl,rfl,rfl,rfl,trivial⟩,⟨rfl,trivial⟩,rfl⟩,by omega⟩
 repeat' (first|(refine And.intro (by first|assumption|exact ⟨by omega⟩|exact ⟨by rw [hlen];omega⟩|exact ⟨rfl⟩|exact ⟨rfl,rfl⟩) ?_)|(intro (g:Nat);(conv=>cbv)))
 refine ⟨⟨cy⟩,⟨?_⟩,?_⟩
 ·show (O .len ac+O .len [_])*((200:Nat):Int)<=_
  rw [hl1];omega
 exact ⟨_,_,up _ _ ⟨_,k+1,gg+1,_,rfl,by rw [y2Y hO (by omega) (by omega)];omega,by omega,rfl,hp (by rw [hPy];simp_all)⟩,⟨⟨rfl,rfl,rfl,rfl,rfl,trivial⟩,⟨rfl,trivial⟩,rfl⟩,by omega⟩
theorem yonY (R:Ans) (s:SnapV) (p:PodV) (c:ClaimV) (t:LabV) (hl:(ysY s p.name).length<4611686018427387904) (h63:R.v 63 [ygY s p c] (.sl 12 false ((ysY s p.name).map podD))) (h111:∀ q,R.v 111 [ygY s p c,mkS t.k,podD q] (.bool (hereB s c t.k q))):AnsF R c57 [ygY s p c,labD t] (.bool (nearT s c p t)):=by
 obtain ⟨r,hr⟩:∃ r,r=nearT s c p t:=⟨_,rfl⟩
 rw [←hr]
 unfold nearT at hr
 obtain ⟨l,hl0⟩:∃ l,l=ysY s p.name:=⟨_,rfl⟩
 rw [←hl0] at hl h63 hr
 obtain ⟨H,hH⟩:∃ H,H=hereB s c t.k:=⟨_,rfl⟩
 rw [←hH] at h111 hr
 clear hl0 hH
 obtain ⟨os,hos⟩:∃ os,os=l.map podD:=⟨_,rfl⟩
 have cos:CleanL os:=by rw [hos];exact y1iY _
 rw [←hos] at h63
 obtain ⟨ty,po,pl,cl,cm,co,is,no,hce,hsn,cty,cpo,cpl,ccl,ccm,cco,cis,cno⟩:=ytY s
 obtain ⟨pnm,pap,pn0,pn1,ppr,prs,pts,pss,pns,pas,psi,pon⟩:=p
 obtain ⟨knm,kpo,kge,⟨kot,koz,kok⟩,kpr,kc0,kc1,kos,ktr,kid,kph,kbo,kma⟩:=c
 obtain ⟨xprs,hxprs⟩:∃ xs,xs=prs.map reqD:=⟨_,rfl⟩
 have cxprs:CleanL xprs:=by rw [hxprs];exact ykY _
 obtain ⟨xpts,hxpts⟩:∃ xs,xs=pts.map tolD:=⟨_,rfl⟩
 have cxpts:CleanL xpts:=by rw [hxpts];exact yqY _
 obtain ⟨xpss,hxpss⟩:∃ xs,xs=pss.map sprD:=⟨_,rfl⟩
 have cxpss:CleanL xpss:=by rw [hxpss];exact yrY _
 obtain ⟨xpns,hxpns⟩:∃ xs,xs=pns.map labD:=⟨_,rfl⟩
 have cxpns:CleanL xpns:=by rw [hxpns];exact y4Y _
 obtain ⟨xpas,hxpas⟩:∃ xs,xs=pas.map labD:=⟨_,rfl⟩
 have cxpas:CleanL xpas:=by rw [hxpas];exact y4Y _
 obtain ⟨xkos,hxkos⟩:∃ xs,xs=kos.map offD:=⟨_,rfl⟩
 have cxkos:CleanL xkos:=by rw [hxkos];exact y12Y _
 have hP:ygY s ⟨pnm,pap,pn0,pn1,ppr,prs,pts,pss,pns,pas,psi,pon⟩ ⟨knm,kpo,kge,⟨kot,koz,kok⟩,kpr,kc0,kc1,kos,ktr,kid,kph,kbo,kma⟩=.agg (pB s ty po pl cl cm co is no pnm pap pn0 pn1 ppr xprs xpts xpss xpns xpas psi pon knm kpo kge kot koz kok kpr kc0 kc1 xkos ktr kid kph kbo kma):=by
  rw [hce.ty,hce.po,hce.pl,hce.cl,hce.cm,hce.co,hce.is,hce.no,hxprs,hxpts,hxpss,hxpns,hxpas,hxkos]
  rfl
 rw [hP] at h63 h111 ⊢
 clear hP hce hsn
 obtain ⟨tk,tv⟩:=t
 simp only [labD] at hr h111 ⊢
 refine y0Y ⟨rfl,by decide⟩ fun O hO V hV=>?_
 subst hV
 have hlen:O .len os=l.length:=by rw [o_len hO,hos];simp
 conv=>cbv
 repeat' (first|(refine And.intro (by first|assumption|exact ⟨by omega⟩|exact ⟨by rw [hlen];omega⟩|exact ⟨rfl⟩|exact ⟨rfl,rfl⟩) ?_)|(intro (g:Nat);(conv=>cbv)))
 refine ⟨_,h63,?_⟩
 conv=>cbv
 refine y6Y (fun n d=>∃ (i:Int) (k:Nat) (sm:Bool),d=⟨[(2,.ptr 2 1 0),(3,.ptr 3 1 0),(5,.bool sm),(9,.sl 12 false os),(10,jI (O .len os)),(11,jI i)],[(2,⟨1,.rw,.var,(pB s ty po pl cl cm co is no pnm pap pn0 pn1 ppr xprs xpts xpss xpns xpas psi pon knm kpo kge kot koz kok kpr kc0 kc1 xkos ktr kid kph kbo kma)⟩),(3,⟨1,.rw,.var,[mkS tk,mkS tv]⟩)],false⟩/\i=k/\k<=l.length/\n=l.length-k/\(sm=(l.take k).any fun q=>decide (q.app=tv))/\∀ (j:Nat) z,j<k->l[j]?=some z->(decide (z.app=tv)&&H z)=false) ⟨_,_,⟨_,0,_,rfl,rfl,by omega,rfl,by simp,by simp⟩,⟨⟨rfl,rfl,rfl,rfl,rfl,rfl,trivial⟩,⟨rfl,rfl,trivial⟩,rfl⟩⟩ ?_
 rintro J up n d ⟨i,k,sm,rfl,hi,hk,rfl,hsm,hno⟩
 conv=>cbv
 rintro (_|_) h1<;>(conv=>cbv)
 ·replace h1:=f_lss hO h1
  rw [hlen] at h1
  have hA:(l.any fun q=>decide (q.app=tv)&&H q)=false:=by
   rw [List.any_eq_false]
   intro z hz
   obtain ⟨j,hj⟩:=List.mem_iff_getElem?.1 hz
   rw [hno j z (by have:=(List.getElem?_eq_some_iff.1 hj).1;omega) hj]
   simp
  have hB:(l.any fun q=>decide (q.app=tv))=sm:=by rw [hsm,List.take_of_length_le (by omega)]
  rw [hA,hB,Bool.false_or] at hr
  clear hsm hno hA hB
  cases sm<;>(conv=>cbv)
  case true=>rw [hr];rfl
  rintro (_|_) h<;>replace h:=cs hO h<;>dsimp only [CmpS] at h<;>(conv=>cbv)
  all_goals (rw [hr];simp [h])
 replace h1:=t_lss hO h1
 rw [hlen] at h1
 obtain ⟨y,hy⟩:∃ y,l[k]?=some y:=⟨_,List.getElem?_eq_getElem (by omega)⟩
 have hat:atX os i (podD y):=y9Y hy hos hi
 have hk1:=h111 y
 obtain ⟨b,hb⟩:∃ b,b=H y:=⟨_,rfl⟩
 rw [←hb] at hk1
 have hst:(decide (y.app=tv)&&b)=false->∀ (j:Nat) z,j<k+1->l[j]?=some z->(decide (z.app=tv)&&H z)=false:=fun h j z hj hz=>by
  rcases Nat.lt_succ_iff_lt_or_eq.1 hj with h3|rfl
  ·exact hno j z h3 hz
  ·rw [hy] at hz;simp only [Option.some.injEq] at hz;rw [←hz,←hb];exact h
 have hsm2:((l.take (k+1)).any fun q=>decide (q.app=tv))=(sm||decide (y.app=tv)):=by rw [List.take_add_one,hy,List.any_append,hsm];simp
 have hht:(decide (y.app=tv)&&b)=true->r=true:=fun h=>by
  rw [hr,List.any_eq_true.2 ⟨y,List.mem_of_getElem? hy,by rw [←hb];exact h⟩]
  rfl
 clear hb hy hno hsm h111 hr
 obtain ⟨ynm,yap,yn0,yn1,ypr,yrs,yts,yss,yns,yas,ysi,yon⟩:=y
 simp only [podD,podC] at hat hk1 hst hsm2 hht
 obtain ⟨xyrs,hxyrs⟩:∃ xs,xs=yrs.map reqD:=⟨_,rfl⟩
 have cxyrs:CleanL xyrs:=by rw [hxyrs];exact ykY _
 simp only [←hxyrs] at hat hk1 hst hsm2 hht
 obtain ⟨xyts,hxyts⟩:∃ xs,xs=yts.map tolD:=⟨_,rfl⟩
 have cxyts:CleanL xyts:=by rw [hxyts];exact yqY _
 simp only [←hxyts] at hat hk1 hst hsm2 hht
 obtain ⟨xyss,hxyss⟩:∃ xs,xs=yss.map sprD:=⟨_,rfl⟩
 have cxyss:CleanL xyss:=by rw [hxyss];exact yrY _
 simp only [←hxyss] at hat hk1 hst hsm2 hht
 obtain ⟨xyns,hxyns⟩:∃ xs,xs=yns.map labD:=⟨_,rfl⟩
 have cxyns:CleanL xyns:=by rw [hxyns];exact y4Y _
 simp only [←hxyns] at hat hk1 hst hsm2 hht
 obtain ⟨xyas,hxyas⟩:∃ xs,xs=yas.map labD:=⟨_,rfl⟩
 have cxyas:CleanL xyas:=by rw [hxyas];exact y4Y _
 simp only [←hxyas] at hat hk1 hst hsm2 hht
 refine ⟨_,hat,?_⟩
 conv=>cbv
 repeat' (first|(refine And.intro (by first|assumption|exact ⟨by omega⟩|exact ⟨by rw [hlen];omega⟩|exact ⟨rfl⟩|exact ⟨rfl,rfl⟩) ?_)|(intro (g:Nat);(conv=>cbv)))
 rintro (_|_) a1<;>replace a1:=cs hO a1<;>dsimp only [CmpS] at a1<;>(conv=>cbv)
 case true =>
  exact ⟨_,_,up _ _ ⟨_,k+1,sm,rfl,by rw [y2Y hO (by omega) (by omega)];omega,by omega,rfl,by rw [hsm2];simp [a1],hst (by simp [a1])⟩,⟨⟨rfl,rfl,rfl,rfl,rfl,rfl,trivial⟩,⟨rfl,rfl,trivial⟩,rfl⟩,by omega⟩
 repeat' (first|(refine And.intro (by first|assumption|exact ⟨by omega⟩|exact ⟨by rw [hlen];omega⟩|exact ⟨rfl⟩|exact ⟨rfl,rfl⟩) ?_)|(intro (g:Nat);(conv=>cbv)))
 refine ⟨_,hk1,?_⟩
 cases b<;>(conv=>cbv)
 case true=>rw [hht (by simp_all)]
 exact ⟨_,_,up _ _ ⟨_,k+1,true,rfl,by rw [y2Y hO (by omega) (by omega)];omega,by omega,rfl,by rw [hsm2];simp_all,hst (by simp)⟩,⟨⟨rfl,rfl,rfl,rfl,rfl,rfl,trivial⟩,⟨rfl,rfl,trivial⟩,rfl⟩,by omega⟩
theorem yerY {α:Type} (p:α->Bool) (l:List α):(idxI p l=-1/\l.find? p=none)∨∃ (k:Nat) (y:α),k<l.length/\idxI p l=k/\l[k]?=some y/\l.find? p=some y:=by
 cases hf:l.find? p with
 | none=>exact .inl ⟨y2cY fun y hy=>by simpa using List.find?_eq_none.1 hf y hy,rfl⟩
 | some y =>
   obtain ⟨h1,i,h2,h3,h4⟩:=List.find?_eq_some_iff_getElem.1 hf
   have h5:l[i]?=some y:=by rw [List.getElem?_eq_getElem h2,h3]
   refine .inr ⟨i,y,h2,y2dY h5 h1 (fun j z hj hz=>?_),h5,rfl⟩
   have:=h4 j hj
   obtain ⟨h6,h7⟩:=List.getElem?_eq_some_iff.1 hz
   rw [←h7]
   simpa using this
def y49Y:D:=.agg [jI 0,jI 0,jI 0,jI 0,jI 0,jI 0,.sl 7 false [],.sl 12 false [],.sl 10 false [],.sl 15 false [],.sl 8 false [],.sl 4 false [],.sl 7 false [],.sl 1 false [],mkS [],mkS [],jI 0,jI 0,jI 0,.sl 4 false [],.sl 3 false [],.sl 3 false [],.sl 2 false [],.sl 2 false [],jI 0,mkS [],mkS [],mkS [],jI 0,mkS [],mkS [],mkS [],jI 0,jI 0,jI 0,.sl 3 false [],jI 0,mkS [],jI 0,jI 0,.bool false]
noncomputable def begX (s:SnapV) (p:PodV) (claim:Str):D:=if yhY s p claim=0 then ygY s p ((ynY s claim).getD zeroC) else y49Y
theorem yooY (R:Ans) (s:SnapV) (p:PodV) (claim:Str) (hl:s.claims.length<4611686018427387904) (h45:R.v 45 [snapD s] (jI (snapE s))) (h82:R.v 82 [podD p] (jI (podE p))) (h50:R.v 50 [.sl 15 false (s.claims.map ybY),.fn 108 [] [.vptr (.agg [mkS claim]) 0]] (jI (idxI (fun y:ClaimV=>decide (y.name=claim)) s.claims))):AnsF R c55 [snapD s,podD p,mkS claim] (.tup [begX s p claim,jI (yhY s p claim)]):=by
 obtain ⟨w1,hw1⟩:∃ w,w=snapE s:=⟨_,rfl⟩
 obtain ⟨w2,hw2⟩:∃ w,w=podE p:=⟨_,rfl⟩
 obtain ⟨ix,hix⟩:∃ w,w=idxI (fun y:ClaimV=>decide (y.name=claim)) s.claims:=⟨_,rfl⟩
 obtain ⟨rd,hrd⟩:∃ r,r=D.tup [begX s p claim,jI (yhY s p claim)]:=⟨_,rfl⟩
 rw [←hrd]
 rw [←hw1] at h45
 rw [←hw2] at h82
 rw [←hix] at h50
 have hb:yhY s p claim=y3Y [w1,w2,wantI (y1dY s claim) 5]:=by rw [hw1,hw2];rfl
 have g1:w1≠0->rd=D.tup [y49Y,jI w1]:=fun h=>by
  have:yhY s p claim=w1:=by rw [hb];simp [y3Y,h]
  rw [hrd,begX,this,if_neg h]
 have g2:w1=0->w2≠0->rd=D.tup [y49Y,jI w2]:=fun h1 h=>by
  have:yhY s p claim=w2:=by rw [hb];simp [y3Y,h,h1]
  rw [hrd,begX,this,if_neg h]
 have g3:w1=0->w2=0->ix<0->rd=D.tup [y49Y,jI 5]:=fun h1 h2 h=>by
  rcases yerY (fun y:ClaimV=>decide (y.name=claim)) s.claims with ⟨_,h4⟩|⟨k,y,_,h4,_⟩
  ·have hc:y1dY s claim=false:=by rw [←y9cY,ynY,h4];rfl
   have:yhY s p claim=5:=by rw [hb,h1,h2,hc];rfl
   rw [hrd,begX,this,if_neg (by decide)]
  ·omega
 have g4:w1=0->w2=0->0<=ix->∃ (k:Nat) (y:ClaimV),k<s.claims.length/\ix=k/\s.claims[k]?=some y/\rd=D.tup [ygY s p y,jI 0]:=fun h1 h2 h=>by
  rcases yerY (fun y:ClaimV=>decide (y.name=claim)) s.claims with ⟨h4,_⟩|⟨k,y,h3,h4,h5,h6⟩
  ·omega
  ·have hcl:ynY s claim=some y:=h6
   have hc:y1dY s claim=true:=by rw [←y9cY,hcl];rfl
   have:yhY s p claim=0:=by rw [hb,h1,h2,hc];rfl
   exact ⟨k,y,h3,by rw [hix,h4],h5,by rw [hrd,begX,this,if_pos rfl,hcl];rfl⟩
 clear hb hrd hix hw1 hw2
 obtain ⟨ty,po,pl,cl,cm,co,is,no,hce,hsn,cty,cpo,cpl,ccl,ccm,cco,cis,cno⟩:=ytY s
 rw [hsn] at h45 ⊢
 rw [←hce.cl] at h50
 have hpl:∀ (p:PodV) (y:ClaimV),ygY s p y=.agg ((sB s ty po pl cl cm co is no)++(podC p++y1gY y)):=fun p y=>by
  rw [hce.ty,hce.po,hce.pl,hce.cl,hce.cm,hce.co,hce.is,hce.no]
  rfl
 have hxs:=hce.cl
 have hg4:w1=0->w2=0->0<=ix->∃ y:ClaimV,atX cl ix (ybY y)/\ix<s.claims.length/\rd=D.tup [.agg ((sB s ty po pl cl cm co is no)++(podC p++y1gY y)),jI 0]:=fun h1 h2 h3=>by
  obtain ⟨k,y,e1,e2,e3,e4⟩:=g4 h1 h2 h3
  exact ⟨y,y9Y e3 hxs e2,by omega,by rw [e4,hpl]⟩
 unfold y49Y at g1 g2 g3
 clear g4 hpl hce hsn hxs
 obtain ⟨pnm,pap,pn0,pn1,ppr,prs,pts,pss,pns,pas,psi,pon⟩:=p
 simp only [podD,podC] at h82 hg4 ⊢
 obtain ⟨xprs,hxprs⟩:∃ xs,xs=prs.map reqD:=⟨_,rfl⟩
 have cxprs:CleanL xprs:=by rw [hxprs];exact ykY _
 simp only [←hxprs] at h82 hg4 ⊢
 obtain ⟨xpts,hxpts⟩:∃ xs,xs=pts.map tolD:=⟨_,rfl⟩
 have cxpts:CleanL xpts:=by rw [hxpts];exact yqY _
 simp only [←hxpts] at h82 hg4 ⊢
 obtain ⟨xpss,hxpss⟩:∃ xs,xs=pss.map sprD:=⟨_,rfl⟩
 have cxpss:CleanL xpss:=by rw [hxpss];exact yrY _
 simp only [←hxpss] at h82 hg4 ⊢
 obtain ⟨xpns,hxpns⟩:∃ xs,xs=pns.map labD:=⟨_,rfl⟩
 have cxpns:CleanL xpns:=by rw [hxpns];exact y4Y _
 simp only [←hxpns] at h82 hg4 ⊢
 obtain ⟨xpas,hxpas⟩:∃ xs,xs=pas.map labD:=⟨_,rfl⟩
 have cxpas:CleanL xpas:=by rw [hxpas];exact y4Y _
 simp only [←hxpas] at h82 hg4 ⊢
 refine y0Y ⟨rfl,by decide⟩ fun O hO V hV=>?_
 subst hV
 conv=>cbv
 repeat' (first|(refine And.intro (by first|assumption|exact ⟨by omega⟩|exact ⟨rfl⟩|exact ⟨rfl,rfl⟩) ?_)|(intro (g:Nat);(conv=>cbv)))
 refine ⟨_,h45,?_⟩
 conv=>cbv
 rintro (_|_) h<;>replace h:=ci hO h<;>dsimp only [CmpI] at h<;>(conv=>cbv)
 case true =>
  have hfin:=g1 h
  conv at hfin=>rhs;cbv
  repeat' (refine And.intro ⟨rfl,rfl⟩ ?_)
  exact hfin.symm
 repeat' (first|(refine And.intro (by first|assumption|exact ⟨by omega⟩|exact ⟨rfl⟩|exact ⟨rfl,rfl⟩) ?_)|(intro (g:Nat);(conv=>cbv)))
 refine ⟨_,h82,?_⟩
 conv=>cbv
 rintro (_|_) h2<;>replace h2:=ci hO h2<;>dsimp only [CmpI] at h2<;>(conv=>cbv)
 case true =>
  have hfin:=g2 h h2
  conv at hfin=>rhs;cbv
  repeat' (refine And.intro ⟨rfl,rfl⟩ ?_)
  exact hfin.symm
 repeat' (first|(refine And.intro (by first|assumption|exact ⟨by omega⟩|exact ⟨rfl⟩|exact ⟨rfl,rfl⟩) ?_)|(intro (g:Nat);(conv=>cbv)))
 refine ⟨_,h50,?_⟩
 conv=>cbv
 rintro (_|_) h3<;>replace h3:=ci hO h3<;>dsimp only [CmpI] at h3<;>(conv=>cbv)
 case true =>
  have hfin:=g3 h h2 h3
  conv at hfin=>rhs;cbv
  repeat' (refine And.intro ⟨rfl,rfl⟩ ?_)
  exact hfin.symm
 obtain ⟨y,hat,hlt,hfin⟩:=hg4 h h2 (by omega)
 clear hg4 g1 g2 g3
 simp only [podC,List.cons_append,List.nil_append] at hfin
 obtain ⟨ynm,ypo,yge,⟨yot,yoz,yok⟩,ypr,yc0,yc1,yos,ytr,yid,yph,ybo,yma⟩:=y
 simp only [ybY,y1gY] at hat hfin
 obtain ⟨xyos,hxyos⟩:∃ xs,xs=yos.map offD:=⟨_,rfl⟩
 have cxyos:CleanL xyos:=by rw [hxyos];exact y12Y _
 simp only [←hxyos] at hat hfin
 refine ⟨_,hat,?_⟩
 conv=>cbv
 repeat' (first|(refine And.intro (by first|assumption|exact ⟨by omega⟩|exact ⟨rfl⟩|exact ⟨rfl,rfl⟩) ?_)|(intro (g:Nat);(conv=>cbv)))
 exact hfin.symm
theorem yopY (R:Ans) (s:SnapV) (p:PodV) (claim:Str) (h55:R.v 55 [snapD s,podD p,mkS claim] (.tup [begX s p claim,jI (yhY s p claim)])) (h56:yhY s p claim=0->R.v 56 [.sl 2 false (p.near.map labD),.fn 57 [ygY s p ((ynY s claim).getD zeroC)] []] (.bool (y57Y s p ((ynY s claim).getD zeroC)))):AnsF R c28 [snapD s,podD p,mkS claim] (.tup [.bool (nearE s p claim).1,jI (nearE s p claim).2]):=by
 obtain ⟨r,hr⟩:∃ r,r=(nearE s p claim).1:=⟨_,rfl⟩
 have h2:(nearE s p claim).2=yhY s p claim:=rfl
 rw [←hr,h2]
 unfold nearE at hr
 simp only at hr
 unfold begX at h55
 obtain ⟨e,he⟩:∃ e,e=yhY s p claim:=⟨_,rfl⟩
 rw [←he] at h55 h56 hr ⊢
 obtain ⟨c,hc⟩:∃ c,c=(ynY s claim).getD zeroC:=⟨_,rfl⟩
 rw [←hc] at h55 h56 hr
 obtain ⟨b,hb⟩:∃ b,b=y57Y s p c:=⟨_,rfl⟩
 rw [←hb] at h56 hr
 clear h2 he hc hb
 by_cases h0:e=0
 ·subst h0
  rw [if_pos rfl] at h55
  replace h56:=h56 rfl
  replace hr:r=b:=by rw [hr];rfl
  subst hr
  obtain ⟨ty,po,pl,cl,cm,co,is,no,hce,hsn,cty,cpo,cpl,ccl,ccm,cco,cis,cno⟩:=ytY s
  obtain ⟨pnm,pap,pn0,pn1,ppr,prs,pts,pss,pns,pas,psi,pon⟩:=p
  obtain ⟨knm,kpo,kge,⟨kot,koz,kok⟩,kpr,kc0,kc1,kos,ktr,kid,kph,kbo,kma⟩:=c
  obtain ⟨xprs,hxprs⟩:∃ xs,xs=prs.map reqD:=⟨_,rfl⟩
  have cxprs:CleanL xprs:=by rw [hxprs];exact ykY _
  obtain ⟨xpts,hxpts⟩:∃ xs,xs=pts.map tolD:=⟨_,rfl⟩
  have cxpts:CleanL xpts:=by rw [hxpts];exact yqY _
  obtain ⟨xpss,hxpss⟩:∃ xs,xs=pss.map sprD:=⟨_,rfl⟩
  have cxpss:CleanL xpss:=by rw [hxpss];exact yrY _
  obtain ⟨xpns,hxpns⟩:∃ xs,xs=pns.map labD:=⟨_,rfl⟩
  have cxpns:CleanL xpns:=by rw [hxpns];exact y4Y _
  obtain ⟨xpas,hxpas⟩:∃ xs,xs=pas.map labD:=⟨_,rfl⟩
  have cxpas:CleanL xpas:=by rw [hxpas];exact y4Y _
  obtain ⟨xkos,hxkos⟩:∃ xs,xs=kos.map offD:=⟨_,rfl⟩
  have cxkos:CleanL xkos:=by rw [hxkos];exact y12Y _
  have hP:ygY s ⟨pnm,pap,pn0,pn1,ppr,prs,pts,pss,pns,pas,psi,pon⟩ ⟨knm,kpo,kge,⟨kot,koz,kok⟩,kpr,kc0,kc1,kos,ktr,kid,kph,kbo,kma⟩=.agg (pB s ty po pl cl cm co is no pnm pap pn0 pn1 ppr xprs xpts xpss xpns xpas psi pon knm kpo kge kot koz kok kpr kc0 kc1 xkos ktr kid kph kbo kma):=by
   rw [hce.ty,hce.po,hce.pl,hce.cl,hce.cm,hce.co,hce.is,hce.no,hxprs,hxpts,hxpss,hxpns,hxpas,hxkos]
   rfl
  rw [hP] at h55 h56
  rw [hsn] at h55 ⊢
  clear hP hce hsn
  simp only [podD,podC] at h55 h56 ⊢
  simp only [←hxprs,←hxpts,←hxpss,←hxpns,←hxpas] at h55 h56 ⊢
  refine y0Y ⟨rfl,by decide⟩ fun O hO V hV=>?_
  subst hV
  conv=>cbv
  repeat' (first|(refine And.intro (by first|assumption|exact ⟨by omega⟩|exact ⟨rfl⟩|exact ⟨rfl,rfl⟩) ?_)|(intro (g:Nat);(conv=>cbv)))
  refine ⟨_,h55,?_⟩
  conv=>cbv
  repeat' (first|(refine And.intro (by first|assumption|exact ⟨by omega⟩|exact ⟨rfl⟩|exact ⟨rfl,rfl⟩) ?_)|(intro (g:Nat);(conv=>cbv)))
  rintro (_|_) h<;>replace h:=ci hO h<;>dsimp only [CmpI] at h<;>(conv=>cbv)
  ·exact absurd rfl h
  repeat' (first|(refine And.intro (by first|assumption|exact ⟨by omega⟩|exact ⟨rfl⟩|exact ⟨rfl,rfl⟩) ?_)|(intro (g:Nat);(conv=>cbv)))
  refine ⟨_,h56,?_⟩
  conv=>cbv
  all_goals (first|trivial|rfl)
 ·rw [if_neg h0] at h55
  replace hr:r=false:=by rw [hr,decide_eq_false h0];rfl
  unfold y49Y at h55
  subst hr
  clear h56
  obtain ⟨ty,po,pl,cl,cm,co,is,no,hce,hsn,cty,cpo,cpl,ccl,ccm,cco,cis,cno⟩:=ytY s
  rw [hsn] at h55 ⊢
  clear hce hsn
  obtain ⟨pnm,pap,pn0,pn1,ppr,prs,pts,pss,pns,pas,psi,pon⟩:=p
  simp only [podD,podC] at h55 ⊢
  obtain ⟨xprs,hxprs⟩:∃ xs,xs=prs.map reqD:=⟨_,rfl⟩
  have cxprs:CleanL xprs:=by rw [hxprs];exact ykY _
  simp only [←hxprs] at h55 ⊢
  obtain ⟨xpts,hxpts⟩:∃ xs,xs=pts.map tolD:=⟨_,rfl⟩
  have cxpts:CleanL xpts:=by rw [hxpts];exact yqY _
  simp only [←hxpts] at h55 ⊢
  obtain ⟨xpss,hxpss⟩:∃ xs,xs=pss.map sprD:=⟨_,rfl⟩
  have cxpss:CleanL xpss:=by rw [hxpss];exact yrY _
  simp only [←hxpss] at h55 ⊢
  obtain ⟨xpns,hxpns⟩:∃ xs,xs=pns.map labD:=⟨_,rfl⟩
  have cxpns:CleanL xpns:=by rw [hxpns];exact y4Y _
  simp only [←hxpns] at h55 ⊢
  obtain ⟨xpas,hxpas⟩:∃ xs,xs=pas.map labD:=⟨_,rfl⟩
  have cxpas:CleanL xpas:=by rw [hxpas];exact y4Y _
  simp only [←hxpas] at h55 ⊢
  refine y0Y ⟨rfl,by decide⟩ fun O hO V hV=>?_
  subst hV
  conv=>cbv
  repeat' (first|(refine And.intro (by first|assumption|exact ⟨by omega⟩|exact ⟨rfl⟩|exact ⟨rfl,rfl⟩) ?_)|(intro (g:Nat);(conv=>cbv)))
  refine ⟨_,h55,?_⟩
  conv=>cbv
  repeat' (first|(refine And.intro (by first|assumption|exact ⟨by omega⟩|exact ⟨rfl⟩|exact ⟨rfl,rfl⟩) ?_)|(intro (g:Nat);(conv=>cbv)))
  rintro (_|_) h<;>replace h:=ci hO h<;>dsimp only [CmpI] at h<;>(conv=>cbv)
  all_goals (first|exact absurd h h0|trivial|rfl)
theorem yoqY (R:Ans) (s:SnapV) (p:PodV) (claim:Str) (h55:R.v 55 [snapD s,podD p,mkS claim] (.tup [begX s p claim,jI (yhY s p claim)])) (h56:yhY s p claim=0->R.v 56 [.sl 2 false (p.apart.map labD),.fn 61 [ygY s p ((ynY s claim).getD zeroC)] []] (.bool (p.apart.all (y2oY s ((ynY s claim).getD zeroC) p)))) (h63:yhY s p claim=0->R.v 63 [ygY s p ((ynY s claim).getD zeroC)] (.sl 12 false ((ysY s p.name).map podD))) (h62:yhY s p claim=0->R.v 62 [.sl 12 false ((ysY s p.name).map podD),.fn 64 [ygY s p ((ynY s claim).getD zeroC)] []] (.bool ((ysY s p.name).all (y2xY s ((ynY s claim).getD zeroC) p)))):AnsF R c30 [snapD s,podD p,mkS claim] (.tup [.bool (yfY s p claim).1,jI (yfY s p claim).2]):=by
 obtain ⟨r,hr⟩:∃ r,r=(yfY s p claim).1:=⟨_,rfl⟩
 have h2:(yfY s p claim).2=yhY s p claim:=rfl
 rw [←hr,h2]
 unfold yfY y47Y at hr
 simp only at hr
 unfold begX at h55
 obtain ⟨e,he⟩:∃ e,e=yhY s p claim:=⟨_,rfl⟩
 rw [←he] at h55 h56 h63 h62 hr ⊢
 obtain ⟨c,hc⟩:∃ c,c=(ynY s claim).getD zeroC:=⟨_,rfl⟩
 rw [←hc] at h55 h56 h63 h62 hr
 obtain ⟨b1,hb1⟩:∃ b,b=p.apart.all (y2oY s c p):=⟨_,rfl⟩
 rw [←hb1] at h56 hr
 obtain ⟨b2,hb2⟩:∃ b,b=(ysY s p.name).all (y2xY s c p):=⟨_,rfl⟩
 rw [←hb2] at h62 hr
 obtain ⟨os,hos⟩:∃ os,os=(ysY s p.name).map podD:=⟨_,rfl⟩
 have cos:CleanL os:=by rw [hos];exact y1iY _
 rw [←hos] at h63 h62
 clear h2 he hc hb1 hb2 hos
 by_cases h0:e=0
 ·subst h0
  rw [if_pos rfl] at h55
  replace h56:=h56 rfl
  replace h62:=h62 rfl
  replace h63:=h63 rfl
  replace hr:r=(b1&&b2):=by rw [hr];rfl
  obtain ⟨ty,po,pl,cl,cm,co,is,no,hce,hsn,cty,cpo,cpl,ccl,ccm,cco,cis,cno⟩:=ytY s
  obtain ⟨pnm,pap,pn0,pn1,ppr,prs,pts,pss,pns,pas,psi,pon⟩:=p
  obtain ⟨knm,kpo,kge,⟨kot,koz,kok⟩,kpr,kc0,kc1,kos,ktr,kid,kph,kbo,kma⟩:=c
  obtain ⟨xprs,hxprs⟩:∃ xs,xs=prs.map reqD:=⟨_,rfl⟩
  have cxprs:CleanL xprs:=by rw [hxprs];exact ykY _
  obtain ⟨xpts,hxpts⟩:∃ xs,xs=pts.map tolD:=⟨_,rfl⟩
  have cxpts:CleanL xpts:=by rw [hxpts];exact yqY _
  obtain ⟨xpss,hxpss⟩:∃ xs,xs=pss.map sprD:=⟨_,rfl⟩
  have cxpss:CleanL xpss:=by rw [hxpss];exact yrY _
  obtain ⟨xpns,hxpns⟩:∃ xs,xs=pns.map labD:=⟨_,rfl⟩
  have cxpns:CleanL xpns:=by rw [hxpns];exact y4Y _
  obtain ⟨xpas,hxpas⟩:∃ xs,xs=pas.map labD:=⟨_,rfl⟩
  have cxpas:CleanL xpas:=by rw [hxpas];exact y4Y _
  obtain ⟨xkos,hxkos⟩:∃ xs,xs=kos.map offD:=⟨_,rfl⟩
  have cxkos:CleanL xkos:=by rw [hxkos];exact y12Y _
  have hP:ygY s ⟨pnm,pap,pn0,pn1,ppr,prs,pts,pss,pns,pas,psi,pon⟩ ⟨knm,kpo,kge,⟨kot,koz,kok⟩,kpr,kc0,kc1,kos,ktr,kid,kph,kbo,kma⟩=.agg (pB s ty po pl cl cm co is no pnm pap pn0 pn1 ppr xprs xpts xpss xpns xpas psi pon knm kpo kge kot koz kok kpr kc0 kc1 xkos ktr kid kph kbo kma):=by
   rw [hce.ty,hce.po,hce.pl,hce.cl,hce.cm,hce.co,hce.is,hce.no,hxprs,hxpts,hxpss,hxpns,hxpas,hxkos]
   rfl
  rw [hP] at h55 h56 h62 h63
  rw [hsn] at h55 ⊢
  clear hP hce hsn
  simp only [podD,podC] at h55 h56 ⊢
  simp only [←hxprs,←hxpts,←hxpss,←hxpns,←hxpas] at h55 h56 ⊢
  refine y0Y ⟨rfl,by decide⟩ fun O hO V hV=>?_
  subst hV
  conv=>cbv
  repeat' (first|(refine And.intro (by first|assumption|exact ⟨by omega⟩|exact ⟨rfl⟩|exact ⟨rfl,rfl⟩) ?_)|(intro (g:Nat);(conv=>cbv)))
  refine ⟨_,h55,?_⟩
  conv=>cbv
  repeat' (first|(refine And.intro (by first|assumption|exact ⟨by omega⟩|exact ⟨rfl⟩|exact ⟨rfl,rfl⟩) ?_)|(intro (g:Nat);(conv=>cbv)))
  rintro (_|_) h<;>replace h:=ci hO h<;>dsimp only [CmpI] at h<;>(conv=>cbv)
  ·exact absurd rfl h
  repeat' (first|(refine And.intro (by first|assumption|exact ⟨by omega⟩|exact ⟨rfl⟩|exact ⟨rfl,rfl⟩) ?_)|(intro (g:Nat);(conv=>cbv)))
  refine ⟨_,h56,?_⟩
  cases b1<;>(conv=>cbv)
  case false=>rw [hr];rfl
  repeat' (first|(refine And.intro (by first|assumption|exact ⟨by omega⟩|exact ⟨rfl⟩|exact ⟨rfl,rfl⟩) ?_)|(intro (g:Nat);(conv=>cbv)))
  refine ⟨_,h63,?_⟩
  conv=>cbv
  repeat' (first|(refine And.intro (by first|assumption|exact ⟨by omega⟩|exact ⟨rfl⟩|exact ⟨rfl,rfl⟩) ?_)|(intro (g:Nat);(conv=>cbv)))
  refine ⟨_,h62,?_⟩
  cases b2<;>(conv=>cbv)
  all_goals (rw [hr];rfl)
 ·rw [if_neg h0] at h55
  replace hr:r=false:=by rw [hr,decide_eq_false h0];rfl
  unfold y49Y at h55
  subst hr
  clear h56 h62 h63
  obtain ⟨ty,po,pl,cl,cm,co,is,no,hce,hsn,cty,cpo,cpl,ccl,ccm,cco,cis,cno⟩:=ytY s
  rw [hsn] at h55 ⊢
  clear hce hsn
  obtain ⟨pnm,pap,pn0,pn1,ppr,prs,pts,pss,pns,pas,psi,pon⟩:=p
  simp only [podD,podC] at h55 ⊢
  obtain ⟨xprs,hxprs⟩:∃ xs,xs=prs.map reqD:=⟨_,rfl⟩
  have cxprs:CleanL xprs:=by rw [hxprs];exact ykY _
  simp only [←hxprs] at h55 ⊢
  obtain ⟨xpts,hxpts⟩:∃ xs,xs=pts.map tolD:=⟨_,rfl⟩
  have cxpts:CleanL xpts:=by rw [hxpts];exact yqY _
  simp only [←hxpts] at h55 ⊢
  obtain ⟨xpss,hxpss⟩:∃ xs,xs=pss.map sprD:=⟨_,rfl⟩
  have cxpss:CleanL xpss:=by rw [hxpss];exact yrY _
  simp only [←hxpss] at h55 ⊢
  obtain ⟨xpns,hxpns⟩:∃ xs,xs=pns.map labD:=⟨_,rfl⟩
  have cxpns:CleanL xpns:=by rw [hxpns];exact y4Y _
  simp only [←hxpns] at h55 ⊢
  obtain ⟨xpas,hxpas⟩:∃ xs,xs=pas.map labD:=⟨_,rfl⟩
  have cxpas:CleanL xpas:=by rw [hxpas];exact y4Y _
  simp only [←hxpas] at h55 ⊢
  refine y0Y ⟨rfl,by decide⟩ fun O hO V hV=>?_
  subst hV
  conv=>cbv
  repeat' (first|(refine And.intro (by first|assumption|exact ⟨by omega⟩|exact ⟨rfl⟩|exact ⟨rfl,rfl⟩) ?_)|(intro (g:Nat);(conv=>cbv)))
  refine ⟨_,h55,?_⟩
  conv=>cbv
  repeat' (first|(refine And.intro (by first|assumption|exact ⟨by omega⟩|exact ⟨rfl⟩|exact ⟨rfl,rfl⟩) ?_)|(intro (g:Nat);(conv=>cbv)))
  rintro (_|_) h<;>replace h:=ci hO h<;>dsimp only [CmpI] at h<;>(conv=>cbv)
  all_goals (first|exact absurd h h0|trivial|rfl)
theorem yorY (R:Ans) (key:Str) (c:ClaimV):AnsF R c85 [mkS key,ybY c] (mkS (domOf key c)):=by
 obtain ⟨r,hr⟩:∃ r,r=domOf key c:=⟨_,rfl⟩
 rw [←hr]
 unfold domOf zoneS at hr
 obtain ⟨cnm,cpo,cge,⟨cot,coz,cok⟩,cpr,cc0,cc1,cos,ctr,cid,cph,cbo,cma⟩:=c
 simp only [ybY,y1gY] at hr ⊢
 obtain ⟨xcos,hxcos⟩:∃ xs,xs=cos.map offD:=⟨_,rfl⟩
 have cxcos:CleanL xcos:=by rw [hxcos];exact y12Y _
 simp only [←hxcos] at hr ⊢
 refine y0Y ⟨rfl,by decide⟩ fun O hO V hV=>?_
 subst hV
 conv=>cbv
 rintro (_|_) h<;>replace h:=cs hO h<;>dsimp only [CmpS] at h<;>(conv=>cbv)
 all_goals (rw [hr];simp [h])
theorem yosY (R:Ans) (s:SnapV) (p:PodV) (claim:Str) (h33:R.v 33 [snapD s] (jI (snapE s))) (h32:R.v 32 [podD p] (jI (podE p))) (h76:∀ n,R.v 76 [snapD s,mkS n] (.tup [ybY ((s.claims.find? fun x=>decide (x.name=n)).getD zeroC),.bool (s.claims.find? fun x=>decide (x.name=n)).isSome])):AnsF R c58 [snapD s,podD p,mkS claim] (jI (yhY s p claim)):=by
 have k:=h76 claim
 have hcl:(s.claims.find? fun x=>decide (x.name=claim)).isSome=y1dY s claim:=y76Y
 rw [hcl] at k
 obtain ⟨cx,hcx⟩:∃ cx,cx=(s.claims.find? fun x=>decide (x.name=claim)).getD zeroC:=⟨_,rfl⟩
 rw [←hcx] at k
 obtain ⟨r,hr⟩:∃ r,r=yhY s p claim:=⟨_,rfl⟩
 rw [←hr]
 unfold yhY at hr
 obtain ⟨w1,hw1⟩:∃ w,w=snapE s:=⟨_,rfl⟩
 obtain ⟨w2,hw2⟩:∃ w,w=podE p:=⟨_,rfl⟩
 obtain ⟨q,hq⟩:∃ w,w=y1dY s claim:=⟨_,rfl⟩
 rw [←hw1,←hw2,←hq] at hr
 rw [←hw1] at h33
 rw [←hw2] at h32
 rw [←hq] at k
 clear h76 hcl hcx hw1 hw2 hq
 obtain ⟨ty,po,pl,cl,cm,co,is,no,hce,hsn,cty,cpo,cpl,ccl,ccm,cco,cis,cno⟩:=ytY s
 rw [hsn] at h33 k ⊢
 clear hce hsn
 obtain ⟨pnm,pap,pn0,pn1,ppr,prs,pts,pss,pns,pas,psi,pon⟩:=p
 simp only [podD,podC] at h32 ⊢
 obtain ⟨xprs,hxprs⟩:∃ xs,xs=prs.map reqD:=⟨_,rfl⟩
 have cxprs:CleanL xprs:=by rw [hxprs];exact ykY _
 simp only [←hxprs] at h32 ⊢
 obtain ⟨xpts,hxpts⟩:∃ xs,xs=pts.map tolD:=⟨_,rfl⟩
 have cxpts:CleanL xpts:=by rw [hxpts];exact yqY _
 simp only [←hxpts] at h32 ⊢
 obtain ⟨xpss,hxpss⟩:∃ xs,xs=pss.map sprD:=⟨_,rfl⟩
 have cxpss:CleanL xpss:=by rw [hxpss];exact yrY _
 simp only [←hxpss] at h32 ⊢
 obtain ⟨xpns,hxpns⟩:∃ xs,xs=pns.map labD:=⟨_,rfl⟩
 have cxpns:CleanL xpns:=by rw [hxpns];exact y4Y _
 simp only [←hxpns] at h32 ⊢
 obtain ⟨xpas,hxpas⟩:∃ xs,xs=pas.map labD:=⟨_,rfl⟩
 have cxpas:CleanL xpas:=by rw [hxpas];exact y4Y _
 simp only [←hxpas] at h32 ⊢
 obtain ⟨cnm,cpo,cge,⟨cot,coz,cok⟩,cpr,cc0,cc1,cos,ctr,cid,cph,cbo,cma⟩:=cx
 simp only [ybY,y1gY] at k
 obtain ⟨xcos,hxcos⟩:∃ xs,xs=cos.map offD:=⟨_,rfl⟩
 have cxcos:CleanL xcos:=by rw [hxcos];exact y12Y _
 simp only [←hxcos] at k
 refine y0Y ⟨rfl,by decide⟩ fun O hO V hV=>?_
 subst hV
 conv=>cbv
 repeat' (first|(refine And.intro (by first|assumption|exact ⟨by omega⟩|exact ⟨rfl⟩|exact ⟨rfl,rfl⟩) ?_)|(intro (g:Nat);(conv=>cbv)))
 refine ⟨_,h33,?_⟩
 conv=>cbv
 rintro (_|_) h<;>replace h:=ci hO h<;>dsimp only [CmpI] at h<;>(conv=>cbv)
 case true=>rw [hr];simp [y3Y,h]
 repeat' (first|(refine And.intro (by first|assumption|exact ⟨by omega⟩|exact ⟨rfl⟩|exact ⟨rfl,rfl⟩) ?_)|(intro (g:Nat);(conv=>cbv)))
 refine ⟨_,h32,?_⟩
 conv=>cbv
 rintro (_|_) h2<;>replace h2:=ci hO h2<;>dsimp only [CmpI] at h2<;>(conv=>cbv)
 case true=>rw [hr];simp [y3Y,h,h2]
 repeat' (first|(refine And.intro (by first|assumption|exact ⟨by omega⟩|exact ⟨rfl⟩|exact ⟨rfl,rfl⟩) ?_)|(intro (g:Nat);(conv=>cbv)))
 refine ⟨_,k,?_⟩
 conv=>cbv
 repeat' (first|(refine And.intro (by first|assumption|exact ⟨by omega⟩|exact ⟨rfl⟩|exact ⟨rfl,rfl⟩) ?_)|(intro (g:Nat);(conv=>cbv)))
 cases q<;>(conv=>cbv)
 all_goals (rw [hr];simp [y3Y,wantI,h,h2])
theorem yotY (R:Ans) (s:SnapV) (key:Str) (q:PodV) (claim:Str) (h76:∀ n,R.v 76 [snapD s,mkS n] (.tup [ybY ((s.claims.find? fun x=>decide (x.name=n)).getD zeroC),.bool (s.claims.find? fun x=>decide (x.name=n)).isSome])) (h85:∀ c,R.v 85 [mkS key,ybY c] (mkS (domOf key c))):AnsF R c60 [snapD s,mkS key,podD q,mkS claim] (.bool (decide (domOf key ((ynY s q.on).getD zeroC)=domOf key ((ynY s claim).getD zeroC)))):=by
 have k1:=h76 q.on
 have k2:=h76 claim
 obtain ⟨c1,hc1⟩:∃ cx,cx=(s.claims.find? fun x=>decide (x.name=q.on)).getD zeroC:=⟨_,rfl⟩
 obtain ⟨c2,hc2⟩:∃ cx,cx=(s.claims.find? fun x=>decide (x.name=claim)).getD zeroC:=⟨_,rfl⟩
 obtain ⟨b1,hb1⟩:∃ cx,cx=(s.claims.find? fun x=>decide (x.name=q.on)).isSome:=⟨_,rfl⟩
 obtain ⟨b2,hb2⟩:∃ cx,cx=(s.claims.find? fun x=>decide (x.name=claim)).isSome:=⟨_,rfl⟩
 rw [←hc1,←hb1] at k1
 rw [←hc2,←hb2] at k2
 have e1:(ynY s q.on).getD zeroC=c1:=hc1.symm
 have e2:(ynY s claim).getD zeroC=c2:=hc2.symm
 rw [e1,e2]
 have j1:=h85 c1
 have j2:=h85 c2
 obtain ⟨d1,hd1⟩:∃ d,d=domOf key c1:=⟨_,rfl⟩
 obtain ⟨d2,hd2⟩:∃ d,d=domOf key c2:=⟨_,rfl⟩
 rw [←hd1] at j1 ⊢
 rw [←hd2] at j2 ⊢
 obtain ⟨r,hr⟩:∃ r,r=decide (d1=d2):=⟨_,rfl⟩
 rw [←hr]
 clear h76 h85 hc1 hc2 hb1 hb2 e1 e2 hd1 hd2
 obtain ⟨ty,po,pl,cl,cm,co,is,no,hce,hsn,cty,cpo,cpl,ccl,ccm,cco,cis,cno⟩:=ytY s
 rw [hsn] at k1 k2 ⊢
 clear hce hsn
 obtain ⟨qnm,qap,qn0,qn1,qpr,qrs,qts,qss,qns,qas,qsi,qon⟩:=q
 simp only [podD,podC] at k1 ⊢
 obtain ⟨xqrs,hxqrs⟩:∃ xs,xs=qrs.map reqD:=⟨_,rfl⟩
 have cxqrs:CleanL xqrs:=by rw [hxqrs];exact ykY _
 simp only [←hxqrs] at k1 ⊢
 obtain ⟨xqts,hxqts⟩:∃ xs,xs=qts.map tolD:=⟨_,rfl⟩
 have cxqts:CleanL xqts:=by rw [hxqts];exact yqY _
 simp only [←hxqts] at k1 ⊢
 obtain ⟨xqss,hxqss⟩:∃ xs,xs=qss.map sprD:=⟨_,rfl⟩
 have cxqss:CleanL xqss:=by rw [hxqss];exact yrY _
 simp only [←hxqss] at k1 ⊢
 obtain ⟨xqns,hxqns⟩:∃ xs,xs=qns.map labD:=⟨_,rfl⟩
 have cxqns:CleanL xqns:=by rw [hxqns];exact y4Y _
 simp only [←hxqns] at k1 ⊢
 obtain ⟨xqas,hxqas⟩:∃ xs,xs=qas.map labD:=⟨_,rfl⟩
 have cxqas:CleanL xqas:=by rw [hxqas];exact y4Y _
 simp only [←hxqas] at k1 ⊢
 obtain ⟨unm,upo,uge,⟨uot,uoz,uok⟩,upr,uc0,uc1,uos,utr,uid,uph,ubo,uma⟩:=c1
 simp only [ybY,y1gY] at k1 j1
 obtain ⟨xuos,hxuos⟩:∃ xs,xs=uos.map offD:=⟨_,rfl⟩
 have cxuos:CleanL xuos:=by rw [hxuos];exact y12Y _
 simp only [←hxuos] at k1 j1
 obtain ⟨vnm,vpo,vge,⟨vot,voz,vok⟩,vpr,vc0,vc1,vos,vtr,vid,vph,vbo,vma⟩:=c2
 simp only [ybY,y1gY] at k2 j2
 obtain ⟨xvos,hxvos⟩:∃ xs,xs=vos.map offD:=⟨_,rfl⟩
 have cxvos:CleanL xvos:=by rw [hxvos];exact y12Y _
 simp only [←hxvos] at k2 j2
 refine y0Y ⟨rfl,by decide⟩ fun O hO V hV=>?_
 subst hV
 conv=>cbv
 repeat' (first|(refine And.intro (by first|assumption|exact ⟨by omega⟩|exact ⟨rfl⟩|exact ⟨rfl,rfl⟩) ?_)|(intro (g:Nat);(conv=>cbv)))
 refine ⟨_,k1,?_⟩
 conv=>cbv
 repeat' (first|(refine And.intro (by first|assumption|exact ⟨by omega⟩|exact ⟨rfl⟩|exact ⟨rfl,rfl⟩) ?_)|(intro (g:Nat);(conv=>cbv)))
 refine ⟨_,k2,?_⟩
 conv=>cbv
 repeat' (first|(refine And.intro (by first|assumption|exact ⟨by omega⟩|exact ⟨rfl⟩|exact ⟨rfl,rfl⟩) ?_)|(intro (g:Nat);(conv=>cbv)))
 refine ⟨_,j1,?_⟩
 conv=>cbv
 repeat' (first|(refine And.intro (by first|assumption|exact ⟨by omega⟩|exact ⟨rfl⟩|exact ⟨rfl,rfl⟩) ?_)|(intro (g:Nat);(conv=>cbv)))
 refine ⟨_,j2,?_⟩
 conv=>cbv
 rintro (_|_) h<;>replace h:=cs hO h<;>dsimp only [CmpS] at h<;>(conv=>cbv)
 all_goals (rw [hr];simp [h])
theorem youY (R:Ans) (s:SnapV) (p:PodV) (claim:Str) (hl:p.near.length<4611686018427387904) (ho:(ysY s p.name).length<4611686018427387904) (h58:R.v 58 [snapD s,podD p,mkS claim] (jI (yhY s p claim))) (h59:yhY s p claim=0->R.v 59 [snapD s,mkS p.name] (.sl 12 false ((ysY s p.name).map podD))) (h60:yhY s p claim=0->∀ t∈p.near,∀ q∈ysY s p.name,R.v 60 [snapD s,mkS t.k,podD q,mkS claim] (.bool (hereB s ((ynY s claim).getD zeroC) t.k q))):AnsF R c29 [snapD s,podD p,mkS claim] (.tup [.bool (nearE s p claim).1,jI (nearE s p claim).2]):=by
 obtain ⟨r,hr⟩:∃ r,r=(nearE s p claim).1:=⟨_,rfl⟩
 have h2:(nearE s p claim).2=yhY s p claim:=rfl
 rw [←hr,h2]
 unfold nearE y57Y at hr
 simp only at hr
 obtain ⟨e,he⟩:∃ e,e=yhY s p claim:=⟨_,rfl⟩
 rw [←he] at h58 h59 h60 hr ⊢
 obtain ⟨c,hc⟩:∃ c,c=(ynY s claim).getD zeroC:=⟨_,rfl⟩
 rw [←hc] at h60 hr
 obtain ⟨ol,hol⟩:∃ o,o=ysY s p.name:=⟨_,rfl⟩
 obtain ⟨H,hH⟩:∃ H,H=hereB s c:=⟨_,rfl⟩
 obtain ⟨T,hT⟩:∃ T,T=nearT s c p:=⟨_,rfl⟩
 have hTt:∀ t,T t=((ol.any fun q=>decide (q.app=t.v)&&H t.k q)||(!(ol.any fun q=>decide (q.app=t.v))&&decide (p.app=t.v))):=fun t=>by rw [hT,hol,hH];rfl
 rw [←hT] at hr
 rw [←hol] at h59 h60 ho
 rw [←hH] at h60
 have hbad:e≠0->r=false:=fun h=>by rw [hr,decide_eq_false h];rfl
 have hr:e=0->r=p.near.all T:=fun h=>by rw [hr,h];rfl
 obtain ⟨os,hos⟩:∃ os,os=ol.map podD:=⟨_,rfl⟩
 have cos:CleanL os:=by rw [hos];exact y1iY _
 rw [←hos] at h59
 clear h2 he hc hol hH hT
 obtain ⟨ty,po,pl,cl,cm,co,is,no,hce,hsn,cty,cpo,cpl,ccl,ccm,cco,cis,cno⟩:=ytY s
 rw [hsn] at h58 h59 h60 ⊢
 clear hce hsn
 obtain ⟨pnm,pap,pn0,pn1,ppr,prs,pts,pss,pns,pas,psi,pon⟩:=p
 simp only [podD,podC] at h58 h59 hl hTt hr h60 ⊢
 obtain ⟨xprs,hxprs⟩:∃ xs,xs=prs.map reqD:=⟨_,rfl⟩
 have cxprs:CleanL xprs:=by rw [hxprs];exact ykY _
 simp only [←hxprs] at h58 h59 hl hTt hr h60 ⊢
 obtain ⟨xpts,hxpts⟩:∃ xs,xs=pts.map tolD:=⟨_,rfl⟩
 have cxpts:CleanL xpts:=by rw [hxpts];exact yqY _
 simp only [←hxpts] at h58 h59 hl hTt hr h60 ⊢
 obtain ⟨xpss,hxpss⟩:∃ xs,xs=pss.map sprD:=⟨_,rfl⟩
 have cxpss:CleanL xpss:=by rw [hxpss];exact yrY _
 simp only [←hxpss] at h58 h59 hl hTt hr h60 ⊢
 obtain ⟨xpns,hxpns⟩:∃ xs,xs=pns.map labD:=⟨_,rfl⟩
 have cxpns:CleanL xpns:=by rw [hxpns];exact y4Y _
 simp only [←hxpns] at h58 h59 hl hTt hr h60 ⊢
 obtain ⟨xpas,hxpas⟩:∃ xs,xs=pas.map labD:=⟨_,rfl⟩
 have cxpas:CleanL xpas:=by rw [hxpas];exact y4Y _
 simp only [←hxpas] at h58 h59 hl hTt hr h60 ⊢
 refine y0Y ⟨rfl,by decide⟩ fun O hO V hV=>?_
 subst hV
 have hlo:O .len os=ol.length:=by rw [o_len hO,hos];simp
 conv=>cbv
 repeat' (first|(refine And.intro (by first|assumption|exact ⟨by omega⟩|exact ⟨by rw [hlen];omega⟩|exact ⟨rfl⟩|exact ⟨rfl,rfl⟩) ?_)|(intro (g:Nat);(conv=>cbv)))
 refine ⟨_,h58,?_⟩
 conv=>cbv
 rintro (_|_) h<;>replace h:=ci hO h<;>dsimp only [CmpI] at h<;>(conv=>cbv)
 case true=>rw [hbad h]
 replace hr:=hr h
 replace h60:=h60 h
 replace h59:=h59 h
 have hlen:O .len xpns=pns.length:=by rw [o_len hO,hxpns];simp
 clear hbad h58
 refine y6Y (fun n d=>∃ (i:Int) (k:Nat),d=⟨[(2,mkS claim),(3,.ptr 3 1 0),(4,.ptr 4 1 0),(23,.sl 2 false xpns),(24,jI (O .len xpns)),(25,jI i)],[(3,⟨1,.rw,.var,(sB s ty po pl cl cm co is no)⟩),(4,⟨1,.rw,.var,[mkS pnm,mkS pap,jI pn0,jI pn1,jI ppr,.sl 4 false xprs,.sl 3 false xpts,.sl 3 false xpss,.sl 2 false xpns,.sl 2 false xpas,jI psi,mkS pon]⟩)],false⟩/\i=k/\k<=pns.length/\n=pns.length-k/\∀ (j:Nat) z,j<k->pns[j]?=some z->T z=true) ⟨_,_,⟨_,0,rfl,rfl,by omega,rfl,by simp⟩,⟨⟨rfl,rfl,rfl,rfl,rfl,rfl,trivial⟩,⟨rfl,rfl,trivial⟩,rfl⟩⟩ ?_
 rintro J up n d ⟨i,k,rfl,hi,hk,rfl,hno⟩
 conv=>cbv
 rintro (_|_) h1<;>(conv=>cbv)
 ·replace h1:=f_lss hO h1
  rw [hlen] at h1
  have:r=true:=by rw [hr];exact y63Y fun j z hj hz=>hno j z (by omega) hz
  rw [this,h]
 replace h1:=t_lss hO h1
 rw [hlen] at h1
 obtain ⟨y,hy⟩:∃ y,pns[k]?=some y:=⟨_,List.getElem?_eq_getElem (by omega)⟩
 have hat:atX xpns i (labD y):=y9Y hy hxpns hi
 have hk60:=h60 y (List.mem_of_getElem? hy)
 have hTy:=hTt y
 obtain ⟨q0,hq⟩:∃ q,q=T y:=⟨_,rfl⟩
 rw [←hq] at hTy
 have hst:q0=true->∀ (j:Nat) z,j<k+1->pns[j]?=some z->T z=true:=fun h=>y64Y hno hy (hq.symm.trans h)
 have hht:q0=false->r=false:=fun h=>by rw [hr];exact y9aY hy (hq.symm.trans h)
 clear hq hy h60 hr hTt hno
 obtain ⟨yk,yv⟩:=y
 simp only [labD] at hat hk60 hTy
 obtain ⟨Hk,hHk⟩:∃ f,f=H yk:=⟨_,rfl⟩
 rw [←hHk] at hk60 hTy
 clear hHk
 refine ⟨_,hat,?_⟩
 conv=>cbv
 intro g10
 conv=>cbv
 repeat' (first|(refine And.intro (by first|assumption|exact ⟨by omega⟩|exact ⟨by rw [hlen];omega⟩|exact ⟨rfl⟩|exact ⟨rfl,rfl⟩) ?_)|(intro (g:Nat);(conv=>cbv)))
 refine ⟨_,h59,?_⟩
 conv=>cbv
 refine y6Y (fun n d=>∃ (i2:Int) (k2:Nat) (sm hh:Bool),d=⟨[(2,mkS claim),(3,.ptr 3 1 0),(4,.ptr 4 1 0),(10,.ptr 10 g10 0),(11,.bool sm),(12,.bool hh),(23,.sl 2 false xpns),(24,jI (O .len xpns)),(25,jI i),(32,.sl 12 false os),(33,jI (O .len os)),(34,jI i2)],[(3,⟨1,.rw,.var,(sB s ty po pl cl cm co is no)⟩),(4,⟨1,.rw,.var,[mkS pnm,mkS pap,jI pn0,jI pn1,jI ppr,.sl 4 false xprs,.sl 3 false xpts,.sl 3 false xpss,.sl 2 false xpns,.sl 2 false xpas,jI psi,mkS pon]⟩),(10,⟨g10,.rw,.var,[mkS yk,mkS yv]⟩)],false⟩/\i2=k2/\k2<=ol.length/\n=ol.length-k2/\(sm=(ol.take k2).any fun q=>decide (q.app=yv))/\(hh=(ol.take k2).any fun q=>decide (q.app=yv)&&Hk q)) ⟨_,_,⟨_,0,_,_,rfl,rfl,by omega,rfl,by simp,by simp⟩,⟨⟨rfl,rfl,rfl,rfl,rfl,rfl,rfl,rfl,rfl,rfl,rfl,rfl,trivial⟩,⟨rfl,rfl,rfl,trivial⟩,rfl⟩⟩ ?_
 rintro J2 up2 n2 d2 ⟨i2,k2,sm,hh,rfl,hi2,hk2,rfl,hsm,hhh⟩
 conv=>cbv
 rintro (_|_) h2<;>(conv=>cbv)
 ·replace h2:=f_lss hO h2
  rw [hlo] at h2
  rw [List.take_of_length_le (by omega)] at hsm hhh
  rw [←hsm,←hhh] at hTy
  clear hsm hhh up2
  cases hh<;>cases sm<;>(conv=>cbv)
  all_goals first
   | exact ⟨_,_,up _ _ ⟨_,k+1,rfl,by rw [y2Y hO (by omega) (by omega)];omega,by omega,rfl,hst (by rw [hTy];rfl)⟩,⟨⟨rfl,rfl,rfl,rfl,rfl,rfl,trivial⟩,⟨rfl,rfl,trivial⟩,rfl⟩,by omega⟩
   | (rw [hht (by rw [hTy];rfl),h];done)
   | (rintro (_|_) h3<;>replace h3:=cs hO h3<;>dsimp only [CmpS] at h3<;>(conv=>cbv))
  all_goals first
   | exact ⟨_,_,up _ _ ⟨_,k+1,rfl,by rw [y2Y hO (by omega) (by omega)];omega,by omega,rfl,hst (by rw [hTy];simp_all)⟩,⟨⟨rfl,rfl,rfl,rfl,rfl,rfl,trivial⟩,⟨rfl,rfl,trivial⟩,rfl⟩,by omega⟩
   | (rw [hht (by rw [hTy];simp_all),h];done)
 replace h2:=t_lss hO h2
 rw [hlo] at h2
 obtain ⟨z,hz⟩:∃ z,ol[k2]?=some z:=⟨_,List.getElem?_eq_getElem (by omega)⟩
 have hatz:atX os i2 (podD z):=y9Y hz hos hi2
 have hkz:=hk60 z (List.mem_of_getElem? hz)
 obtain ⟨b,hb⟩:∃ b,b=Hk z:=⟨_,rfl⟩
 rw [←hb] at hkz
 have e1:((ol.take (k2+1)).any fun q=>decide (q.app=yv))=(sm||decide (z.app=yv)):=by rw [List.take_add_one,hz,List.any_append,hsm];simp
 have e2:((ol.take (k2+1)).any fun q=>decide (q.app=yv)&&Hk q)=(hh||(decide (z.app=yv)&&b)):=by rw [List.take_add_one,hz,List.any_append,hhh,hb];simp
 clear hb hz hsm hhh hk60 hTy hst hht
 obtain ⟨znm,zap,zn0,zn1,zpr,zrs,zts,zss,zns,zas,zsi,zon⟩:=z
 simp only [podD,podC] at hatz hkz e1 e2
 obtain ⟨xzrs,hxzrs⟩:∃ xs,xs=zrs.map reqD:=⟨_,rfl⟩
 have cxzrs:CleanL xzrs:=by rw [hxzrs];exact ykY _
 simp only [←hxzrs] at hatz hkz e1 e2
 obtain ⟨xzts,hxzts⟩:∃ xs,xs=zts.map tolD:=⟨_,rfl⟩
 have cxzts:CleanL xzts:=by rw [hxzts];exact yqY _
 simp only [←hxzts] at hatz hkz e1 e2
 obtain ⟨xzss,hxzss⟩:∃ xs,xs=zss.map sprD:=⟨_,rfl⟩
 have cxzss:CleanL xzss:=by rw [hxzss];exact yrY _
 simp only [←hxzss] at hatz hkz e1 e2
 obtain ⟨xzns,hxzns⟩:∃ xs,xs=zns.map labD:=⟨_,rfl⟩
 have cxzns:CleanL xzns:=by rw [hxzns];exact y4Y _
 simp only [←hxzns] at hatz hkz e1 e2
 obtain ⟨xzas,hxzas⟩:∃ xs,xs=zas.map labD:=⟨_,rfl⟩
 have cxzas:CleanL xzas:=by rw [hxzas];exact y4Y _
 simp only [←hxzas] at hatz hkz e1 e2
 refine ⟨_,hatz,?_⟩
 conv=>cbv
 repeat' (first|(refine And.intro (by first|assumption|exact ⟨by omega⟩|exact ⟨by rw [hlen];omega⟩|exact ⟨rfl⟩|exact ⟨rfl,rfl⟩) ?_)|(intro (g:Nat);(conv=>cbv)))
 rintro (_|_) a1<;>replace a1:=cs hO a1<;>dsimp only [CmpS] at a1<;>(conv=>cbv)
 case false =>
  exact ⟨_,_,up2 _ _ ⟨_,k2+1,sm,hh,rfl,by rw [y2Y hO (by omega) (by omega)];omega,by omega,rfl,by rw [e1];simp [a1],by rw [e2];simp [a1]⟩,⟨⟨rfl,rfl,rfl,rfl,rfl,rfl,rfl,rfl,rfl,rfl,rfl,rfl,trivial⟩,⟨rfl,rfl,rfl,trivial⟩,rfl⟩,by omega⟩
 cases hh<;>(conv=>cbv)
 case true =>
  exact ⟨_,_,up2 _ _ ⟨_,k2+1,true,true,rfl,by rw [y2Y hO (by omega) (by omega)];omega,by omega,rfl,by rw [e1];simp [a1],by rw [e2];simp [a1]⟩,⟨⟨rfl,rfl,rfl,rfl,rfl,rfl,rfl,rfl,rfl,rfl,rfl,rfl,trivial⟩,⟨rfl,rfl,rfl,trivial⟩,rfl⟩,by omega⟩
 repeat' (first|(refine And.intro (by first|assumption|exact ⟨by omega⟩|exact ⟨by rw [hlen];omega⟩|exact ⟨rfl⟩|exact ⟨rfl,rfl⟩) ?_)|(intro (g:Nat);(conv=>cbv)))
 refine ⟨_,hkz,?_⟩
 conv=>cbv
 exact ⟨_,_,up2 _ _ ⟨_,k2+1,true,b,rfl,by rw [y2Y hO (by omega) (by omega)];omega,by omega,rfl,by rw [e1];simp [a1],by rw [e2];simp [a1]⟩,⟨⟨rfl,rfl,rfl,rfl,rfl,rfl,rfl,rfl,rfl,rfl,rfl,rfl,trivial⟩,⟨rfl,rfl,rfl,trivial⟩,rfl⟩,by omega⟩
theorem yovY {α β:Type} (f:α->β->Bool) (a:List α) (b:List β):(a.all fun x=>!b.any fun y=>f x y)=b.all fun y=>a.all fun x=>!f x y:=by
 rw [Bool.eq_iff_iff]
 simp only [List.all_eq_true,Bool.not_eq_true',List.any_eq_false,Bool.not_eq_true]
 exact ⟨fun h y hy x hx=>h x hx y hy,fun h x hx y hy=>h y hy x hx⟩
theorem yowY {α:Type} (f g:α->Bool) (l:List α):(l.all f&&l.all g)=l.all fun x=>f x&&g x:=by
 rw [Bool.eq_iff_iff]
 simp only [Bool.and_eq_true,List.all_eq_true]
 exact ⟨fun h x hx=>⟨h.1 x hx,h.2 x hx⟩,fun h=>⟨fun x hx=>(h x hx).1,fun x hx=>(h x hx).2⟩⟩
def okO (H:Str->PodV->Bool) (app:Str) (ap:List LabV) (q:PodV):Bool:=(ap.all fun t=>!(decide (q.app=t.v)&&H t.k q))&&(q.apart.all fun t=>!(decide (app=t.v)&&H t.k q))
theorem yoxY (s:SnapV) (p:PodV) (c:ClaimV):y47Y s p c=(ysY s p.name).all (okO (hereB s c) p.app p.apart):=by
 unfold y47Y y2oY y2xY okO
 rw [yovY,yowY]
 congr 1
 funext q
 congr 1
 rw [List.not_any_eq_all_not]
 congr 1
 funext t
 rw [show decide (t.v=p.app)=decide (p.app=t.v) from by simp [eq_comm]]
theorem yoyY (R:Ans) (s:SnapV) (p:PodV) (claim:Str) (hl:p.apart.length<4611686018427387904) (ho:(ysY s p.name).length<4611686018427387904) (h58:R.v 58 [snapD s,podD p,mkS claim] (jI (yhY s p claim))) (h59:yhY s p claim=0->R.v 59 [snapD s,mkS p.name] (.sl 12 false ((ysY s p.name).map podD))) (hq:∀ q∈ysY s p.name,q.apart.length<4611686018427387904) (h60:yhY s p claim=0->∀ q∈ysY s p.name,∀ t,t∈p.apart∨t∈q.apart->R.v 60 [snapD s,mkS t.k,podD q,mkS claim] (.bool (hereB s ((ynY s claim).getD zeroC) t.k q))):AnsF R c31 [snapD s,podD p,mkS claim] (.tup [.bool (yfY s p claim).1,jI (yfY s p claim).2]):=by
 obtain ⟨r,hr⟩:∃ r,r=(yfY s p claim).1:=⟨_,rfl⟩
 have h2:(yfY s p claim).2=yhY s p claim:=rfl
 rw [←hr,h2]
 unfold yfY at hr
 simp only at hr
 rw [yoxY] at hr
 obtain ⟨e,he⟩:∃ e,e=yhY s p claim:=⟨_,rfl⟩
 rw [←he] at h58 h59 h60 hr ⊢
 obtain ⟨c,hc⟩:∃ c,c=(ynY s claim).getD zeroC:=⟨_,rfl⟩
 rw [←hc] at h60 hr
 obtain ⟨ol,hol⟩:∃ o,o=ysY s p.name:=⟨_,rfl⟩
 obtain ⟨H,hH⟩:∃ H,H=hereB s c:=⟨_,rfl⟩
 rw [←hol] at h59 h60 ho hr hq
 rw [←hH] at h60 hr
 have hbad:e≠0->r=false:=fun h=>by rw [hr,decide_eq_false h];rfl
 have hr:e=0->r=ol.all (okO H p.app p.apart):=fun h=>by rw [hr,h];rfl
 obtain ⟨os,hos⟩:∃ os,os=ol.map podD:=⟨_,rfl⟩
 have cos:CleanL os:=by rw [hos];exact y1iY _
 rw [←hos] at h59
 clear h2 he hc hol hH
 obtain ⟨ty,po,pl,cl,cm,co,is,no,hce,hsn,cty,cpo,cpl,ccl,ccm,cco,cis,cno⟩:=ytY s
 rw [hsn] at h58 h59 h60 ⊢
 clear hce hsn
 obtain ⟨pnm,pap,pn0,pn1,ppr,prs,pts,pss,pns,pas,psi,pon⟩:=p
 simp only [podD,podC] at h58 h59 hl hr h60 ⊢
 obtain ⟨xprs,hxprs⟩:∃ xs,xs=prs.map reqD:=⟨_,rfl⟩
 have cxprs:CleanL xprs:=by rw [hxprs];exact ykY _
 simp only [←hxprs] at h58 h59 hl hr h60 ⊢
 obtain ⟨xpts,hxpts⟩:∃ xs,xs=pts.map tolD:=⟨_,rfl⟩
 have cxpts:CleanL xpts:=by rw [hxpts];exact yqY _
 simp only [←hxpts] at h58 h59 hl hr h60 ⊢
 obtain ⟨xpss,hxpss⟩:∃ xs,xs=pss.map sprD:=⟨_,rfl⟩
 have cxpss:CleanL xpss:=by rw [hxpss];exact yrY _
 simp only [←hxpss] at h58 h59 hl hr h60 ⊢
 obtain ⟨xpns,hxpns⟩:∃ xs,xs=pns.map labD:=⟨_,rfl⟩
 have cxpns:CleanL xpns:=by rw [hxpns];exact y4Y _
 simp only [←hxpns] at h58 h59 hl hr h60 ⊢
 obtain ⟨xpas,hxpas⟩:∃ xs,xs=pas.map labD:=⟨_,rfl⟩
 have cxpas:CleanL xpas:=by rw [hxpas];exact y4Y _
 simp only [←hxpas] at h58 h59 hl hr h60 ⊢
 refine y0Y ⟨rfl,by decide⟩ fun O hO V hV=>?_
 subst hV
 have hlo:O .len os=ol.length:=by rw [o_len hO,hos];simp
 conv=>cbv
 repeat' (first|(refine And.intro (by first|assumption|exact ⟨by omega⟩|exact ⟨by rw [hlen];omega⟩|exact ⟨rfl⟩|exact ⟨rfl,rfl⟩) ?_)|(intro (g:Nat);(conv=>cbv)))
 refine ⟨_,h58,?_⟩
 conv=>cbv
 rintro (_|_) h<;>replace h:=ci hO h<;>dsimp only [CmpI] at h<;>(conv=>cbv)
 case true=>rw [hbad h]
 replace hr:=hr h
 replace h60:=h60 h
 replace h59:=h59 h
 clear hbad h58
 repeat' (first|(refine And.intro (by first|assumption|exact ⟨by omega⟩|exact ⟨by rw [hlen];omega⟩|exact ⟨rfl⟩|exact ⟨rfl,rfl⟩) ?_)|(intro (g:Nat);(conv=>cbv)))
 refine ⟨_,h59,?_⟩
 conv=>cbv
 clear h59
 obtain ⟨U,hU⟩:∃ U,U=okO H pap pas:=⟨_,rfl⟩
 rw [←hU] at hr
 refine y6Y (fun n d=>∃ (i:Int) (k:Nat),d=⟨[(2,mkS claim),(3,.ptr 3 1 0),(4,.ptr 4 1 0),(25,.sl 12 false os),(26,jI (O .len os)),(27,jI i)],[(3,⟨1,.rw,.var,(sB s ty po pl cl cm co is no)⟩),(4,⟨1,.rw,.var,[mkS pnm,mkS pap,jI pn0,jI pn1,jI ppr,.sl 4 false xprs,.sl 3 false xpts,.sl 3 false xpss,.sl 2 false xpns,.sl 2 false xpas,jI psi,mkS pon]⟩)],false⟩/\i=k/\k<=ol.length/\n=ol.length-k/\∀ (j:Nat) z,j<k->ol[j]?=some z->U z=true) ⟨_,_,⟨_,0,rfl,rfl,by omega,rfl,by simp⟩,⟨⟨rfl,rfl,rfl,rfl,rfl,rfl,trivial⟩,⟨rfl,rfl,trivial⟩,rfl⟩⟩ ?_
 rintro J up n d ⟨i,k,rfl,hi,hk,rfl,hno⟩
 conv=>cbv
 rintro (_|_) h1<;>(conv=>cbv)
 ·replace h1:=f_lss hO h1
  rw [hlo] at h1
  have:r=true:=by rw [hr];exact y63Y fun j z hj hz=>hno j z (by omega) hz
  rw [this,h]
 replace h1:=t_lss hO h1
 rw [hlo] at h1
 obtain ⟨y,hy⟩:∃ y,ol[k]?=some y:=⟨_,List.getElem?_eq_getElem (by omega)⟩
 have hat:atX os i (podD y):=y9Y hy hos hi
 have hk60:=h60 y (List.mem_of_getElem? hy)
 have hq1:=hq y (List.mem_of_getElem? hy)
 obtain ⟨q0,hq0⟩:∃ q,q=U y:=⟨_,rfl⟩
 have hst:q0=true->∀ (j:Nat) z,j<k+1->ol[j]?=some z->U z=true:=fun h=>y64Y hno hy (hq0.symm.trans h)
 have hht:q0=false->r=false:=fun h=>by rw [hr];exact y9aY hy (hq0.symm.trans h)
 rw [hU] at hq0
 unfold okO at hq0
 clear hy h60 hr hno hU hq
 obtain ⟨Hk,hHk⟩:∃ f:Str->Bool,f=fun k=>H k y:=⟨_,rfl⟩
 have hk60:∀ t,t∈pas∨t∈y.apart->V.v 60 [.agg (sB s ty po pl cl cm co is no),mkS t.k,podD y,mkS claim] (.bool (Hk t.k)):=fun t ht=>by rw [hHk];exact hk60 t ht
 have hq0:q0=((pas.all fun z=>!(decide (y.app=z.v)&&Hk z.k))&&(y.apart.all fun z=>!(decide (pap=z.v)&&Hk z.k))):=by rw [hq0,hHk]
 clear hHk
 have f1:∀ z,z∈pas->(decide (y.app=z.v)&&Hk z.k)=true->r=false:=fun z hz h=>hht (by
  rw [hq0]
  have:(pas.all fun z=>!(decide (y.app=z.v)&&Hk z.k))=false:=by
   rw [Bool.eq_false_iff,Ne,List.all_eq_true]
   intro h5
   have:=h5 z hz
   rw [h] at this
   simp at this
  rw [this];rfl)
 have f2:∀ z,z∈y.apart->(decide (pap=z.v)&&Hk z.k)=true->r=false:=fun z hz h=>hht (by
  rw [hq0]
  have:(y.apart.all fun z=>!(decide (pap=z.v)&&Hk z.k))=false:=by
   rw [Bool.eq_false_iff,Ne,List.all_eq_true]
   intro h5
   have:=h5 z hz
   rw [h] at this
   simp at this
  rw [this,Bool.and_false])
 have m1:=fun t ht=>hk60 t (.inl ht)
 have m2:=fun t ht=>hk60 t (.inr ht)
 clear hht hk60
 obtain ⟨ynm,yap,yn0,yn1,ypr,yrs,yts,yss,yns,yas,ysi,yon⟩:=y
 simp only [podD,podC] at hat m1 m2 f1 f2 hq0 hq1
 obtain ⟨xyrs,hxyrs⟩:∃ xs,xs=yrs.map reqD:=⟨_,rfl⟩
 have cxyrs:CleanL xyrs:=by rw [hxyrs];exact ykY _
 simp only [←hxyrs] at hat m1 m2 f1 f2 hq0 hq1
 obtain ⟨xyts,hxyts⟩:∃ xs,xs=yts.map tolD:=⟨_,rfl⟩
 have cxyts:CleanL xyts:=by rw [hxyts];exact yqY _
 simp only [←hxyts] at hat m1 m2 f1 f2 hq0 hq1
 obtain ⟨xyss,hxyss⟩:∃ xs,xs=yss.map sprD:=⟨_,rfl⟩
 have cxyss:CleanL xyss:=by rw [hxyss];exact yrY _
 simp only [←hxyss] at hat m1 m2 f1 f2 hq0 hq1
 obtain ⟨xyns,hxyns⟩:∃ xs,xs=yns.map labD:=⟨_,rfl⟩
 have cxyns:CleanL xyns:=by rw [hxyns];exact y4Y _
 simp only [←hxyns] at hat m1 m2 f1 f2 hq0 hq1
 obtain ⟨xyas,hxyas⟩:∃ xs,xs=yas.map labD:=⟨_,rfl⟩
 have cxyas:CleanL xyas:=by rw [hxyas];exact y4Y _
 simp only [←hxyas] at hat m1 m2 f1 f2 hq0 hq1
 refine ⟨_,hat,?_⟩
 conv=>cbv
 intro g10
 conv=>cbv
 repeat' (first|(refine And.intro (by first|assumption|exact ⟨by omega⟩|exact ⟨by rw [hlen];omega⟩|exact ⟨rfl⟩|exact ⟨rfl,rfl⟩) ?_)|(intro (g:Nat);(conv=>cbv)))
 have hlen2:O .len xpas=pas.length:=by rw [o_len hO,hxpas];simp
 refine y6Y (fun n d=>∃ (i2:Int) (k2:Nat),d=⟨[(2,mkS claim),(3,.ptr 3 1 0),(4,.ptr 4 1 0),(10,.ptr 10 g10 0),(25,.sl 12 false os),(26,jI (O .len os)),(27,jI i),(32,.sl 2 false xpas),(33,jI (O .len xpas)),(34,jI i2)],[(3,⟨1,.rw,.var,(sB s ty po pl cl cm co is no)⟩),(4,⟨1,.rw,.var,[mkS pnm,mkS pap,jI pn0,jI pn1,jI ppr,.sl 4 false xprs,.sl 3 false xpts,.sl 3 false xpss,.sl 2 false xpns,.sl 2 false xpas,jI psi,mkS pon]⟩),(10,⟨g10,.rw,.var,[mkS ynm,mkS yap,jI yn0,jI yn1,jI ypr,.sl 4 false xyrs,.sl 3 false xyts,.sl 3 false xyss,.sl 2 false xyns,.sl 2 false xyas,jI ysi,mkS yon]⟩)],false⟩/\i2=k2/\k2<=pas.length/\n=pas.length-k2/\∀ (j:Nat) z,j<k2->pas[j]?=some z->(!(decide (yap=z.v)&&Hk z.k))=true) ⟨_,_,⟨_,0,rfl,rfl,by omega,rfl,by simp⟩,⟨⟨rfl,rfl,rfl,rfl,rfl,rfl,rfl,rfl,rfl,rfl,trivial⟩,⟨rfl,rfl,rfl,trivial⟩,rfl⟩⟩ ?_
 rintro J2 up2 n2 d2 ⟨i2,k2,rfl,hi2,hk2,rfl,hno2⟩
 conv=>cbv
 rintro (_|_) h2<;>(conv=>cbv)
 case true =>
  replace h2:=t_lss hO h2
  rw [hlen2] at h2
  obtain ⟨z,hz⟩:∃ z,pas[k2]?=some z:=⟨_,List.getElem?_eq_getElem (by omega)⟩
  have hatz:atX xpas i2 (labD z):=y9Y hz hxpas hi2
  have hkz:=m1 z (List.mem_of_getElem? hz)
  obtain ⟨b,hb⟩:∃ b,b=Hk z.k:=⟨_,rfl⟩
  rw [←hb] at hkz
  have hst2:(!(decide (yap=z.v)&&b))=true->∀ (j:Nat) z,j<k2+1->pas[j]?=some z->(!(decide (yap=z.v)&&Hk z.k))=true:=fun h=>y64Y (p:=fun z:LabV=>!(decide (yap=z.v)&&Hk z.k)) hno2 hz (by rw [hb] at h;exact h)
  have hht2:(decide (yap=z.v)&&b)=true->r=false:=fun h=>f1 z (List.mem_of_getElem? hz) (by rw [hb] at h;exact h)
  clear hb hz hno2
  obtain ⟨zk,zv⟩:=z
  simp only [labD] at hatz hkz hst2 hht2
  refine ⟨_,hatz,?_⟩
  conv=>cbv
  repeat' (first|(refine And.intro (by first|assumption|exact ⟨by omega⟩|exact ⟨by rw [hlen];omega⟩|exact ⟨rfl⟩|exact ⟨rfl,rfl⟩) ?_)|(intro (g:Nat);(conv=>cbv)))
  rintro (_|_) a1<;>replace a1:=cs hO a1<;>dsimp only [CmpS] at a1<;>(conv=>cbv)
  case false =>
   exact ⟨_,_,up2 _ _ ⟨_,k2+1,rfl,by rw [y2Y hO (by omega) (by omega)];omega,by omega,rfl,hst2 (by simp [a1])⟩,⟨⟨rfl,rfl,rfl,rfl,rfl,rfl,rfl,rfl,rfl,rfl,trivial⟩,⟨rfl,rfl,rfl,trivial⟩,rfl⟩,by omega⟩
  repeat' (first|(refine And.intro (by first|assumption|exact ⟨by omega⟩|exact ⟨by rw [hlen];omega⟩|exact ⟨rfl⟩|exact ⟨rfl,rfl⟩) ?_)|(intro (g:Nat);(conv=>cbv)))
  refine ⟨_,hkz,?_⟩
  cases b<;>(conv=>cbv)
  case true=>rw [hht2 (by simp [a1]),h]
  exact ⟨_,_,up2 _ _ ⟨_,k2+1,rfl,by rw [y2Y hO (by omega) (by omega)];omega,by omega,rfl,hst2 (by simp)⟩,⟨⟨rfl,rfl,rfl,rfl,rfl,rfl,rfl,rfl,rfl,rfl,trivial⟩,⟨rfl,rfl,rfl,trivial⟩,rfl⟩,by omega⟩
 replace h2:=f_lss hO h2
 rw [hlen2] at h2
 have hall:(pas.all fun z=>!(decide (yap=z.v)&&Hk z.k))=true:=y63Y (p:=fun z:LabV=>!(decide (yap=z.v)&&Hk z.k)) fun j z hj hz=>hno2 j z (by omega) hz
 clear hno2 up2
 have hall0:=hall
 clear hall hlen2 f1 m1
 have hlen2:O .len xyas=yas.length:=by rw [o_len hO,hxyas];simp
 refine y6Y (fun n d=>∃ (i2:Int) (k2:Nat),d=⟨[(2,mkS claim),(3,.ptr 3 1 0),(4,.ptr 4 1 0),(10,.ptr 10 g10 0),(25,.sl 12 false os),(26,jI (O .len os)),(27,jI i),(53,.sl 2 false xyas),(54,jI (O .len xyas)),(55,jI i2)],[(3,⟨1,.rw,.var,(sB s ty po pl cl cm co is no)⟩),(4,⟨1,.rw,.var,[mkS pnm,mkS pap,jI pn0,jI pn1,jI ppr,.sl 4 false xprs,.sl 3 false xpts,.sl 3 false xpss,.sl 2 false xpns,.sl 2 false xpas,jI psi,mkS pon]⟩),(10,⟨g10,.rw,.var,[mkS ynm,mkS yap,jI yn0,jI yn1,jI ypr,.sl 4 false xyrs,.sl 3 false xyts,.sl 3 false xyss,.sl 2 false xyns,.sl 2 false xyas,jI ysi,mkS yon]⟩)],false⟩/\i2=k2/\k2<=yas.length/\n=yas.length-k2/\∀ (j:Nat) z,j<k2->yas[j]?=some z->(!(decide (pap=z.v)&&Hk z.k))=true) ⟨_,_,⟨_,0,rfl,rfl,by omega,rfl,by simp⟩,⟨⟨rfl,rfl,rfl,rfl,rfl,rfl,rfl,rfl,rfl,rfl,trivial⟩,⟨rfl,rfl,rfl,trivial⟩,rfl⟩⟩ ?_
 rintro J2 up2 n2 d2 ⟨i2,k2,rfl,hi2,hk2,rfl,hno2⟩
 conv=>cbv
 rintro (_|_) h2<;>(conv=>cbv)
 case true =>
  replace h2:=t_lss hO h2
  rw [hlen2] at h2
  obtain ⟨z,hz⟩:∃ z,yas[k2]?=some z:=⟨_,List.getElem?_eq_getElem (by omega)⟩
  have hatz:atX xyas i2 (labD z):=y9Y hz hxyas hi2
  have hkz:=m2 z (List.mem_of_getElem? hz)
  obtain ⟨b,hb⟩:∃ b,b=Hk z.k:=⟨_,rfl⟩
  rw [←hb] at hkz
  have hst2:(!(decide (pap=z.v)&&b))=true->∀ (j:Nat) z,j<k2+1->yas[j]?=some z->(!(decide (pap=z.v)&&Hk z.k))=true:=fun h=>y64Y (p:=fun z:LabV=>!(decide (pap=z.v)&&Hk z.k)) hno2 hz (by rw [hb] at h;exact h)
  have hht2:(decide (pap=z.v)&&b)=true->r=false:=fun h=>f2 z (List.mem_of_getElem? hz) (by rw [hb] at h;exact h)
  clear hb hz hno2
  obtain ⟨zk,zv⟩:=z
  simp only [labD] at hatz hkz hst2 hht2
  refine ⟨_,hatz,?_⟩
  conv=>cbv
  repeat' (first|(refine And.intro (by first|assumption|exact ⟨by omega⟩|exact ⟨by rw [hlen];omega⟩|exact ⟨rfl⟩|exact ⟨rfl,rfl⟩) ?_)|(intro (g:Nat);(conv=>cbv)))
  rintro (_|_) a1<;>replace a1:=cs hO a1<;>dsimp only [CmpS] at a1<;>(conv=>cbv)
  case false =>
   exact ⟨_,_,up2 _ _ ⟨_,k2+1,rfl,by rw [y2Y hO (by omega) (by omega)];omega,by omega,rfl,hst2 (by simp [a1])⟩,⟨⟨rfl,rfl,rfl,rfl,rfl,rfl,rfl,rfl,rfl,rfl,trivial⟩,⟨rfl,rfl,rfl,trivial⟩,rfl⟩,by omega⟩
  repeat' (first|(refine And.intro (by first|assumption|exact ⟨by omega⟩|exact ⟨by rw [hlen];omega⟩|exact ⟨rfl⟩|exact ⟨rfl,rfl⟩) ?_)|(intro (g:Nat);(conv=>cbv)))
  refine ⟨_,hkz,?_⟩
  cases b<;>(conv=>cbv)
  case true=>rw [hht2 (by simp [a1]),h]
  exact ⟨_,_,up2 _ _ ⟨_,k2+1,rfl,by rw [y2Y hO (by omega) (by omega)];omega,by omega,rfl,hst2 (by simp)⟩,⟨⟨rfl,rfl,rfl,rfl,rfl,rfl,rfl,rfl,rfl,rfl,trivial⟩,⟨rfl,rfl,rfl,trivial⟩,rfl⟩,by omega⟩
 replace h2:=f_lss hO h2
 rw [hlen2] at h2
 have hall:(yas.all fun z=>!(decide (pap=z.v)&&Hk z.k))=true:=y63Y (p:=fun z:LabV=>!(decide (pap=z.v)&&Hk z.k)) fun j z hj hz=>hno2 j z (by omega) hz
 clear hno2 up2
 exact ⟨_,_,up _ _ ⟨_,k+1,rfl,by rw [y2Y hO (by omega) (by omega)];omega,by omega,rfl,hst (by rw [hq0,hall0,hall];rfl)⟩,⟨⟨rfl,rfl,rfl,rfl,rfl,rfl,trivial⟩,⟨rfl,rfl,trivial⟩,rfl⟩,by omega⟩
end Go.Proofs.AM
