/- Part 29 of the lemmas: AKo, AKp, AKq, AKr, AKs, AKt, AKu. -/
import Derived.Test.YtnbdmjbpgaeacaaGreatDoorC28
import Derived.Test.YtnbdmjbpgaeacaaGreatDoorC15
import Derived.Test.YtnbdmjbpgaeacaaGreatDoorC23
import Derived.Test.YtnbdmjbpgaeacaaGreatDoorC06
set_option maxRecDepth 100000
set_option maxHeartbeats 8000000
set_option linter.all false
namespace Go.Proofs.AM
open Go Go.Lib Cd
theorem yfnY {a:Int}:y3Y [a]=a:=by
 show (if a=0 then (0:Int) else a)=a
 split<;>simp_all
theorem yp8Y {l m:List Int}:y3Y (l++m)=y3Y (l++[y3Y m]):=by
 induction l with
 | nil=>rw [List.nil_append,List.nil_append,yfnY]
 | cons a l ih =>
   show (if a=0 then y3Y (l++m) else a)=if a=0 then y3Y (l++[y3Y m]) else a
   rw [ih]
theorem yp9Y (R:Ans) (s:SnapV) (hF:FSnap s) (h71:∀ n,R.v 71 [jI n] (.bool (timeB n))) (h72:∀ n,R.v 72 [jI n] (.bool (spanB n))) (h73:R.v 73 [.sl 7 false (s.types.map typeD)] (jI (catE s.types))) (h74:∀ y,FPool y->R.v 74 [poolD y] (jI (poolE y))) (h75:R.v 75 [snapD s] (jI (y1oY s))) (h32:∀ y,FPod y->R.v 32 [podD y] (jI (podE y))) (h76:∀ n,R.v 76 [snapD s,mkS n] (.tup [y5Y ((s.claims.find? fun x=>decide (x.name=n)).getD zeroC),.bool (s.claims.find? fun x=>decide (x.name=n)).isSome])) (h77:R.v 77 [snapD s] (jI (y3Y [cmdsE s,y23Y s,y24Y s]))):AnsF R c33 [snapD s] (jI (snapE s)):=by
 have k1:=h71 s.now
 have k2:=h72 s.idle
 have k3:=h72 s.most
 have k4:=h72 s.hold
 have k5:=h72 s.late
 have k6:=h72 s.cool
 obtain ⟨r,hr⟩:∃ r,r=snapE s:=⟨_,rfl⟩
 rw [←hr]
 unfold snapE numsB y4eY at hr
 obtain ⟨b1,hb1⟩:∃ b,b=timeB s.now:=⟨_,rfl⟩
 rw [←hb1] at hr k1
 obtain ⟨b2,hb2⟩:∃ b,b=spanB s.idle:=⟨_,rfl⟩
 rw [←hb2] at hr k2
 obtain ⟨b3,hb3⟩:∃ b,b=spanB s.most:=⟨_,rfl⟩
 rw [←hb3] at hr k3
 obtain ⟨b4,hb4⟩:∃ b,b=spanB s.hold:=⟨_,rfl⟩
 rw [←hb4] at hr k4
 obtain ⟨b5,hb5⟩:∃ b,b=spanB s.late:=⟨_,rfl⟩
 rw [←hb5] at hr k5
 obtain ⟨b6,hb6⟩:∃ b,b=spanB s.cool:=⟨_,rfl⟩
 rw [←hb6] at hr k6
 obtain ⟨w,hw⟩:∃ b,b=catE s.types:=⟨_,rfl⟩
 rw [←hw] at hr h73
 obtain ⟨E1,hE1⟩:∃ b,b=y2eY s:=⟨_,rfl⟩
 obtain ⟨E2,hE2⟩:∃ b,b=y1oY s:=⟨_,rfl⟩
 obtain ⟨E3,hE3⟩:∃ b,b=podsE s:=⟨_,rfl⟩
 obtain ⟨E4,hE4⟩:∃ b,b=y3Y [cmdsE s,y23Y s,y24Y s]:=⟨_,rfl⟩
 rw [show ∀ a b c:Int,y3Y [a,b,c,y2eY s,y1oY s,podsE s,cmdsE s,y23Y s,y24Y s]=y3Y [a,b,c,E1,E2,E3,E4] from fun a b c=>by
  rw [hE1,hE2,hE3,hE4]
  exact yp8Y (l:=[a,b,c,y2eY s,y1oY s,podsE s])] at hr
 rw [←hE2] at h75
 rw [←hE4] at h77
 unfold y2eY at hE1
 unfold podsE at hE3
 clear hb1 hb2 hb3 hb4 hb5 hb6 hw hE2 hE4 h71 h72
 obtain ⟨ty,po,pl,cl,cm,co,is,no,hce,hsn,cty,cpo,cpl,ccl,ccm,cco,cis,cno⟩:=yxY s
 rw [hsn] at h75 h76 h77 ⊢
 rw [←hce.ty] at h73
 refine y2Y ⟨rfl,by decide⟩ fun O hO V hV=>?_
 subst hV
 have lpo:O .len po=s.pods.length:=by rw [o_len hO,hce.po];simp
 have lpl:O .len pl=s.pools.length:=by rw [o_len hO,hce.pl];simp
 have lcl:O .len cl=s.claims.length:=by rw [o_len hO,hce.cl];simp
 have lcm:O .len cm=s.cmds.length:=by rw [o_len hO,hce.cm];simp
 have lco:O .len co=s.cools.length:=by rw [o_len hO,hce.co];simp
 have lis:O .len is=s.insts.length:=by rw [o_len hO,hce.is];simp
 have lno:O .len no=s.notes.length:=by rw [o_len hO,hce.no];simp
 conv=>cbv
 refine ⟨_,k1,?_⟩
 cases b1<;>(conv=>cbv)
 case false=>exact congrArg (D.int .i64) (by rw [hr];rfl)
 refine ⟨_,k2,?_⟩
 cases b2<;>(conv=>cbv)
 case false=>exact congrArg (D.int .i64) (by rw [hr];rfl)
 refine ⟨_,k3,?_⟩
 cases b3<;>(conv=>cbv)
 case false=>exact congrArg (D.int .i64) (by rw [hr];rfl)
 refine ⟨_,k4,?_⟩
 cases b4<;>(conv=>cbv)
 case false=>exact congrArg (D.int .i64) (by rw [hr];rfl)
 refine ⟨_,k5,?_⟩
 cases b5<;>(conv=>cbv)
 case false=>exact congrArg (D.int .i64) (by rw [hr];rfl)
 refine ⟨_,k6,?_⟩
 cases b6<;>(conv=>cbv)
 case false=>exact congrArg (D.int .i64) (by rw [hr];rfl)
 refine ⟨cty,?_⟩
 refine ⟨_,h73,?_⟩
 conv=>cbv
 rintro (_|_) h<;>replace h:=ci hO h<;>dsimp only [CmpI] at h<;>(conv=>cbv)
 case true=>exact congrArg (D.int .i64) (by rw [hr];simp [y3Y,h])
 subst h
 rintro (_|_) a0<;>(conv=>cbv)
 case true =>
  replace a0:=t_gtr hO a0
  rw [lpo] at a0
  exact congrArg (D.int .i64) (by rw [hr];have:¬s.pods.length<=24:=by omega
                                  simp [y3Y,this])
 replace a0:=f_gtr hO a0
 rw [lpo] at a0
 rintro (_|_) a1<;>(conv=>cbv)
 case true =>
  replace a1:=t_gtr hO a1
  rw [lpl] at a1
  exact congrArg (D.int .i64) (by rw [hr];have:¬s.pools.length<=4:=by omega
                                  simp [y3Y,this])
 replace a1:=f_gtr hO a1
 rw [lpl] at a1
 rintro (_|_) a2<;>(conv=>cbv)
 case true =>
  replace a2:=t_gtr hO a2
  rw [lcl] at a2
  exact congrArg (D.int .i64) (by rw [hr];have:¬s.claims.length<=16:=by omega
                                  simp [y3Y,this])
 replace a2:=f_gtr hO a2
 rw [lcl] at a2
 rintro (_|_) a3<;>(conv=>cbv)
 case true =>
  replace a3:=t_gtr hO a3
  rw [lcm] at a3
  exact congrArg (D.int .i64) (by rw [hr];have:¬s.cmds.length<=1:=by omega
                                  simp [y3Y,this])
 replace a3:=f_gtr hO a3
 rw [lcm] at a3
 rintro (_|_) a4<;>(conv=>cbv)
 case true =>
  replace a4:=t_gtr hO a4
  rw [lco] at a4
  exact congrArg (D.int .i64) (by rw [hr];have:¬s.cools.length<=72:=by omega
                                  simp [y3Y,this])
 replace a4:=f_gtr hO a4
 rw [lco] at a4
 rintro (_|_) a5<;>(conv=>cbv)
 case true =>
  replace a5:=t_gtr hO a5
  rw [lis] at a5
  exact congrArg (D.int .i64) (by rw [hr];have:¬s.insts.length<=64:=by omega
                                  simp [y3Y,this])
 replace a5:=f_gtr hO a5
 rw [lis] at a5
 rintro (_|_) a6<;>(conv=>cbv)
 case true =>
  replace a6:=t_gtr hO a6
  rw [lno] at a6
  exact congrArg (D.int .i64) (by rw [hr];have:¬s.notes.length<=32:=by omega
                                  simp [y3Y,this])
 replace a6:=f_gtr hO a6
 rw [lno] at a6
 have hr:r=y3Y [E1,E2,E3,E4]:=by
  rw [hr]
  have:(decide (s.pods.length<=24)&&decide (s.pools.length<=4)&&decide (s.claims.length<=16)&&decide (s.cmds.length<=1)&&decide (s.cools.length<=72)&&decide (s.insts.length<=64)&&decide (s.notes.length<=32))=true:=by simp;omega
  rw [this]
  simp only [Bool.and_self,y1dY,y4iY]
 clear h73 a0 a1 a2 a3 a4 a5 a6 k1 k2 k3 k4 k5 k6
 have hl:=hF.pools.lt
 have hf:=hF.pools.all
 have hxs:=hce.pl
 obtain ⟨l,hl0⟩:∃ l,l=s.pools:=⟨_,rfl⟩
 rw [←hl0] at hl hE1 hxs hf
 obtain ⟨G,hG⟩:∃ G,G=upE y35Y l:=⟨_,rfl⟩
 rw [←hG] at hE1
 have hlen:O .len pl=l.length:=by rw [o_len hO,hxs];simp
 refine y4Y (fun n d=>∃ (i:Int) (k:Nat),d=⟨[(1,.ptr 1 1 0),(97,.sl 10 false pl),(98,jI (O .len pl)),(99,jI i)],[(1,⟨1,.rw,.var,(sB s ty po pl cl cm co is no)⟩)],false⟩/\i=k/\k<=l.length/\n=l.length-k/\∀ j,j<k->G j=0) ⟨_,_,⟨_,0,rfl,rfl,by omega,rfl,by simp⟩,⟨⟨rfl,rfl,rfl,rfl,trivial⟩,⟨rfl,trivial⟩,rfl⟩⟩ ?_
 rintro J up n d ⟨i,k,rfl,hi,hk,rfl,hno⟩
 conv=>cbv
 rintro (_|_) h1<;>(conv=>cbv)
 ·replace h1:=f_lss hO h1
  rw [hlen] at h1
  have hz:E1=0:=by rw [hE1];exact ywY (fun j hj=>hno j (by omega))
  rw [hz] at hr
  clear up hno hG hz hE1 hf hxs hlen hl hk h1 hi hl0
  repeat' (first|(refine And.intro (by first|assumption|exact ⟨by omega⟩|exact ⟨by rw [hlen];omega⟩|exact ⟨rfl⟩|exact ⟨rfl,rfl⟩) ?_)|(intro (g:Nat);(conv=>cbv)))
  refine ⟨_,h75,?_⟩
  conv=>cbv
  rintro (_|_) h<;>replace h:=ci hO h<;>dsimp only [CmpI] at h<;>(conv=>cbv)
  case true=>exact congrArg (D.int .i64) (by rw [hr];simp [y3Y,h])
  subst h
  rw [y4iY,y4iY] at hr
  clear h75
  have hl:=hF.pods.lt
  have hf:=hF.pods.all
  have hxs:=hce.po
  obtain ⟨l,hl0⟩:∃ l,l=s.pods:=⟨_,rfl⟩
  rw [←hl0] at hl hE3 hxs hf
  obtain ⟨G,hG⟩:∃ G,G=upE (vpodE s) l:=⟨_,rfl⟩
  rw [←hG] at hE3
  have hlen:O .len po=l.length:=by rw [o_len hO,hxs];simp
  refine y4Y (fun n d=>∃ (i:Int) (k:Nat),d=⟨[(1,.ptr 1 1 0),(130,.sl 12 false po),(131,jI (O .len po)),(132,jI i)],[(1,⟨1,.rw,.var,(sB s ty po pl cl cm co is no)⟩)],false⟩/\i=k/\k<=l.length/\n=l.length-k/\∀ j,j<k->G j=0) ⟨_,_,⟨_,0,rfl,rfl,by omega,rfl,by simp⟩,⟨⟨rfl,rfl,rfl,rfl,trivial⟩,⟨rfl,trivial⟩,rfl⟩⟩ ?_
  rintro J up n d ⟨i,k,rfl,hi,hk,rfl,hno⟩
  conv=>cbv
  rintro (_|_) h1<;>(conv=>cbv)
  ·replace h1:=f_lss hO h1
   rw [hlen] at h1
   have hz:E3=0:=by rw [hE3];exact ywY (fun j hj=>hno j (by omega))
   rw [hz] at hr
   clear up hno hG hz hE3 hf hxs hlen hl hk h1 hi hl0
   repeat' (first|(refine And.intro (by first|assumption|exact ⟨by omega⟩|exact ⟨by rw [hlen];omega⟩|exact ⟨rfl⟩|exact ⟨rfl,rfl⟩) ?_)|(intro (g:Nat);(conv=>cbv)))
   refine ⟨_,h77,?_⟩
   conv=>cbv
   exact congrArg (D.int .i64) (by rw [hr,y4iY,yfnY])
  replace h1:=t_lss hO h1
  rw [hlen] at h1
  obtain ⟨y,hy⟩:∃ y,l[k]?=some y:=⟨_,List.getElem?_eq_getElem (by omega)⟩
  have hat:atX po i (podD y):=y7Y hy hxs hi
  obtain ⟨e,he⟩:∃ e,e=G k:=⟨_,rfl⟩
  have hend:∀ v,e=v->v≠0->v=r:=fun v h1 h2=>by
   have:E3=v:=by rw [hE3];exact yfY (by omega) hno (h1.symm.trans he) h2
   rw [hr,this]
   simp [y3Y,h2]
  have hgo:e=0->∀ j,j<k+1->G j=0:=fun h=>yjY hno (he.symm.trans h)
  rw [hG,y14Y hy] at he
  have hFy:=hf y (List.mem_of_getElem? hy)
  clear hG hf
  have hk1:=h32 y hFy
  have hk2:=h76 y.on
  have hcl:(s.claims.find? fun x=>decide (x.name=y.on)).isSome=y1aY s y.on:=yaoY
  rw [hcl] at hk2
  obtain ⟨cx,hcx⟩:∃ cx,cx=(s.claims.find? fun x=>decide (x.name=y.on)).getD zeroC:=⟨_,rfl⟩
  rw [←hcx] at hk2
  obtain ⟨w,hw⟩:∃ w,w=podE y:=⟨_,rfl⟩
  obtain ⟨q1,hq1⟩:∃ w,w=y1aY s y.on:=⟨_,rfl⟩
  unfold vpodE rizE at he
  rw [←hw,←hq1] at he
  rw [←hw] at hk1
  rw [←hq1] at hk2
  have g1:w≠0->e=w:=fun h=>by rw [he,if_neg h]
  obtain ⟨p,hp,g2⟩:∃ p:PodV,(0<k->l[k-1]?=some p)/\(w=0->e=y3Y [if 0<k then (if p.name<y.name then 0 else 6) else 0,wantI (decide (y.on=[])||q1) 5,wantI (decide (y.since<=s.now)) 1]):=by
   by_cases h0:0<k
   ·obtain ⟨p,hp⟩:∃ p,l[k-1]?=some p:=⟨_,List.getElem?_eq_getElem (by omega)⟩
    rw [y34Y h0 hp] at he
    exact ⟨p,fun _=>hp,fun h=>by rw [he,if_pos h];simp [h0]⟩
   ·have:k=0:=by omega
    subst this
    exact ⟨y,fun h=>absurd h (by omega),fun h=>by rw [he,if_pos h];simp⟩
  have hsub:0<k->O .iop .sub .i64 i 1=((k-1:Nat):Int):=fun h=>by rw [y15Y hO (by omega) (by omega)];omega
  have hat2:0<k->atX po (O .iop .sub .i64 i 1) (podD p):=fun h=>y7Y (hp h) hxs (hsub h)
  clear he hw h32 h76 hq1 hy hFy hp hsub hcl hcx
  obtain ⟨znm,zpo,zge,⟨zot,zoz,zok⟩,zpr,zc0,zc1,zos,ztr,zid,zph,zbo,zma⟩:=cx
  simp only [y5Y,y12Y] at hk2
  obtain ⟨xzos,hxzos⟩:∃ xs,xs=zos.map offD:=⟨_,rfl⟩
  have cxzos:CleanL xzos:=by rw [hxzos];exact y11Y _
  simp only [←hxzos] at hk2
  obtain ⟨pnm,pap,pn0,pn1,ppr,prs,pts,pss,pns,pas,psi,pon⟩:=p
  simp only [podD,podC] at hat2 g2
  obtain ⟨xprs,hxprs⟩:∃ xs,xs=prs.map reqD:=⟨_,rfl⟩
  have cxprs:CleanL xprs:=by rw [hxprs];exact y1bY _
  simp only [←hxprs] at hat2 g2
  obtain ⟨xpts,hxpts⟩:∃ xs,xs=pts.map tolD:=⟨_,rfl⟩
  have cxpts:CleanL xpts:=by rw [hxpts];exact y2fY _
  simp only [←hxpts] at hat2 g2
  obtain ⟨xpss,hxpss⟩:∃ xs,xs=pss.map sprD:=⟨_,rfl⟩
  have cxpss:CleanL xpss:=by rw [hxpss];exact y2bY _
  simp only [←hxpss] at hat2 g2
  obtain ⟨xpns,hxpns⟩:∃ xs,xs=pns.map labD:=⟨_,rfl⟩
  have cxpns:CleanL xpns:=by rw [hxpns];exact yeY _
  simp only [←hxpns] at hat2 g2
  obtain ⟨xpas,hxpas⟩:∃ xs,xs=pas.map labD:=⟨_,rfl⟩
  have cxpas:CleanL xpas:=by rw [hxpas];exact yeY _
  simp only [←hxpas] at hat2 g2
  obtain ⟨ynm,yap,yn0,yn1,ypr,yrs,yts,yss,yns,yas,ysi,yon⟩:=y
  simp only [podD,podC] at hat hk1 hk2 g2
  obtain ⟨xyrs,hxyrs⟩:∃ xs,xs=yrs.map reqD:=⟨_,rfl⟩
  have cxyrs:CleanL xyrs:=by rw [hxyrs];exact y1bY _
  simp only [←hxyrs] at hat hk1 hk2 g2
  obtain ⟨xyts,hxyts⟩:∃ xs,xs=yts.map tolD:=⟨_,rfl⟩
  have cxyts:CleanL xyts:=by rw [hxyts];exact y2fY _
  simp only [←hxyts] at hat hk1 hk2 g2
  obtain ⟨xyss,hxyss⟩:∃ xs,xs=yss.map sprD:=⟨_,rfl⟩
  have cxyss:CleanL xyss:=by rw [hxyss];exact y2bY _
  simp only [←hxyss] at hat hk1 hk2 g2
  obtain ⟨xyns,hxyns⟩:∃ xs,xs=yns.map labD:=⟨_,rfl⟩
  have cxyns:CleanL xyns:=by rw [hxyns];exact yeY _
  simp only [←hxyns] at hat hk1 hk2 g2
  obtain ⟨xyas,hxyas⟩:∃ xs,xs=yas.map labD:=⟨_,rfl⟩
  have cxyas:CleanL xyas:=by rw [hxyas];exact yeY _
  simp only [←hxyas] at hat hk1 hk2 g2
  refine ⟨_,hat,?_⟩
  conv=>cbv
  repeat' (first|(refine And.intro (by first|assumption|exact ⟨by omega⟩|exact ⟨by rw [hlen];omega⟩|exact ⟨rfl⟩|exact ⟨rfl,rfl⟩) ?_)|(intro (g:Nat);(conv=>cbv)))
  refine ⟨_,hk1,?_⟩
  conv=>cbv
  rintro (_|_) h<;>replace h:=ci hO h<;>dsimp only [CmpI] at h<;>(conv=>cbv)
  case true=>exact congrArg (D.int .i64) (hend w (g1 h) (h))
  replace g2:=g2 h
  clear h
  rintro (_|_) a<;>replace a:=ci hO a<;>dsimp only [CmpI] at a<;>(conv=>cbv)
  case true =>
   refine ⟨_,hat2 (by omega),?_⟩
   conv=>cbv
   rintro (_|_) h3<;>replace h3:=cs hO h3<;>dsimp only [CmpS] at h3<;>(conv=>cbv)
   case true=>exact congrArg (D.int .i64) (hend 6 (by rw [g2,if_pos (by omega),if_neg h3];rfl) (by decide))
   rw [if_pos (by omega),if_pos h3] at g2
   repeat' (first|(refine And.intro (by first|assumption|exact ⟨by omega⟩|exact ⟨by rw [hlen];omega⟩|exact ⟨rfl⟩|exact ⟨rfl,rfl⟩) ?_)|(intro (g:Nat);(conv=>cbv)))
   refine ⟨_,hk2,?_⟩
   conv=>cbv
   repeat' (first|(refine And.intro (by first|assumption|exact ⟨by omega⟩|exact ⟨by rw [hlen];omega⟩|exact ⟨rfl⟩|exact ⟨rfl,rfl⟩) ?_)|(intro (g:Nat);(conv=>cbv)))
   cases q1
   all_goals (conv=>cbv)
   all_goals (rintro (_|_) h<;>replace h:=cs hO h<;>dsimp only [CmpS] at h<;>(conv=>cbv))
   all_goals first
    | exact congrArg (D.int .i64) (hend 5 (by rw [g2];simp [y3Y,wantI,h]) (by decide))
    | (rintro (_|_) h3<;>replace h3:=ci hO h3<;>dsimp only [CmpI] at h3<;>(conv=>cbv)<;>(first|replace h3:ysi > s.now:=h3|replace h3:ysi<=s.now:=h3|replace h3:¬ysi > s.now:=h3))
   all_goals first
    | exact congrArg (D.int .i64) (hend 1 (by rw [g2];simp [y3Y,wantI,h];omega) (by decide))
    | exact ⟨_,_,up _ _ ⟨_,k+1,rfl,by rw [y0Y hO (by omega) (by omega)];omega,by omega,rfl,hgo (by rw [g2];simp [y3Y,wantI,h];omega)⟩,⟨⟨rfl,rfl,rfl,rfl,trivial⟩,⟨rfl,trivial⟩,rfl⟩,by omega⟩
  rw [if_neg (by omega)] at g2
  repeat' (first|(refine And.intro (by first|assumption|exact ⟨by omega⟩|exact ⟨by rw [hlen];omega⟩|exact ⟨rfl⟩|exact ⟨rfl,rfl⟩) ?_)|(intro (g:Nat);(conv=>cbv)))
  refine ⟨_,hk2,?_⟩
  conv=>cbv
  repeat' (first|(refine And.intro (by first|assumption|exact ⟨by omega⟩|exact ⟨by rw [hlen];omega⟩|exact ⟨rfl⟩|exact ⟨rfl,rfl⟩) ?_)|(intro (g:Nat);(conv=>cbv)))
  cases q1
  all_goals (conv=>cbv)
  all_goals (rintro (_|_) h<;>replace h:=cs hO h<;>dsimp only [CmpS] at h<;>(conv=>cbv))
  all_goals first
   | exact congrArg (D.int .i64) (hend 5 (by rw [g2];simp [y3Y,wantI,h]) (by decide))
   | (rintro (_|_) h3<;>replace h3:=ci hO h3<;>dsimp only [CmpI] at h3<;>(conv=>cbv)<;>(first|replace h3:ysi > s.now:=h3|replace h3:ysi<=s.now:=h3|replace h3:¬ysi > s.now:=h3))
  all_goals first
   | exact congrArg (D.int .i64) (hend 1 (by rw [g2];simp [y3Y,wantI,h];omega) (by decide))
   | exact ⟨_,_,up _ _ ⟨_,k+1,rfl,by rw [y0Y hO (by omega) (by omega)];omega,by omega,rfl,hgo (by rw [g2];simp [y3Y,wantI,h];omega)⟩,⟨⟨rfl,rfl,rfl,rfl,trivial⟩,⟨rfl,trivial⟩,rfl⟩,by omega⟩
 replace h1:=t_lss hO h1
 rw [hlen] at h1
 obtain ⟨y,hy⟩:∃ y,l[k]?=some y:=⟨_,List.getElem?_eq_getElem (by omega)⟩
 have hat:atX pl i (poolD y):=y7Y hy hxs hi
 obtain ⟨e,he⟩:∃ e,e=G k:=⟨_,rfl⟩
 have hend:∀ v,e=v->v≠0->v=r:=fun v h1 h2=>by
  have:E1=v:=by rw [hE1];exact yfY (by omega) hno (h1.symm.trans he) h2
  rw [hr,this]
  simp [y3Y,h2]
 have hgo:e=0->∀ j,j<k+1->G j=0:=fun h=>yjY hno (he.symm.trans h)
 rw [hG,y14Y hy] at he
 have hFy:=hf y (List.mem_of_getElem? hy)
 clear hG hf
 have hk1:=h74 y hFy
 obtain ⟨w,hw⟩:∃ w,w=poolE y:=⟨_,rfl⟩
 unfold y35Y rizE at he
 rw [←hw] at he
 rw [←hw] at hk1
 have g1:w≠0->e=w:=fun h=>by rw [he,if_neg h]
 obtain ⟨p,hp,g2⟩:∃ p:PoolV,(0<k->l[k-1]?=some p)/\(w=0->e=if 0<k then (if p.name<y.name then 0 else 6) else 0):=by
  by_cases h0:0<k
  ·obtain ⟨p,hp⟩:∃ p,l[k-1]?=some p:=⟨_,List.getElem?_eq_getElem (by omega)⟩
   rw [y34Y h0 hp] at he
   exact ⟨p,fun _=>hp,fun h=>by rw [he,if_pos h];simp [h0]⟩
  ·have:k=0:=by omega
   subst this
   exact ⟨y,fun h=>absurd h (by omega),fun h=>by rw [he,if_pos h];simp⟩
 have hsub:0<k->O .iop .sub .i64 i 1=((k-1:Nat):Int):=fun h=>by rw [y15Y hO (by omega) (by omega)];omega
 have hat2:0<k->atX pl (O .iop .sub .i64 i 1) (poolD p):=fun h=>y7Y (hp h) hxs (hsub h)
 clear he hw h74 h32 h76 h75 h77 hy hFy hp hsub
 obtain ⟨pnm,pwe,pl0,pl1,prs,pts,pge,pex,pbu,pme⟩:=p
 simp only [poolD,poolC] at hat2 g2
 obtain ⟨xprs,hxprs⟩:∃ xs,xs=prs.map reqD:=⟨_,rfl⟩
 have cxprs:CleanL xprs:=by rw [hxprs];exact y1bY _
 simp only [←hxprs] at hat2 g2
 obtain ⟨xpts,hxpts⟩:∃ xs,xs=pts.map labD:=⟨_,rfl⟩
 have cxpts:CleanL xpts:=by rw [hxpts];exact yeY _
 simp only [←hxpts] at hat2 g2
 obtain ⟨ynm,ywe,yl0,yl1,yrs,yts,yge,yex,ybu,yme⟩:=y
 simp only [poolD,poolC] at hat hk1 g2
 obtain ⟨xyrs,hxyrs⟩:∃ xs,xs=yrs.map reqD:=⟨_,rfl⟩
 have cxyrs:CleanL xyrs:=by rw [hxyrs];exact y1bY _
 simp only [←hxyrs] at hat hk1 g2
 obtain ⟨xyts,hxyts⟩:∃ xs,xs=yts.map labD:=⟨_,rfl⟩
 have cxyts:CleanL xyts:=by rw [hxyts];exact yeY _
 simp only [←hxyts] at hat hk1 g2
 refine ⟨_,hat,?_⟩
 conv=>cbv
 repeat' (first|(refine And.intro (by first|assumption|exact ⟨by omega⟩|exact ⟨by rw [hlen];omega⟩|exact ⟨rfl⟩|exact ⟨rfl,rfl⟩) ?_)|(intro (g:Nat);(conv=>cbv)))
 refine ⟨_,hk1,?_⟩
 conv=>cbv
 rintro (_|_) h<;>replace h:=ci hO h<;>dsimp only [CmpI] at h<;>(conv=>cbv)
 case true=>exact congrArg (D.int .i64) (hend w (g1 h) (h))
 replace g2:=g2 h
 clear h
 rintro (_|_) a<;>replace a:=ci hO a<;>dsimp only [CmpI] at a<;>(conv=>cbv)
 case true =>
  refine ⟨_,hat2 (by omega),?_⟩
  conv=>cbv
  rintro (_|_) h3<;>replace h3:=cs hO h3<;>dsimp only [CmpS] at h3<;>(conv=>cbv)
  case true=>exact congrArg (D.int .i64) (hend 6 (by rw [g2,if_pos (by omega),if_neg h3]) (by decide))
  rw [if_pos (by omega),if_pos h3] at g2
  exact ⟨_,_,up _ _ ⟨_,k+1,rfl,by rw [y0Y hO (by omega) (by omega)];omega,by omega,rfl,hgo (g2)⟩,⟨⟨rfl,rfl,rfl,rfl,trivial⟩,⟨rfl,trivial⟩,rfl⟩,by omega⟩
 rw [if_neg (by omega)] at g2
 exact ⟨_,_,up _ _ ⟨_,k+1,rfl,by rw [y0Y hO (by omega) (by omega)];omega,by omega,rfl,hgo (g2)⟩,⟨⟨rfl,rfl,rfl,rfl,trivial⟩,⟨rfl,trivial⟩,rfl⟩,by omega⟩
theorem yfoY {α:Type} (p:α->Bool) (l:List α):(idxI p l=-1/\l.find? p=none)∨∃ (k:Nat) (y:α),k<l.length/\idxI p l=k/\l[k]?=some y/\l.find? p=some y:=by
 cases hf:l.find? p with
 | none=>exact .inl ⟨y32Y fun y hy=>by simpa using List.find?_eq_none.1 hf y hy,rfl⟩
 | some y =>
   obtain ⟨h1,i,h2,h3,h4⟩:=List.find?_eq_some_iff_getElem.1 hf
   have h5:l[i]?=some y:=by rw [List.getElem?_eq_getElem h2,h3]
   refine .inr ⟨i,y,h2,y33Y h5 h1 (fun j z hj hz=>?_),h5,rfl⟩
   have:=h4 j hj
   obtain ⟨h6,h7⟩:=List.getElem?_eq_some_iff.1 hz
   rw [←h7]
   simpa using this
theorem ypaY (R:Ans) (key:Str) (c:ClaimV):AnsF R c85 [mkS key,y5Y c] (mkS (domOf key c)):=by
 obtain ⟨r,hr⟩:∃ r,r=domOf key c:=⟨_,rfl⟩
 rw [←hr]
 unfold domOf zoneS at hr
 obtain ⟨cnm,cpo,cge,⟨cot,coz,cok⟩,cpr,cc0,cc1,cos,ctr,cid,cph,cbo,cma⟩:=c
 simp only [y5Y,y12Y] at hr ⊢
 obtain ⟨xcos,hxcos⟩:∃ xs,xs=cos.map offD:=⟨_,rfl⟩
 have cxcos:CleanL xcos:=by rw [hxcos];exact y11Y _
 simp only [←hxcos] at hr ⊢
 refine y2Y ⟨rfl,by decide⟩ fun O hO V hV=>?_
 subst hV
 conv=>cbv
 rintro (_|_) h<;>replace h:=cs hO h<;>dsimp only [CmpS] at h<;>(conv=>cbv)
 all_goals (rw [hr];simp [h])
end Go.Proofs.AM
