/- Part 20 of the lemmas: AOk, AOl, AOm. -/
import Derived.Test.YtnbdmjbpgaeacaaGreatDoorC17
import Derived.Test.YtnbdmjbpgaeacaaGreatDoorC13
import Derived.Test.YtnbdmjbpgaeacaaGreatDoorC06
set_option maxRecDepth 100000
set_option maxHeartbeats 8000000
set_option linter.all false
namespace Go.Proofs.AM
open Go Go.Lib Cd
theorem ymhY (R:Ans) (p:PodV) (hF:FPod p) (h110:∀ s,SL s->R.v 65 [mkS s] (.bool (nameB s))) (h111:∀ a b,R.v 66 [.agg [jI a,jI b]] (jI (amtsE a b)))
 (h37:R.v 67 [.sl 4 false (p.reqs.map reqD)] (jI (reqsE 8 p.reqs))) (h112:R.v 68 [.sl 3 false (p.tols.map tolD)] (jI (tolsE p.tols))) (h113:∀ l:List LabV,FLs FLab l->R.v 69 [.sl 2 false (l.map labD)] (jI (y16Y l)))
 (h114:∀ n lo hi,R.v 70 [jI n,jI lo,jI hi] (.bool (btw n lo hi))) :
 AnsF R c32 [podD p] (jI (podE p)):=by
 obtain ⟨name,app,n0,n1,prio,reqs,tols,spr,near,apart,since,on⟩:=p
 have k1:=h110 name hF.name
 have k2:=h110 app hF.app
 have k3:=h111 n0 n1
 have k8:=h113 near hF.near
 have k9:=h113 apart hF.apart
 have k10:=h114 since 0 1099511627776
 have k11:=h110 on hF.on
 have hfs:FLs FSpr spr:=hF.spr
 have ksp:∀ y∈spr,R.v 69 [.sl 2 false [.agg [mkS y.k,mkS y.a]]] (jI (termE y.k y.a)):=fun y hy=>by
  have:=h113 [⟨y.k,y.a⟩] ⟨by simp,by simpa using ⟨(hfs.all y hy).k,(hfs.all y hy).a⟩⟩
  rw [ylgY] at this
  exact this
 have hlt:=hfs.lt
 obtain ⟨r,hr⟩:∃ r,r=podE ⟨name,app,n0,n1,prio,reqs,tols,spr,near,apart,since,on⟩:=⟨_,rfl⟩
 rw [←hr]
 unfold podE allTE noneB at hr
 simp only at hr h37 h112
 obtain ⟨q1,hq1⟩:∃ q,q=nameB name:=⟨_,rfl⟩
 obtain ⟨q2,hq2⟩:∃ q,q=nameB app:=⟨_,rfl⟩
 obtain ⟨q3,hq3⟩:∃ q,q=btw since 0 1099511627776:=⟨_,rfl⟩
 obtain ⟨q4,hq4⟩:∃ q,q=nameB on:=⟨_,rfl⟩
 obtain ⟨e1,he1⟩:∃ e,e=amtsE n0 n1:=⟨_,rfl⟩
 obtain ⟨e2,he2⟩:∃ e,e=reqsE 8 reqs:=⟨_,rfl⟩
 obtain ⟨e3,he3⟩:∃ e,e=tolsE tols:=⟨_,rfl⟩
 obtain ⟨e5,he5⟩:∃ e,e=y16Y near:=⟨_,rfl⟩
 obtain ⟨e6,he6⟩:∃ e,e=y16Y apart:=⟨_,rfl⟩
 rw [←hq1,←hq2,←hq3,←hq4,←he1,←he2,←he3,←he5,←he6] at hr
 rw [←hq1] at k1
 rw [←hq2] at k2
 rw [←hq3] at k10
 rw [←hq4] at k11
 rw [←he1] at k3
 rw [←he2] at h37
 rw [←he3] at h112
 rw [←he5] at k8
 rw [←he6] at k9
 clear hq1 hq2 hq3 hq4 he1 he2 he3 he5 he6 hF h110 h111 h113 h114 hfs
 unfold podD podC
 simp only
 obtain ⟨rs,hrs⟩:∃ xs,xs=reqs.map reqD:=⟨_,rfl⟩
 obtain ⟨ts,hts⟩:∃ xs,xs=tols.map tolD:=⟨_,rfl⟩
 obtain ⟨ss,hss⟩:∃ xs,xs=spr.map sprD:=⟨_,rfl⟩
 obtain ⟨ns,hns⟩:∃ xs,xs=near.map labD:=⟨_,rfl⟩
 obtain ⟨aps,has⟩:∃ xs,xs=apart.map labD:=⟨_,rfl⟩
 have c1:CleanL rs:=y8Y y3oY hrs
 have c2:CleanL ts:=y8Y (fun _=>⟨rfl,rfl⟩) hts
 have c3:CleanL ss:=y8Y (fun _=>⟨rfl,rfl⟩) hss
 have c4:CleanL ns:=y8Y (fun _=>⟨rfl,rfl⟩) hns
 have c5:CleanL aps:=y8Y (fun _=>⟨rfl,rfl⟩) has
 rw [←hrs] at h37
 rw [←hts] at h112
 rw [←hns] at k8
 rw [←has] at k9
 rw [←hrs,←hts,←hss,←hns,←has]
 clear hrs hts
 refine y2Y ⟨rfl,by decide⟩ fun O hO V hV=>?_
 subst hV
 have hlen:O .len ss=spr.length:=by rw [o_len hO,hss];simp
 have hln:O .len ns=near.length:=by rw [o_len hO,hns];simp
 have hla:O .len aps=apart.length:=by rw [o_len hO,has];simp
 clear hns has
 conv=>cbv
 cases q1
 ·refine ⟨_,k1,?_⟩
  conv=>cbv
  rw [hr];rfl
 refine ⟨_,k1,?_⟩
 conv=>cbv
 cases q2
 ·refine ⟨_,k2,?_⟩
  conv=>cbv
  rw [hr];rfl
 refine ⟨_,k2,?_⟩
 conv=>cbv
 rw [Bool.and_self,y1dY,ycY,if_pos rfl] at hr
 refine ⟨_,k3,?_⟩
 conv=>cbv
 rintro (_|_) h1<;>replace h1:=ci hO h1<;>dsimp only [CmpI] at h1
 case true =>
  conv=>cbv
  rw [hr,ycY,if_neg h1]
 conv=>cbv
 rw [ycY,if_pos h1] at hr
 have hp1:∀ x y,(prio < -1000∨1000<prio)->y3Y (wantI (btw prio (-1000) 1000) 1::x)=y->y=1:=fun x y h h'=>by
  rw [←h',show btw prio (-1000) 1000=false by simp [btw];omega];rfl
 rintro (_|_) h2<;>replace h2:=ci hO h2<;>dsimp only [CmpI] at h2
 case true =>
  conv=>cbv
  rw [hp1 _ _ (.inl h2) hr.symm]
 conv=>cbv
 rintro (_|_) h3<;>replace h3:=ci hO h3<;>dsimp only [CmpI] at h3
 case true =>
  conv=>cbv
  rw [hp1 _ _ (.inr h3) hr.symm]
 conv=>cbv
 rw [show btw prio (-1000) 1000=true by simp [btw];omega,y1dY,ycY,if_pos rfl] at hr
 clear hp1
 refine ⟨c1,_,h37,?_⟩
 conv=>cbv
 rintro (_|_) h4<;>replace h4:=ci hO h4<;>dsimp only [CmpI] at h4
 case true =>
  conv=>cbv
  rw [hr,ycY,if_neg h4]
 conv=>cbv
 rw [ycY,if_pos h4] at hr
 refine ⟨c2,_,h112,?_⟩
 conv=>cbv
 rintro (_|_) h5<;>replace h5:=ci hO h5<;>dsimp only [CmpI] at h5
 case true =>
  conv=>cbv
  rw [hr,ycY,if_neg h5]
 conv=>cbv
 rw [ycY,if_pos h5] at hr
 have hp2:∀ x,(3<spr.length∨3<near.length∨3<apart.length)->r=y3Y ((if 3<spr.length∨3<near.length∨3<apart.length then 3 else y3Y [sprsE spr,e5,e6])::x)->r=3:=fun x h h'=>by
  rw [if_pos h] at h';rw [h'];rfl
 rintro (_|_) h6<;>replace h6:=ci hO h6<;>dsimp only [CmpI] at h6<;>rw [hlen] at h6
 case true =>
  conv=>cbv
  rw [hp2 _ (.inl (by omega)) hr]
 conv=>cbv
 rintro (_|_) h7<;>replace h7:=ci hO h7<;>dsimp only [CmpI] at h7<;>rw [hln] at h7
 case true =>
  conv=>cbv
  rw [hp2 _ (.inr (.inl (by omega))) hr]
 conv=>cbv
 rintro (_|_) h8<;>replace h8:=ci hO h8<;>dsimp only [CmpI] at h8<;>rw [hla] at h8
 case true =>
  conv=>cbv
  rw [hp2 _ (.inr (.inr (by omega))) hr]
 conv=>cbv
 rw [if_neg (by omega)] at hr
 clear hp2
 refine y4Y (fun n d=>∃ (i:Int) (k:Nat),d=⟨[(1,.ptr 1 1 0),(64,.sl 3 false ss),(65,jI (O .len ss)),(66,jI i)],[(1,⟨1,.rw,.var,[mkS name,mkS app,jI n0,jI n1,jI prio,.sl 4 false rs,.sl 3 false ts,.sl 3 false ss,.sl 2 false ns,.sl 2 false aps,jI since,mkS on]⟩)],false⟩/\i=k/\k<=spr.length/\n=spr.length-k/\∀ j,j<k->atE sprE spr j=0) ⟨_,_,⟨_,0,rfl,rfl,by omega,rfl,by simp⟩,⟨⟨rfl,rfl,rfl,rfl,trivial⟩,⟨rfl,trivial⟩,rfl⟩⟩ ?_
 rintro J up n d ⟨i,k,rfl,hi,hk,rfl,hno⟩
 conv=>cbv
 rintro (_|_) h9
 ·replace h9:=f_lss hO h9
  rw [hlen] at h9
  have es:sprsE spr=0:=by unfold sprsE;exact ywY (fun j hj=>hno j (by omega))
  rw [es] at hr
  have hr2:r=y3Y [e5,e6,wantI q3 1,wantI (decide (on=[])||q4) 7]:=by
   rw [hr];simp only [ycY,y59Y,if_pos];by_cases h5:e5=0<;>by_cases h6:e6=0<;>simp [h5,h6]
  clear hr hno up
  conv=>cbv
  refine ⟨c4,_,k8,?_⟩
  conv=>cbv
  rintro (_|_) h10<;>replace h10:=ci hO h10<;>dsimp only [CmpI] at h10
  case true =>
   conv=>cbv
   rw [hr2,ycY,if_neg h10]
  conv=>cbv
  rw [ycY,if_pos h10] at hr2
  refine ⟨c5,_,k9,?_⟩
  conv=>cbv
  rintro (_|_) h11<;>replace h11:=ci hO h11<;>dsimp only [CmpI] at h11
  case true =>
   conv=>cbv
   rw [hr2,ycY,if_neg h11]
  conv=>cbv
  rw [ycY,if_pos h11] at hr2
  cases q3
  ·refine ⟨_,k10,?_⟩
   conv=>cbv
   rw [hr2];rfl
  refine ⟨_,k10,?_⟩
  conv=>cbv
  rw [y1dY,ycY,if_pos rfl] at hr2
  rintro (_|_) h12<;>replace h12:=cs hO h12<;>dsimp only [CmpS] at h12
  ·replace h12:on=[]:=h12
   conv=>cbv
   rw [hr2,decide_eq_true h12];rfl
  replace h12:on≠[]:=h12
  conv=>cbv
  rw [decide_eq_false h12,Bool.false_or] at hr2
  cases q4
  ·refine ⟨_,k11,?_⟩
   conv=>cbv
   rw [hr2];rfl
  refine ⟨_,k11,?_⟩
  conv=>cbv
  rw [hr2];rfl
 ·replace h9:=t_lss hO h9
  rw [hlen] at h9
  obtain ⟨y,hy⟩:∃ y,spr[k]?=some y:=⟨_,List.getElem?_eq_getElem (by omega)⟩
  have hat:atX ss i (sprD y):=y7Y hy hss hi
  have hg:atE sprE spr k=_:=y2pY hy
  obtain ⟨e,he⟩:∃ e,e=sprE y:=⟨_,rfl⟩
  rw [←he] at hg
  have hk1:=ksp y (List.mem_of_getElem? hy)
  obtain ⟨w,hw⟩:∃ w,w=termE y.k y.a:=⟨_,rfl⟩
  unfold sprE btw at he
  rw [←hw] at hk1 he
  clear hw
  obtain ⟨y1,y2,y3⟩:=y
  simp only at he hk1
  have hr1:∀ x:Int,x=e->x≠0->r=x:=fun x h1 h2=>by
   rw [hr,ycY,if_neg]
   ·rw [ycY,if_neg]
    ·unfold sprsE;exact yfY (by omega) hno (by rw [hg];exact h1) h2
    ·rw [show sprsE spr=x by unfold sprsE;exact yfY (by omega) hno (by rw [hg];exact h1) h2];exact h2
   ·rw [ycY,if_neg]
    ·rw [show sprsE spr=x by unfold sprsE;exact yfY (by omega) hno (by rw [hg];exact h1) h2];exact h2
    ·rw [show sprsE spr=x by unfold sprsE;exact yfY (by omega) hno (by rw [hg];exact h1) h2];exact h2
  conv=>cbv
  refine ⟨_,hat,?_⟩
  conv=>cbv
  intro g7
  conv=>cbv
  intro g75
  conv=>cbv
  repeat' (refine And.intro (by first|assumption|exact ⟨rfl⟩|exact ⟨rfl,rfl⟩) ?_)
  refine ⟨_,hk1,?_⟩
  conv=>cbv
  rintro (_|_) h10<;>replace h10:=ci hO h10<;>dsimp only [CmpI] at h10
  case true =>
   conv=>cbv
   rw [hr1 w (by rw [he,if_neg h10]) h10]
  rw [if_pos h10] at he
  conv=>cbv
  rintro (_|_) h11<;>replace h11:=ci hO h11<;>dsimp only [CmpI] at h11
  case true =>
   conv=>cbv
   rw [hr1 1 (by rw [he];simp;omega) (by decide)]
  conv=>cbv
  rintro (_|_) h12<;>replace h12:=ci hO h12<;>dsimp only [CmpI] at h12
  case true =>
   conv=>cbv
   rw [hr1 1 (by rw [he];simp;omega) (by decide)]
  conv=>cbv
  exact ⟨_,_,up _ _ ⟨_,k+1,rfl,by rw [y0Y hO (by omega) (by omega)];omega,by omega,rfl,yjY hno (by rw [hg,he];simp;omega)⟩,⟨⟨rfl,rfl,rfl,rfl,trivial⟩,⟨rfl,trivial⟩,rfl⟩,by omega⟩
theorem ymiY (R:Ans) (p:PoolV) (hF:FPool p) (h110:∀ s,SL s->R.v 65 [mkS s] (.bool (nameB s))) (h111:∀ a b,R.v 66 [.agg [jI a,jI b]] (jI (amtsE a b)))
 (h37:R.v 67 [.sl 4 false (p.reqs.map reqD)] (jI (reqsE 8 p.reqs))) (h115:R.v 120 [.sl 2 false (p.taints.map labD)] (jI (tntsE p.taints)))
 (h114:∀ n lo hi,R.v 70 [jI n,jI lo,jI hi] (.bool (btw n lo hi))) :
 AnsF R c74 [poolD p] (jI (poolE p)):=by
 obtain ⟨name,weight,l0,l1,reqs,taints,gen,expire,budget,merge⟩:=p
 have k1:=h110 name hF.name
 have k3:=h111 l0 l1
 have k4:=h114 gen 0 1099511627776
 have k5:=h114 expire 0 1073741824
 obtain ⟨r,hr⟩:∃ r,r=poolE ⟨name,weight,l0,l1,reqs,taints,gen,expire,budget,merge⟩:=⟨_,rfl⟩
 rw [←hr]
 unfold poolE at hr
 simp only at hr h37 h115
 obtain ⟨q1,hq1⟩:∃ q,q=nameB name:=⟨_,rfl⟩
 obtain ⟨q3,hq3⟩:∃ q,q=btw gen 0 1099511627776:=⟨_,rfl⟩
 obtain ⟨q4,hq4⟩:∃ q,q=btw expire 0 1073741824:=⟨_,rfl⟩
 obtain ⟨e1,he1⟩:∃ e,e=amtsE l0 l1:=⟨_,rfl⟩
 obtain ⟨e2,he2⟩:∃ e,e=reqsE 8 reqs:=⟨_,rfl⟩
 obtain ⟨e3,he3⟩:∃ e,e=tntsE taints:=⟨_,rfl⟩
 rw [←hq1,←hq3,←hq4,←he1,←he2,←he3] at hr
 rw [←hq1] at k1
 rw [←hq3] at k4
 rw [←hq4] at k5
 rw [←he1] at k3
 rw [←he2] at h37
 rw [←he3] at h115
 clear hq1 hq3 hq4 he1 he2 he3 hF h110 h111 h114
 unfold poolD poolC
 simp only
 obtain ⟨rs,hrs⟩:∃ xs,xs=reqs.map reqD:=⟨_,rfl⟩
 obtain ⟨ts,hts⟩:∃ xs,xs=taints.map labD:=⟨_,rfl⟩
 have c1:CleanL rs:=y8Y y3oY hrs
 have c2:CleanL ts:=y8Y (fun _=>⟨rfl,rfl⟩) hts
 rw [←hrs] at h37
 rw [←hts] at h115
 rw [←hrs,←hts]
 clear hrs hts
 refine y2Y ⟨rfl,by decide⟩ fun O hO V hV=>?_
 subst hV
 conv=>cbv
 cases q1
 ·refine ⟨_,k1,?_⟩
  conv=>cbv
  rw [hr];rfl
 refine ⟨_,k1,?_⟩
 conv=>cbv
 rw [y1dY,ycY,if_pos rfl] at hr
 have hp1:∀ x y,(weight<0∨100<weight)->y3Y (wantI (btw weight 0 100) 1::x)=y->y=1:=fun x y h h'=>by
  rw [←h',show btw weight 0 100=false by simp [btw];omega];rfl
 rintro (_|_) h2<;>replace h2:=ci hO h2<;>dsimp only [CmpI] at h2
 case true =>
  conv=>cbv
  rw [hp1 _ _ (.inl h2) hr.symm]
 conv=>cbv
 rintro (_|_) h3<;>replace h3:=ci hO h3<;>dsimp only [CmpI] at h3
 case true =>
  conv=>cbv
  rw [hp1 _ _ (.inr h3) hr.symm]
 conv=>cbv
 rw [show btw weight 0 100=true by simp [btw];omega,y1dY,ycY,if_pos rfl] at hr
 clear hp1
 refine ⟨_,k3,?_⟩
 conv=>cbv
 rintro (_|_) h1<;>replace h1:=ci hO h1<;>dsimp only [CmpI] at h1
 case true =>
  conv=>cbv
  rw [hr,ycY,if_neg h1]
 conv=>cbv
 rw [ycY,if_pos h1] at hr
 refine ⟨c1,_,h37,?_⟩
 conv=>cbv
 rintro (_|_) h4<;>replace h4:=ci hO h4<;>dsimp only [CmpI] at h4
 case true =>
  conv=>cbv
  rw [hr,ycY,if_neg h4]
 conv=>cbv
 rw [ycY,if_pos h4] at hr
 refine ⟨c2,_,h115,?_⟩
 conv=>cbv
 rintro (_|_) h5<;>replace h5:=ci hO h5<;>dsimp only [CmpI] at h5
 case true =>
  conv=>cbv
  rw [hr,ycY,if_neg h5]
 conv=>cbv
 rw [ycY,if_pos h5] at hr
 cases q3
 ·refine ⟨_,k4,?_⟩
  conv=>cbv
  rw [hr];rfl
 refine ⟨_,k4,?_⟩
 conv=>cbv
 cases q4
 ·refine ⟨_,k5,?_⟩
  conv=>cbv
  rw [hr];rfl
 refine ⟨_,k5,?_⟩
 conv=>cbv
 have hp2:∀ b:Bool,(b=true->btw budget 0 16=true/\btw merge 0 2=true)->(b=false->btw budget 0 16=false∨btw merge 0 2=false)->r=wantI b 1:=fun b h1 h2=>by
  rw [hr]
  cases b
  ·rcases h2 rfl with h|h<;>rw [h]<;>simp [ycY]
  ·rw [(h1 rfl).1,(h1 rfl).2];rfl
 rintro (_|_) h6<;>replace h6:=ci hO h6<;>dsimp only [CmpI] at h6
 case true =>
  conv=>cbv
  rw [hp2 false (by simp) fun _=>.inl (by simp [btw];omega)];rfl
 conv=>cbv
 rintro (_|_) h7<;>replace h7:=ci hO h7<;>dsimp only [CmpI] at h7
 case true =>
  conv=>cbv
  rw [hp2 false (by simp) fun _=>.inl (by simp [btw];omega)];rfl
 conv=>cbv
 rintro (_|_) h8<;>replace h8:=ci hO h8<;>dsimp only [CmpI] at h8
 case true =>
  conv=>cbv
  rw [hp2 false (by simp) fun _=>.inr (by simp [btw];omega)];rfl
 conv=>cbv
 rintro (_|_) h9<;>replace h9:=ci hO h9<;>dsimp only [CmpI] at h9
 case true =>
  conv=>cbv
  rw [hp2 false (by simp) fun _=>.inr (by simp [btw];omega)];rfl
 conv=>cbv
 rw [hp2 true (fun _=>⟨by simp [btw];omega,by simp [btw];omega⟩) (by simp)];rfl
theorem ymjY (R:Ans) (c:ClaimV) (hF:FClaim c) (h110:∀ s,SL s->R.v 65 [mkS s] (.bool (nameB s))) (h111:∀ a b,R.v 66 [.agg [jI a,jI b]] (jI (amtsE a b)))
 (h116:∀ o,FO o->R.v 176 [offD o] (.bool (nmB o))) (h117:∀ n,R.v 116 [jI n] (jI (amtE n))) (h118:∀ l:List OffV,FLs FO l->R.v 177 [.sl 3 false (l.map offD)] (jI (offsE l)))
 (h114:∀ n lo hi,R.v 70 [jI n,jI lo,jI hi] (.bool (btw n lo hi))) :
 AnsF R c121 [y5Y c] (jI (y19Y c)):=by
 obtain ⟨name,pool,gen,⟨ot,oz,ok⟩,price,c0,c1,opts,tries,id,phase,born,marked⟩:=c
 have k1:=h110 name hF.name
 have k2:=h110 pool hF.pool
 have k3:=h116 ⟨ot,oz,ok⟩ hF.off
 have k4:=h117 price
 have k5:=h111 c0 c1
 have k6:=h118 opts hF.opts
 have k7:=h114 gen 0 1099511627776
 have k8:=h114 born 0 1099511627776
 obtain ⟨r,hr⟩:∃ r,r=y19Y ⟨name,pool,gen,⟨ot,oz,ok⟩,price,c0,c1,opts,tries,id,phase,born,marked⟩:=⟨_,rfl⟩
 rw [←hr]
 unfold y19Y at hr
 simp only at hr
 obtain ⟨q1,hq1⟩:∃ q,q=nameB name:=⟨_,rfl⟩
 obtain ⟨q2,hq2⟩:∃ q,q=nameB pool:=⟨_,rfl⟩
 obtain ⟨q3,hq3⟩:∃ q,q=nmB ⟨ot,oz,ok⟩:=⟨_,rfl⟩
 obtain ⟨q4,hq4⟩:∃ q,q=btw gen 0 1099511627776:=⟨_,rfl⟩
 obtain ⟨q5,hq5⟩:∃ q,q=btw born 0 1099511627776:=⟨_,rfl⟩
 obtain ⟨e1,he1⟩:∃ e,e=amtE price:=⟨_,rfl⟩
 obtain ⟨e2,he2⟩:∃ e,e=amtsE c0 c1:=⟨_,rfl⟩
 obtain ⟨e3,he3⟩:∃ e,e=offsE opts:=⟨_,rfl⟩
 rw [←hq1,←hq2,←hq3,←hq4,←hq5,←he1,←he2,←he3] at hr
 rw [←hq1] at k1
 rw [←hq2] at k2
 rw [←hq3] at k3
 rw [←he1] at k4
 rw [←he2] at k5
 rw [←he3] at k6
 rw [←hq4] at k7
 rw [←hq5] at k8
 clear hq1 hq2 hq3 hq4 hq5 he1 he2 he3 hF h110 h111 h114 h116 h117 h118
 unfold y5Y y12Y
 unfold offD at k3
 simp only at k3 ⊢
 obtain ⟨os,hos⟩:∃ xs,xs=opts.map offD:=⟨_,rfl⟩
 have cc:CleanL os:=y8Y (fun _=>⟨rfl,rfl⟩) hos
 rw [←hos] at k6 ⊢
 clear hos
 refine y2Y ⟨rfl,by decide⟩ fun O hO V hV=>?_
 subst hV
 have hsl:O .slen ⟨⟨id⟩⟩=id.length:=y18Y hO id
 conv=>cbv
 cases q1
 ·refine ⟨_,k1,?_⟩
  conv=>cbv
  rw [hr];rfl
 refine ⟨_,k1,?_⟩
 conv=>cbv
 cases q2
 ·refine ⟨_,k2,?_⟩
  conv=>cbv
  rw [hr];rfl
 refine ⟨_,k2,?_⟩
 conv=>cbv
 cases q3
 ·refine ⟨_,k3,?_⟩
  conv=>cbv
  rw [hr];rfl
 refine ⟨_,k3,?_⟩
 conv=>cbv
 rw [Bool.and_self,Bool.and_self,y1dY,ycY,if_pos rfl] at hr
 refine ⟨_,k4,?_⟩
 conv=>cbv
 rintro (_|_) h1<;>replace h1:=ci hO h1<;>dsimp only [CmpI] at h1
 case true =>
  conv=>cbv
  rw [hr,ycY,if_neg h1]
 conv=>cbv
 rw [ycY,if_pos h1] at hr
 refine ⟨_,k5,?_⟩
 conv=>cbv
 rintro (_|_) h2<;>replace h2:=ci hO h2<;>dsimp only [CmpI] at h2
 case true =>
  conv=>cbv
  rw [hr,ycY,if_neg h2]
 conv=>cbv
 rw [ycY,if_pos h2] at hr
 refine ⟨cc,_,k6,?_⟩
 conv=>cbv
 rintro (_|_) h3<;>replace h3:=ci hO h3<;>dsimp only [CmpI] at h3
 case true =>
  conv=>cbv
  rw [hr,ycY,if_neg h3]
 conv=>cbv
 rw [ycY,if_pos h3] at hr
 have hp1:∀ x y,(tries<1∨32<tries)->y3Y (wantI (btw tries 1 32) 1::x)=y->y=1:=fun x y h h'=>by
  rw [←h',show btw tries 1 32=false by simp [btw];omega];rfl
 rintro (_|_) h4<;>replace h4:=ci hO h4<;>dsimp only [CmpI] at h4
 case true =>
  conv=>cbv
  rw [hp1 _ _ (.inl h4) hr.symm]
 conv=>cbv
 rintro (_|_) h5<;>replace h5:=ci hO h5<;>dsimp only [CmpI] at h5
 case true =>
  conv=>cbv
  rw [hp1 _ _ (.inr h5) hr.symm]
 conv=>cbv
 rw [show btw tries 1 32=true by simp [btw];omega,y1dY,ycY,if_pos rfl] at hr
 clear hp1
 rintro (_|_) h6<;>replace h6:=ci hO h6<;>dsimp only [CmpI] at h6<;>rw [hsl] at h6
 case true =>
  conv=>cbv
  rw [hr,decide_eq_false (by omega)];rfl
 conv=>cbv
 rw [decide_eq_true (by omega),y1dY,ycY,if_pos rfl] at hr
 have hp2:∀ b:Bool,(b=true->btw phase 1 4=true/\(q4&&q5)=true)->(b=false->btw phase 1 4=false∨(q4&&q5)=false)->r=wantI b 1:=fun b h1 h2=>by
  rw [hr]
  cases b
  ·rcases h2 rfl with h|h<;>rw [h]<;>simp [ycY]
  ·rw [(h1 rfl).1,(h1 rfl).2];rfl
 rintro (_|_) h7<;>replace h7:=ci hO h7<;>dsimp only [CmpI] at h7
 case true =>
  conv=>cbv
  rw [hp2 false (by simp) fun _=>.inl (by simp [btw];omega)];rfl
 conv=>cbv
 rintro (_|_) h8<;>replace h8:=ci hO h8<;>dsimp only [CmpI] at h8
 case true =>
  conv=>cbv
  rw [hp2 false (by simp) fun _=>.inl (by simp [btw];omega)];rfl
 conv=>cbv
 cases q4
 ·refine ⟨_,k7,?_⟩
  conv=>cbv
  rw [hp2 false (by simp) fun _=>.inr rfl];rfl
 refine ⟨_,k7,?_⟩
 conv=>cbv
 cases q5
 ·refine ⟨_,k8,?_⟩
  conv=>cbv
  rw [hp2 false (by simp) fun _=>.inr rfl];rfl
 refine ⟨_,k8,?_⟩
 conv=>cbv
 rw [hp2 true (fun _=>⟨by simp [btw];omega,rfl⟩) (by simp)];rfl
theorem ymkY (R:Ans) (c:CmdV) (hF:FCmd c) (h110:∀ s,SL s->R.v 65 [mkS s] (.bool (nameB s))) (h118:∀ l:List OffV,FLs FO l->R.v 177 [.sl 3 false (l.map offD)] (jI (offsE l)))
 (h114:∀ n lo hi,R.v 70 [jI n,jI lo,jI hi] (.bool (btw n lo hi))) :
 AnsF R c124 [cmdD c] (jI (cmdE c)):=by
 obtain ⟨cause,nodes,stp,til,fresh,pool,opts,made⟩:=c
 have hfn:FL nodes:=hF.nodes
 have k3:=h114 til 0 1099511627776
 have k4:=h110 fresh hF.fresh
 have k5:=h110 pool hF.pool
 have k6:=h118 opts hF.opts
 have kn:∀ y∈nodes,R.v 65 [mkS y] (.bool (nameB y)):=fun y hy=>h110 y (hfn.all y hy)
 have hlt:nodes.length<4611686018427387904:=by have:=hfn.len;omega
 obtain ⟨r,hr⟩:∃ r,r=cmdE ⟨cause,nodes,stp,til,fresh,pool,opts,made⟩:=⟨_,rfl⟩
 rw [←hr]
 unfold cmdE noneB at hr
 simp only at hr
 obtain ⟨q4,hq4⟩:∃ q,q=btw til 0 1099511627776:=⟨_,rfl⟩
 obtain ⟨q5,hq5⟩:∃ q,q=nameB fresh:=⟨_,rfl⟩
 obtain ⟨q6,hq6⟩:∃ q,q=nameB pool:=⟨_,rfl⟩
 obtain ⟨e6,he6⟩:∃ e,e=offsE opts:=⟨_,rfl⟩
 rw [←hq4,←hq5,←hq6,←he6] at hr
 rw [←hq4] at k3
 rw [←hq5] at k4
 rw [←hq6] at k5
 rw [←he6] at k6
 clear h110 h118 h114 hF he6 hq4 hq5 hq6
 unfold cmdD cmdC
 obtain ⟨ns,hns⟩:∃ xs,xs=nodes.map mkS:=⟨_,rfl⟩
 obtain ⟨os,hos⟩:∃ xs,xs=opts.map offD:=⟨_,rfl⟩
 have c2:CleanL os:=y8Y (fun _=>⟨rfl,rfl⟩) hos
 rw [←hos] at k6
 simp only [←hns,←hos]
 clear hos
 refine y2Y ⟨rfl,by decide⟩ fun O hO V hV=>?_
 subst hV
 have hlen:O .len ns=nodes.length:=by rw [o_len hO,hns];simp
 have hp1:(cause<1∨4<cause∨stp<1∨3<stp)->r=1:=fun h=>by
  rw [hr,show (btw cause 1 4&&btw stp 1 3)=false by simp [btw];omega];rfl
 conv=>cbv
 rintro (_|_) h1<;>replace h1:=ci hO h1<;>dsimp only [CmpI] at h1
 case true =>
  conv=>cbv
  rw [hp1 (by omega)]
 conv=>cbv
 rintro (_|_) h2<;>replace h2:=ci hO h2<;>dsimp only [CmpI] at h2
 case true =>
  conv=>cbv
  rw [hp1 (by omega)]
 conv=>cbv
 rintro (_|_) h3<;>replace h3:=ci hO h3<;>dsimp only [CmpI] at h3
 case true =>
  conv=>cbv
  rw [hp1 (by omega)]
 conv=>cbv
 rintro (_|_) h4<;>replace h4:=ci hO h4<;>dsimp only [CmpI] at h4
 case true =>
  conv=>cbv
  rw [hp1 (by omega)]
 conv=>cbv
 clear hp1
 rw [show (btw cause 1 4&&btw stp 1 3)=true by simp [btw];omega,y1dY,ycY,if_pos rfl] at hr
 rintro (_|_) h5<;>replace h5:=ci hO h5<;>dsimp only [CmpI] at h5<;>rw [hlen] at h5
 case true =>
  conv=>cbv
  rw [hr,decide_eq_false (by omega)];rfl
 conv=>cbv
 rw [decide_eq_true (show nodes.length<=4 by omega),y1dY,ycY,if_pos rfl] at hr
 rintro (_|_) h6<;>replace h6:=ci hO h6<;>dsimp only [CmpI] at h6<;>rw [hlen] at h6
 case true =>
  conv=>cbv
  rw [hr,decide_eq_false (by omega)];rfl
 conv=>cbv
 rw [decide_eq_true (show 0<nodes.length by omega),y1dY,ycY,if_pos rfl] at hr
 refine y4Y (fun n d=>∃ (i:Int) (k:Nat),d=⟨[(1,.ptr 1 1 0),(32,.sl 1 false ns),(33,jI (O .len ns)),(34,jI i)],[(1,⟨1,.rw,.var,[jI cause,.sl 1 false ns,jI stp,jI til,mkS fresh,mkS pool,.sl 3 false os,.bool made]⟩)],false⟩/\i=k/\k<=nodes.length/\n=nodes.length-k/\∀ j,j<k->upE nodeE nodes j=0) ⟨_,_,⟨_,0,rfl,rfl,by omega,rfl,by simp⟩,⟨⟨rfl,rfl,rfl,rfl,trivial⟩,⟨rfl,trivial⟩,rfl⟩⟩ ?_
 rintro J up n d ⟨i,k,rfl,hi,hk,rfl,hno⟩
 conv=>cbv
 rintro (_|_) h7
 ·replace h7:=f_lss hO h7
  rw [hlen] at h7
  rw [ywY (fun j hj=>hno j (by omega)),ycY,if_pos rfl] at hr
  clear hno up
  conv=>cbv
  cases q4
  ·refine ⟨_,k3,?_⟩
   conv=>cbv
   rw [hr];rfl
  refine ⟨_,k3,?_⟩
  conv=>cbv
  rw [y1dY,ycY,if_pos rfl] at hr
  have hp2:∀ b:Bool,((decide (fresh=[])||q5)&&(decide (pool=[])||q6))=b->r=if b then e6 else 7:=fun b h=>by
   rw [hr,h];cases b<;>simp [ycY]
   intro h;exact h.symm
  rintro (_|_) h8<;>replace h8:=cs hO h8<;>dsimp only [CmpS] at h8
  case true =>
   replace h8:fresh≠[]:=h8
   conv=>cbv
   cases q5
   ·refine ⟨_,k4,?_⟩
    conv=>cbv
    rw [hp2 false (by simp [h8])];rfl
   refine ⟨_,k4,?_⟩
   conv=>cbv
   rintro (_|_) h9<;>replace h9:=cs hO h9<;>dsimp only [CmpS] at h9
   ·replace h9:pool=[]:=h9
    conv=>cbv
    refine ⟨c2,_,k6,?_⟩
    conv=>cbv
    rw [hp2 true (by simp [h9])];rfl
   replace h9:pool≠[]:=h9
   conv=>cbv
   cases q6
   ·refine ⟨_,k5,?_⟩
    conv=>cbv
    rw [hp2 false (by simp [h9])];rfl
   refine ⟨_,k5,?_⟩
   conv=>cbv
   refine ⟨c2,_,k6,?_⟩
   conv=>cbv
   rw [hp2 true (by simp)];rfl
  replace h8:fresh=[]:=h8
  conv=>cbv
  rintro (_|_) h9<;>replace h9:=cs hO h9<;>dsimp only [CmpS] at h9
  ·replace h9:pool=[]:=h9
   conv=>cbv
   refine ⟨c2,_,k6,?_⟩
   conv=>cbv
   rw [hp2 true (by simp [h8,h9])];rfl
  replace h9:pool≠[]:=h9
  conv=>cbv
  cases q6
  ·refine ⟨_,k5,?_⟩
   conv=>cbv
   rw [hp2 false (by simp [h9])];rfl
  refine ⟨_,k5,?_⟩
  conv=>cbv
  refine ⟨c2,_,k6,?_⟩
  conv=>cbv
  rw [hp2 true (by simp [h8])];rfl
 ·replace h7:=t_lss hO h7
  rw [hlen] at h7
  obtain ⟨y,hy⟩:∃ y,nodes[k]?=some y:=⟨_,List.getElem?_eq_getElem (by omega)⟩
  have hat:atX ns i (mkS y):=y7Y hy hns hi
  obtain ⟨gg,hgg⟩:∃ g,g=upE nodeE nodes k:=⟨_,rfl⟩
  have hg:gg=nodeE y (nodes.take k):=hgg.trans (y14Y hy)
  have hk1:=kn y (List.mem_of_getElem? hy)
  obtain ⟨q,hq⟩:∃ q,q=nameB y:=⟨_,rfl⟩
  unfold nodeE at hg
  rw [←hq] at hk1 hg
  clear hq
  have hr1:∀ x:Int,x=upE nodeE nodes k->x≠0->r=x:=fun x h1 h2=>by
   rw [hr,show scanE (upE nodeE nodes) nodes.length=x from yfY (by omega) hno h1 h2,ycY,if_neg h2]
  conv=>cbv
  refine ⟨_,hat,?_⟩
  conv=>cbv
  cases q
  ·refine ⟨_,hk1,?_⟩
   conv=>cbv
   rw [hr1 7 (by rw [←hgg,hg];rfl) (by decide)]
  refine ⟨_,hk1,?_⟩
  conv=>cbv
  rintro (_|_) h8<;>replace h8:=ci hO h8<;>dsimp only [CmpI] at h8
  ·conv=>cbv
   refine ⟨_,_,up _ _ ⟨_,k+1,rfl,by rw [y0Y hO (by omega) (by omega)];omega,by omega,rfl,yjY hno ?_⟩,⟨⟨rfl,rfl,rfl,rfl,trivial⟩,⟨rfl,trivial⟩,rfl⟩,by omega⟩
   obtain rfl:k=0:=by omega
   rw [←hgg,hg];rfl
  obtain ⟨p,hp⟩:∃ p,nodes[k-1]?=some p:=⟨_,List.getElem?_eq_getElem (by omega)⟩
  have hsub:O .iop .sub .i64 i 1=((k-1:Nat):Int):=by rw [y15Y hO (by omega) (by omega)];omega
  have hat2:atX ns (O .iop .sub .i64 i 1) (mkS p):=y7Y hp hns hsub
  rw [y34Y (by omega) hp] at hg
  replace hg:gg=if p<y then 0 else 6:=by rw [hg];simp
  conv=>cbv
  refine ⟨_,hat2,?_⟩
  conv=>cbv
  rintro (_|_) h9<;>replace h9:=cs hO h9<;>dsimp only [CmpS] at h9
  ·conv=>cbv
   refine ⟨_,_,up _ _ ⟨_,k+1,rfl,by rw [y0Y hO (by omega) (by omega)];omega,by omega,rfl,yjY hno (by rw [←hgg,hg,if_pos h9])⟩,⟨⟨rfl,rfl,rfl,rfl,trivial⟩,⟨rfl,trivial⟩,rfl⟩,by omega⟩
  ·conv=>cbv
   rw [hr1 6 (by rw [←hgg,hg,if_neg h9]) (by decide)]
end Go.Proofs.AM
