/- Part 23 of the lemmas: AKb, PXa, PZa, PZb, PZc, PZd, PZe, PZf, PXb, PZg, PZh. -/
import Derived.Test.YtnbdmjbpgaeacaaGreatDoorM14
import Derived.Test.YtnbdmjbpgaeacaaGreatDoorM15
import Derived.Test.YtnbdmjbpgaeacaaGreatDoorM13
import Derived.Test.YtnbdmjbpgaeacaaGreatDoorM07
import Derived.Test.YtnbdmjbpgaeacaaGreatDoorM16
import Derived.Test.YtnbdmjbpgaeacaaGreatDoorM06
set_option maxRecDepth 100000
set_option maxHeartbeats 8000000
set_option linter.all false
namespace Go.Proofs.AM
open Go Go.Lib Cd
theorem ylkY (R:Ans) (f:Nat) (p:OfgV->Bool) (l:List OfgV) (hl:l.length<4611686018427387904) (q0:D) (cq0:Clean q0) (hp:∀ y∈l,R.v f [ofgD y,.vptr q0 0] (.bool (p y))):AnsF R c262 [.sl 4 false (l.map ofgD),.fn f [] [.vptr q0 0]] (jI (idxI p l)):=by
 obtain ⟨xs,hxs⟩:∃ xs,xs=l.map ofgD:=⟨_,rfl⟩
 obtain ⟨r,hr⟩:∃ r,r=idxI p l:=⟨_,rfl⟩
 rw [←hxs,←hr]
 refine y0Y ⟨rfl,by decide⟩ fun O hO V hV=>?_
 subst hV
 have hlen:O .len xs=l.length:=by rw [o_len hO,hxs];simp
 conv=>cbv
 refine y6Y (fun n d=>∃ (i:Int) (k:Nat),d=⟨[(0,.sl 4 false xs),(1,.fn f [] [.vptr q0 0]),(7,jI (O .len xs)),(8,jI i)],[],false⟩/\i=k/\k<=l.length/\n=l.length-k/\∀ j y,j<k->l[j]?=some y->p y=false) ⟨_,_,⟨_,0,rfl,rfl,by omega,rfl,by simp⟩,⟨⟨rfl,rfl,rfl,rfl,trivial⟩,trivial,rfl⟩⟩ ?_
 rintro J up n d ⟨i,k,rfl,hi,hk,rfl,hno⟩
 conv=>cbv
 rintro (_|_) h1
 ·replace h1:=f_lss hO h1
  rw [hlen] at h1
  conv=>cbv
  rw [hr,y2cY fun y hy=>by
   obtain ⟨j,hj⟩:=List.mem_iff_getElem?.1 hy
   exact hno j y (by have:=(List.getElem?_eq_some_iff.1 hj).1;omega) hj]
 ·replace h1:=t_lss hO h1
  rw [hlen] at h1
  obtain ⟨y,hy⟩:∃ y,l[k]?=some y:=⟨_,List.getElem?_eq_getElem (by omega)⟩
  have hc:=hp y (List.mem_of_getElem? hy)
  obtain ⟨q,hq⟩:∃ q,q=p y:=⟨_,rfl⟩
  rw [←hq] at hc
  have hat:atX xs i (ofgD y):=y9Y hy hxs hi
  have hstep:q=false->∀ j z,j<k+1->l[j]?=some z->p z=false:=fun h=>y1hY hno hy (hq.symm.trans h)
  have hhit:q=true->r=k:=fun h=>by rw [hr,y2dY hy (hq.symm.trans h) hno]
  clear hq hy
  obtain ⟨yz,yk,yp,yo⟩:=y
  simp only [ofgD,ofgC] at hat hc
  conv=>cbv
  refine ⟨_,hat,?_⟩
  conv=>cbv
  repeat' (refine And.intro (by first|assumption|exact ⟨rfl⟩|exact ⟨rfl,rfl⟩) ?_)
  refine ⟨_,hc,?_⟩
  cases q with
  | false =>
    conv=>cbv
    refine ⟨_,_,up _ _ ⟨_,k+1,rfl,?_,by omega,rfl,hstep rfl⟩,⟨⟨rfl,rfl,rfl,rfl,trivial⟩,trivial,rfl⟩,by omega⟩
    rw [y2Y hO (by omega) (by omega)];omega
  | true =>
    conv=>cbv
    rw [hhit rfl,hi]
theorem yllY (R:Ans) (f:Nat) (p:TypeV->Bool) (l:List TypeV) (hl:l.length<4611686018427387904) (q0:D) (cq0:Clean q0) (hp:∀ y∈l,R.v f [typeD y,.vptr q0 0] (.bool (p y))):AnsF R c200 [.sl 7 false (l.map typeD),.fn f [] [.vptr q0 0]] (jI (idxI p l)):=by
 obtain ⟨xs,hxs⟩:∃ xs,xs=l.map typeD:=⟨_,rfl⟩
 obtain ⟨r,hr⟩:∃ r,r=idxI p l:=⟨_,rfl⟩
 rw [←hxs,←hr]
 refine y0Y ⟨rfl,by decide⟩ fun O hO V hV=>?_
 subst hV
 have hlen:O .len xs=l.length:=by rw [o_len hO,hxs];simp
 conv=>cbv
 refine y6Y (fun n d=>∃ (i:Int) (k:Nat),d=⟨[(0,.sl 7 false xs),(1,.fn f [] [.vptr q0 0]),(7,jI (O .len xs)),(8,jI i)],[],false⟩/\i=k/\k<=l.length/\n=l.length-k/\∀ j y,j<k->l[j]?=some y->p y=false) ⟨_,_,⟨_,0,rfl,rfl,by omega,rfl,by simp⟩,⟨⟨rfl,rfl,rfl,rfl,trivial⟩,trivial,rfl⟩⟩ ?_
 rintro J up n d ⟨i,k,rfl,hi,hk,rfl,hno⟩
 conv=>cbv
 rintro (_|_) h1
 ·replace h1:=f_lss hO h1
  rw [hlen] at h1
  conv=>cbv
  rw [hr,y2cY fun y hy=>by
   obtain ⟨j,hj⟩:=List.mem_iff_getElem?.1 hy
   exact hno j y (by have:=(List.getElem?_eq_some_iff.1 hj).1;omega) hj]
 ·replace h1:=t_lss hO h1
  rw [hlen] at h1
  obtain ⟨y,hy⟩:∃ y,l[k]?=some y:=⟨_,List.getElem?_eq_getElem (by omega)⟩
  have hc:=hp y (List.mem_of_getElem? hy)
  obtain ⟨q,hq⟩:∃ q,q=p y:=⟨_,rfl⟩
  rw [←hq] at hc
  have hat:atX xs i (typeD y):=y9Y hy hxs hi
  have hstep:q=false->∀ j z,j<k+1->l[j]?=some z->p z=false:=fun h=>y1hY hno hy (hq.symm.trans h)
  have hhit:q=true->r=k:=fun h=>by rw [hr,y2dY hy (hq.symm.trans h) hno]
  clear hq hy
  obtain ⟨ynm,yc0,yc1,yv0,yv1,yls,yos⟩:=y
  simp only [typeD,typeC] at hat hc
  obtain ⟨xyls,hxyls⟩:∃ xs,xs=yls.map labD:=⟨_,rfl⟩
  have cxyls:CleanL xyls:=by rw [hxyls];exact y4Y _
  simp only [←hxyls] at hat hc
  obtain ⟨xyos,hxyos⟩:∃ xs,xs=yos.map ofgD:=⟨_,rfl⟩
  have cxyos:CleanL xyos:=by rw [hxyos];exact y1sY _
  simp only [←hxyos] at hat hc
  conv=>cbv
  refine ⟨_,hat,?_⟩
  conv=>cbv
  repeat' (refine And.intro (by first|assumption|exact ⟨rfl⟩|exact ⟨rfl,rfl⟩) ?_)
  refine ⟨_,hc,?_⟩
  cases q with
  | false =>
    conv=>cbv
    refine ⟨_,_,up _ _ ⟨_,k+1,rfl,?_,by omega,rfl,hstep rfl⟩,⟨⟨rfl,rfl,rfl,rfl,trivial⟩,trivial,rfl⟩,by omega⟩
    rw [y2Y hO (by omega) (by omega)];omega
  | true =>
    conv=>cbv
    rw [hhit rfl,hi]
theorem ylmY (R:Ans) (f:Nat) (p:OffV->Bool) (l:List OffV) (hl:l.length<4611686018427387904) (q0:D) (cq0:Clean q0) (hp:∀ y∈l,R.v f [offD y,.vptr q0 0] (.bool (p y))):AnsF R c246 [.sl 3 false (l.map offD),.fn f [] [.vptr q0 0]] (jI (idxI p l)):=by
 obtain ⟨xs,hxs⟩:∃ xs,xs=l.map offD:=⟨_,rfl⟩
 obtain ⟨r,hr⟩:∃ r,r=idxI p l:=⟨_,rfl⟩
 rw [←hxs,←hr]
 refine y0Y ⟨rfl,by decide⟩ fun O hO V hV=>?_
 subst hV
 have hlen:O .len xs=l.length:=by rw [o_len hO,hxs];simp
 conv=>cbv
 refine y6Y (fun n d=>∃ (i:Int) (k:Nat),d=⟨[(0,.sl 3 false xs),(1,.fn f [] [.vptr q0 0]),(7,jI (O .len xs)),(8,jI i)],[],false⟩/\i=k/\k<=l.length/\n=l.length-k/\∀ j y,j<k->l[j]?=some y->p y=false) ⟨_,_,⟨_,0,rfl,rfl,by omega,rfl,by simp⟩,⟨⟨rfl,rfl,rfl,rfl,trivial⟩,trivial,rfl⟩⟩ ?_
 rintro J up n d ⟨i,k,rfl,hi,hk,rfl,hno⟩
 conv=>cbv
 rintro (_|_) h1
 ·replace h1:=f_lss hO h1
  rw [hlen] at h1
  conv=>cbv
  rw [hr,y2cY fun y hy=>by
   obtain ⟨j,hj⟩:=List.mem_iff_getElem?.1 hy
   exact hno j y (by have:=(List.getElem?_eq_some_iff.1 hj).1;omega) hj]
 ·replace h1:=t_lss hO h1
  rw [hlen] at h1
  obtain ⟨y,hy⟩:∃ y,l[k]?=some y:=⟨_,List.getElem?_eq_getElem (by omega)⟩
  have hc:=hp y (List.mem_of_getElem? hy)
  obtain ⟨q,hq⟩:∃ q,q=p y:=⟨_,rfl⟩
  rw [←hq] at hc
  have hat:atX xs i (offD y):=y9Y hy hxs hi
  have hstep:q=false->∀ j z,j<k+1->l[j]?=some z->p z=false:=fun h=>y1hY hno hy (hq.symm.trans h)
  have hhit:q=true->r=k:=fun h=>by rw [hr,y2dY hy (hq.symm.trans h) hno]
  clear hq hy
  obtain ⟨yt,yz,yk⟩:=y
  simp only [offD] at hat hc
  conv=>cbv
  refine ⟨_,hat,?_⟩
  conv=>cbv
  repeat' (refine And.intro (by first|assumption|exact ⟨rfl⟩|exact ⟨rfl,rfl⟩) ?_)
  refine ⟨_,hc,?_⟩
  cases q with
  | false =>
    conv=>cbv
    refine ⟨_,_,up _ _ ⟨_,k+1,rfl,?_,by omega,rfl,hstep rfl⟩,⟨⟨rfl,rfl,rfl,rfl,trivial⟩,trivial,rfl⟩,by omega⟩
    rw [y2Y hO (by omega) (by omega)];omega
  | true =>
    conv=>cbv
    rw [hhit rfl,hi]
theorem ylnY (R:Ans) (f:Nat) (p:PoolV->Bool) (l:List PoolV) (hl:l.length<4611686018427387904) (q0:D) (cq0:Clean q0) (hp:∀ y∈l,R.v f [poolD y,.vptr q0 0] (.bool (p y))):AnsF R c105 [.sl 10 false (l.map poolD),.fn f [] [.vptr q0 0]] (jI (idxI p l)):=by
 obtain ⟨xs,hxs⟩:∃ xs,xs=l.map poolD:=⟨_,rfl⟩
 obtain ⟨r,hr⟩:∃ r,r=idxI p l:=⟨_,rfl⟩
 rw [←hxs,←hr]
 refine y0Y ⟨rfl,by decide⟩ fun O hO V hV=>?_
 subst hV
 have hlen:O .len xs=l.length:=by rw [o_len hO,hxs];simp
 conv=>cbv
 refine y6Y (fun n d=>∃ (i:Int) (k:Nat),d=⟨[(0,.sl 10 false xs),(1,.fn f [] [.vptr q0 0]),(7,jI (O .len xs)),(8,jI i)],[],false⟩/\i=k/\k<=l.length/\n=l.length-k/\∀ j y,j<k->l[j]?=some y->p y=false) ⟨_,_,⟨_,0,rfl,rfl,by omega,rfl,by simp⟩,⟨⟨rfl,rfl,rfl,rfl,trivial⟩,trivial,rfl⟩⟩ ?_
 rintro J up n d ⟨i,k,rfl,hi,hk,rfl,hno⟩
 conv=>cbv
 rintro (_|_) h1
 ·replace h1:=f_lss hO h1
  rw [hlen] at h1
  conv=>cbv
  rw [hr,y2cY fun y hy=>by
   obtain ⟨j,hj⟩:=List.mem_iff_getElem?.1 hy
   exact hno j y (by have:=(List.getElem?_eq_some_iff.1 hj).1;omega) hj]
 ·replace h1:=t_lss hO h1
  rw [hlen] at h1
  obtain ⟨y,hy⟩:∃ y,l[k]?=some y:=⟨_,List.getElem?_eq_getElem (by omega)⟩
  have hc:=hp y (List.mem_of_getElem? hy)
  obtain ⟨q,hq⟩:∃ q,q=p y:=⟨_,rfl⟩
  rw [←hq] at hc
  have hat:atX xs i (poolD y):=y9Y hy hxs hi
  have hstep:q=false->∀ j z,j<k+1->l[j]?=some z->p z=false:=fun h=>y1hY hno hy (hq.symm.trans h)
  have hhit:q=true->r=k:=fun h=>by rw [hr,y2dY hy (hq.symm.trans h) hno]
  clear hq hy
  obtain ⟨ynm,ywe,yl0,yl1,yrs,yts,yge,yex,ybu,yme⟩:=y
  simp only [poolD,poolC] at hat hc
  obtain ⟨xyrs,hxyrs⟩:∃ xs,xs=yrs.map reqD:=⟨_,rfl⟩
  have cxyrs:CleanL xyrs:=by rw [hxyrs];exact ykY _
  simp only [←hxyrs] at hat hc
  obtain ⟨xyts,hxyts⟩:∃ xs,xs=yts.map labD:=⟨_,rfl⟩
  have cxyts:CleanL xyts:=by rw [hxyts];exact y4Y _
  simp only [←hxyts] at hat hc
  conv=>cbv
  refine ⟨_,hat,?_⟩
  conv=>cbv
  repeat' (refine And.intro (by first|assumption|exact ⟨rfl⟩|exact ⟨rfl,rfl⟩) ?_)
  refine ⟨_,hc,?_⟩
  cases q with
  | false =>
    conv=>cbv
    refine ⟨_,_,up _ _ ⟨_,k+1,rfl,?_,by omega,rfl,hstep rfl⟩,⟨⟨rfl,rfl,rfl,rfl,trivial⟩,trivial,rfl⟩,by omega⟩
    rw [y2Y hO (by omega) (by omega)];omega
  | true =>
    conv=>cbv
    rw [hhit rfl,hi]
theorem yecY (R:Ans) (f:Nat) (p:ClaimV->Bool) (l:List ClaimV) (hl:l.length<4611686018427387904) (q0:D) (cq0:Clean q0) (hp:∀ y∈l,R.v f [ybY y,.vptr q0 0] (.bool (p y))):AnsF R c50 [.sl 15 false (l.map ybY),.fn f [] [.vptr q0 0]] (jI (idxI p l)):=by
 obtain ⟨xs,hxs⟩:∃ xs,xs=l.map ybY:=⟨_,rfl⟩
 obtain ⟨r,hr⟩:∃ r,r=idxI p l:=⟨_,rfl⟩
 rw [←hxs,←hr]
 refine y0Y ⟨rfl,by decide⟩ fun O hO V hV=>?_
 subst hV
 have hlen:O .len xs=l.length:=by rw [o_len hO,hxs];simp
 conv=>cbv
 refine y6Y (fun n d=>∃ (i:Int) (k:Nat),d=⟨[(0,.sl 15 false xs),(1,.fn f [] [.vptr q0 0]),(7,jI (O .len xs)),(8,jI i)],[],false⟩/\i=k/\k<=l.length/\n=l.length-k/\∀ j y,j<k->l[j]?=some y->p y=false) ⟨_,_,⟨_,0,rfl,rfl,by omega,rfl,by simp⟩,⟨⟨rfl,rfl,rfl,rfl,trivial⟩,trivial,rfl⟩⟩ ?_
 rintro J up n d ⟨i,k,rfl,hi,hk,rfl,hno⟩
 conv=>cbv
 rintro (_|_) h1
 ·replace h1:=f_lss hO h1
  rw [hlen] at h1
  conv=>cbv
  rw [hr,y2cY fun y hy=>by
   obtain ⟨j,hj⟩:=List.mem_iff_getElem?.1 hy
   exact hno j y (by have:=(List.getElem?_eq_some_iff.1 hj).1;omega) hj]
 ·replace h1:=t_lss hO h1
  rw [hlen] at h1
  obtain ⟨y,hy⟩:∃ y,l[k]?=some y:=⟨_,List.getElem?_eq_getElem (by omega)⟩
  have hc:=hp y (List.mem_of_getElem? hy)
  obtain ⟨q,hq⟩:∃ q,q=p y:=⟨_,rfl⟩
  rw [←hq] at hc
  have hat:atX xs i (ybY y):=y9Y hy hxs hi
  have hstep:q=false->∀ j z,j<k+1->l[j]?=some z->p z=false:=fun h=>y1hY hno hy (hq.symm.trans h)
  have hhit:q=true->r=k:=fun h=>by rw [hr,y2dY hy (hq.symm.trans h) hno]
  clear hq hy
  obtain ⟨ynm,ypo,yge,⟨yot,yoz,yok⟩,ypr,yc0,yc1,yos,ytr,yid,yph,ybo,yma⟩:=y
  simp only [ybY,y1gY] at hat hc
  obtain ⟨xyos,hxyos⟩:∃ xs,xs=yos.map offD:=⟨_,rfl⟩
  have cxyos:CleanL xyos:=by rw [hxyos];exact y12Y _
  simp only [←hxyos] at hat hc
  conv=>cbv
  refine ⟨_,hat,?_⟩
  conv=>cbv
  repeat' (refine And.intro (by first|assumption|exact ⟨rfl⟩|exact ⟨rfl,rfl⟩) ?_)
  refine ⟨_,hc,?_⟩
  cases q with
  | false =>
    conv=>cbv
    refine ⟨_,_,up _ _ ⟨_,k+1,rfl,?_,by omega,rfl,hstep rfl⟩,⟨⟨rfl,rfl,rfl,rfl,trivial⟩,trivial,rfl⟩,by omega⟩
    rw [y2Y hO (by omega) (by omega)];omega
  | true =>
    conv=>cbv
    rw [hhit rfl,hi]
theorem yloY (R:Ans) (f:Nat) (p:ClaimV->Bool) (l:List ClaimV) (hl:l.length<4611686018427387904) (q0:D) (cq0:Clean q0) (q1:D) (cq1:Clean q1) (q2:D) (cq2:Clean q2) (hp:∀ y∈l,R.v f [ybY y,.vptr q0 0,.vptr q1 0,.vptr q2 0] (.bool (p y))):AnsF R c50 [.sl 15 false (l.map ybY),.fn f [] [.vptr q0 0,.vptr q1 0,.vptr q2 0]] (jI (idxI p l)):=by
 obtain ⟨xs,hxs⟩:∃ xs,xs=l.map ybY:=⟨_,rfl⟩
 obtain ⟨r,hr⟩:∃ r,r=idxI p l:=⟨_,rfl⟩
 rw [←hxs,←hr]
 refine y0Y ⟨rfl,by decide⟩ fun O hO V hV=>?_
 subst hV
 have hlen:O .len xs=l.length:=by rw [o_len hO,hxs];simp
 conv=>cbv
 refine y6Y (fun n d=>∃ (i:Int) (k:Nat),d=⟨[(0,.sl 15 false xs),(1,.fn f [] [.vptr q0 0,.vptr q1 0,.vptr q2 0]),(7,jI (O .len xs)),(8,jI i)],[],false⟩/\i=k/\k<=l.length/\n=l.length-k/\∀ j y,j<k->l[j]?=some y->p y=false) ⟨_,_,⟨_,0,rfl,rfl,by omega,rfl,by simp⟩,⟨⟨rfl,rfl,rfl,rfl,trivial⟩,trivial,rfl⟩⟩ ?_
 rintro J up n d ⟨i,k,rfl,hi,hk,rfl,hno⟩
 conv=>cbv
 rintro (_|_) h1
 ·replace h1:=f_lss hO h1
  rw [hlen] at h1
  conv=>cbv
  rw [hr,y2cY fun y hy=>by
   obtain ⟨j,hj⟩:=List.mem_iff_getElem?.1 hy
   exact hno j y (by have:=(List.getElem?_eq_some_iff.1 hj).1;omega) hj]
 ·replace h1:=t_lss hO h1
  rw [hlen] at h1
  obtain ⟨y,hy⟩:∃ y,l[k]?=some y:=⟨_,List.getElem?_eq_getElem (by omega)⟩
  have hc:=hp y (List.mem_of_getElem? hy)
  obtain ⟨q,hq⟩:∃ q,q=p y:=⟨_,rfl⟩
  rw [←hq] at hc
  have hat:atX xs i (ybY y):=y9Y hy hxs hi
  have hstep:q=false->∀ j z,j<k+1->l[j]?=some z->p z=false:=fun h=>y1hY hno hy (hq.symm.trans h)
  have hhit:q=true->r=k:=fun h=>by rw [hr,y2dY hy (hq.symm.trans h) hno]
  clear hq hy
  obtain ⟨ynm,ypo,yge,⟨yot,yoz,yok⟩,ypr,yc0,yc1,yos,ytr,yid,yph,ybo,yma⟩:=y
  simp only [ybY,y1gY] at hat hc
  obtain ⟨xyos,hxyos⟩:∃ xs,xs=yos.map offD:=⟨_,rfl⟩
  have cxyos:CleanL xyos:=by rw [hxyos];exact y12Y _
  simp only [←hxyos] at hat hc
  conv=>cbv
  refine ⟨_,hat,?_⟩
  conv=>cbv
  repeat' (refine And.intro (by first|assumption|exact ⟨rfl⟩|exact ⟨rfl,rfl⟩) ?_)
  refine ⟨_,hc,?_⟩
  cases q with
  | false =>
    conv=>cbv
    refine ⟨_,_,up _ _ ⟨_,k+1,rfl,?_,by omega,rfl,hstep rfl⟩,⟨⟨rfl,rfl,rfl,rfl,trivial⟩,trivial,rfl⟩,by omega⟩
    rw [y2Y hO (by omega) (by omega)];omega
  | true =>
    conv=>cbv
    rw [hhit rfl,hi]
theorem ylpY (R:Ans) (f:Nat) (p:LabV->Bool) (l:List LabV) (hl:l.length<4611686018427387904) (q0:D) (cq0:Clean q0) (hp:∀ y∈l,R.v f [labD y,.vptr q0 0] (.bool (p y))):AnsF R c168 [.sl 2 false (l.map labD),.fn f [] [.vptr q0 0]] (jI (idxI p l)):=by
 obtain ⟨xs,hxs⟩:∃ xs,xs=l.map labD:=⟨_,rfl⟩
 obtain ⟨r,hr⟩:∃ r,r=idxI p l:=⟨_,rfl⟩
 rw [←hxs,←hr]
 refine y0Y ⟨rfl,by decide⟩ fun O hO V hV=>?_
 subst hV
 have hlen:O .len xs=l.length:=by rw [o_len hO,hxs];simp
 conv=>cbv
 refine y6Y (fun n d=>∃ (i:Int) (k:Nat),d=⟨[(0,.sl 2 false xs),(1,.fn f [] [.vptr q0 0]),(7,jI (O .len xs)),(8,jI i)],[],false⟩/\i=k/\k<=l.length/\n=l.length-k/\∀ j y,j<k->l[j]?=some y->p y=false) ⟨_,_,⟨_,0,rfl,rfl,by omega,rfl,by simp⟩,⟨⟨rfl,rfl,rfl,rfl,trivial⟩,trivial,rfl⟩⟩ ?_
 rintro J up n d ⟨i,k,rfl,hi,hk,rfl,hno⟩
 conv=>cbv
 rintro (_|_) h1
 ·replace h1:=f_lss hO h1
  rw [hlen] at h1
  conv=>cbv
  rw [hr,y2cY fun y hy=>by
   obtain ⟨j,hj⟩:=List.mem_iff_getElem?.1 hy
   exact hno j y (by have:=(List.getElem?_eq_some_iff.1 hj).1;omega) hj]
 ·replace h1:=t_lss hO h1
  rw [hlen] at h1
  obtain ⟨y,hy⟩:∃ y,l[k]?=some y:=⟨_,List.getElem?_eq_getElem (by omega)⟩
  have hc:=hp y (List.mem_of_getElem? hy)
  obtain ⟨q,hq⟩:∃ q,q=p y:=⟨_,rfl⟩
  rw [←hq] at hc
  have hat:atX xs i (labD y):=y9Y hy hxs hi
  have hstep:q=false->∀ j z,j<k+1->l[j]?=some z->p z=false:=fun h=>y1hY hno hy (hq.symm.trans h)
  have hhit:q=true->r=k:=fun h=>by rw [hr,y2dY hy (hq.symm.trans h) hno]
  clear hq hy
  obtain ⟨yk,yv⟩:=y
  simp only [labD] at hat hc
  conv=>cbv
  refine ⟨_,hat,?_⟩
  conv=>cbv
  repeat' (refine And.intro (by first|assumption|exact ⟨rfl⟩|exact ⟨rfl,rfl⟩) ?_)
  refine ⟨_,hc,?_⟩
  cases q with
  | false =>
    conv=>cbv
    refine ⟨_,_,up _ _ ⟨_,k+1,rfl,?_,by omega,rfl,hstep rfl⟩,⟨⟨rfl,rfl,rfl,rfl,trivial⟩,trivial,rfl⟩,by omega⟩
    rw [y2Y hO (by omega) (by omega)];omega
  | true =>
    conv=>cbv
    rw [hhit rfl,hi]
theorem ylqY (R:Ans) (f:Nat) (p:LabV->Bool) (l:List LabV) (hl:l.length<4611686018427387904) (q0:D) (cq0:Clean q0) (q1:D) (cq1:Clean q1) (hp:∀ y∈l,R.v f [labD y,.vptr q0 0,.vptr q1 0] (.bool (p y))):AnsF R c168 [.sl 2 false (l.map labD),.fn f [] [.vptr q0 0,.vptr q1 0]] (jI (idxI p l)):=by
 obtain ⟨xs,hxs⟩:∃ xs,xs=l.map labD:=⟨_,rfl⟩
 obtain ⟨r,hr⟩:∃ r,r=idxI p l:=⟨_,rfl⟩
 rw [←hxs,←hr]
 refine y0Y ⟨rfl,by decide⟩ fun O hO V hV=>?_
 subst hV
 have hlen:O .len xs=l.length:=by rw [o_len hO,hxs];simp
 conv=>cbv
 refine y6Y (fun n d=>∃ (i:Int) (k:Nat),d=⟨[(0,.sl 2 false xs),(1,.fn f [] [.vptr q0 0,.vptr q1 0]),(7,jI (O .len xs)),(8,jI i)],[],false⟩/\i=k/\k<=l.length/\n=l.length-k/\∀ j y,j<k->l[j]?=some y->p y=false) ⟨_,_,⟨_,0,rfl,rfl,by omega,rfl,by simp⟩,⟨⟨rfl,rfl,rfl,rfl,trivial⟩,trivial,rfl⟩⟩ ?_
 rintro J up n d ⟨i,k,rfl,hi,hk,rfl,hno⟩
 conv=>cbv
 rintro (_|_) h1
 ·replace h1:=f_lss hO h1
  rw [hlen] at h1
  conv=>cbv
  rw [hr,y2cY fun y hy=>by
   obtain ⟨j,hj⟩:=List.mem_iff_getElem?.1 hy
   exact hno j y (by have:=(List.getElem?_eq_some_iff.1 hj).1;omega) hj]
 ·replace h1:=t_lss hO h1
  rw [hlen] at h1
  obtain ⟨y,hy⟩:∃ y,l[k]?=some y:=⟨_,List.getElem?_eq_getElem (by omega)⟩
  have hc:=hp y (List.mem_of_getElem? hy)
  obtain ⟨q,hq⟩:∃ q,q=p y:=⟨_,rfl⟩
  rw [←hq] at hc
  have hat:atX xs i (labD y):=y9Y hy hxs hi
  have hstep:q=false->∀ j z,j<k+1->l[j]?=some z->p z=false:=fun h=>y1hY hno hy (hq.symm.trans h)
  have hhit:q=true->r=k:=fun h=>by rw [hr,y2dY hy (hq.symm.trans h) hno]
  clear hq hy
  obtain ⟨yk,yv⟩:=y
  simp only [labD] at hat hc
  conv=>cbv
  refine ⟨_,hat,?_⟩
  conv=>cbv
  repeat' (refine And.intro (by first|assumption|exact ⟨rfl⟩|exact ⟨rfl,rfl⟩) ?_)
  refine ⟨_,hc,?_⟩
  cases q with
  | false =>
    conv=>cbv
    refine ⟨_,_,up _ _ ⟨_,k+1,rfl,?_,by omega,rfl,hstep rfl⟩,⟨⟨rfl,rfl,rfl,rfl,trivial⟩,trivial,rfl⟩,by omega⟩
    rw [y2Y hO (by omega) (by omega)];omega
  | true =>
    conv=>cbv
    rw [hhit rfl,hi]
theorem ylrY (R:Ans) (f:Nat) (p:PodV->Bool) (l:List PodV) (hl:l.length<4611686018427387904) (q0:D) (cq0:Clean q0) (hp:∀ y∈l,R.v f [podD y,.vptr q0 0] (.bool (p y))):AnsF R c171 [.sl 12 false (l.map podD),.fn f [] [.vptr q0 0]] (jI (idxI p l)):=by
 obtain ⟨xs,hxs⟩:∃ xs,xs=l.map podD:=⟨_,rfl⟩
 obtain ⟨r,hr⟩:∃ r,r=idxI p l:=⟨_,rfl⟩
 rw [←hxs,←hr]
 refine y0Y ⟨rfl,by decide⟩ fun O hO V hV=>?_
 subst hV
 have hlen:O .len xs=l.length:=by rw [o_len hO,hxs];simp
 conv=>cbv
 refine y6Y (fun n d=>∃ (i:Int) (k:Nat),d=⟨[(0,.sl 12 false xs),(1,.fn f [] [.vptr q0 0]),(7,jI (O .len xs)),(8,jI i)],[],false⟩/\i=k/\k<=l.length/\n=l.length-k/\∀ j y,j<k->l[j]?=some y->p y=false) ⟨_,_,⟨_,0,rfl,rfl,by omega,rfl,by simp⟩,⟨⟨rfl,rfl,rfl,rfl,trivial⟩,trivial,rfl⟩⟩ ?_
 rintro J up n d ⟨i,k,rfl,hi,hk,rfl,hno⟩
 conv=>cbv
 rintro (_|_) h1
 ·replace h1:=f_lss hO h1
  rw [hlen] at h1
  conv=>cbv
  rw [hr,y2cY fun y hy=>by
   obtain ⟨j,hj⟩:=List.mem_iff_getElem?.1 hy
   exact hno j y (by have:=(List.getElem?_eq_some_iff.1 hj).1;omega) hj]
 ·replace h1:=t_lss hO h1
  rw [hlen] at h1
  obtain ⟨y,hy⟩:∃ y,l[k]?=some y:=⟨_,List.getElem?_eq_getElem (by omega)⟩
  have hc:=hp y (List.mem_of_getElem? hy)
  obtain ⟨q,hq⟩:∃ q,q=p y:=⟨_,rfl⟩
  rw [←hq] at hc
  have hat:atX xs i (podD y):=y9Y hy hxs hi
  have hstep:q=false->∀ j z,j<k+1->l[j]?=some z->p z=false:=fun h=>y1hY hno hy (hq.symm.trans h)
  have hhit:q=true->r=k:=fun h=>by rw [hr,y2dY hy (hq.symm.trans h) hno]
  clear hq hy
  obtain ⟨ynm,yap,yn0,yn1,ypr,yrs,yts,yss,yns,yas,ysi,yon⟩:=y
  simp only [podD,podC] at hat hc
  obtain ⟨xyrs,hxyrs⟩:∃ xs,xs=yrs.map reqD:=⟨_,rfl⟩
  have cxyrs:CleanL xyrs:=by rw [hxyrs];exact ykY _
  simp only [←hxyrs] at hat hc
  obtain ⟨xyts,hxyts⟩:∃ xs,xs=yts.map tolD:=⟨_,rfl⟩
  have cxyts:CleanL xyts:=by rw [hxyts];exact yqY _
  simp only [←hxyts] at hat hc
  obtain ⟨xyss,hxyss⟩:∃ xs,xs=yss.map sprD:=⟨_,rfl⟩
  have cxyss:CleanL xyss:=by rw [hxyss];exact yrY _
  simp only [←hxyss] at hat hc
  obtain ⟨xyns,hxyns⟩:∃ xs,xs=yns.map labD:=⟨_,rfl⟩
  have cxyns:CleanL xyns:=by rw [hxyns];exact y4Y _
  simp only [←hxyns] at hat hc
  obtain ⟨xyas,hxyas⟩:∃ xs,xs=yas.map labD:=⟨_,rfl⟩
  have cxyas:CleanL xyas:=by rw [hxyas];exact y4Y _
  simp only [←hxyas] at hat hc
  conv=>cbv
  refine ⟨_,hat,?_⟩
  conv=>cbv
  repeat' (refine And.intro (by first|assumption|exact ⟨rfl⟩|exact ⟨rfl,rfl⟩) ?_)
  refine ⟨_,hc,?_⟩
  cases q with
  | false =>
    conv=>cbv
    refine ⟨_,_,up _ _ ⟨_,k+1,rfl,?_,by omega,rfl,hstep rfl⟩,⟨⟨rfl,rfl,rfl,rfl,trivial⟩,trivial,rfl⟩,by omega⟩
    rw [y2Y hO (by omega) (by omega)];omega
  | true =>
    conv=>cbv
    rw [hhit rfl,hi]
theorem ylsY (R:Ans) (f:Nat) (p:PodV->Bool) (l:List PodV) (hl:l.length<4611686018427387904) (q0:D) (cq0:Clean q0) (q1:D) (cq1:Clean q1) (hp:∀ y∈l,R.v f [podD y,.vptr q0 0,.vptr q1 0] (.bool (p y))):AnsF R c171 [.sl 12 false (l.map podD),.fn f [] [.vptr q0 0,.vptr q1 0]] (jI (idxI p l)):=by
 obtain ⟨xs,hxs⟩:∃ xs,xs=l.map podD:=⟨_,rfl⟩
 obtain ⟨r,hr⟩:∃ r,r=idxI p l:=⟨_,rfl⟩
 rw [←hxs,←hr]
 refine y0Y ⟨rfl,by decide⟩ fun O hO V hV=>?_
 subst hV
 have hlen:O .len xs=l.length:=by rw [o_len hO,hxs];simp
 conv=>cbv
 refine y6Y (fun n d=>∃ (i:Int) (k:Nat),d=⟨[(0,.sl 12 false xs),(1,.fn f [] [.vptr q0 0,.vptr q1 0]),(7,jI (O .len xs)),(8,jI i)],[],false⟩/\i=k/\k<=l.length/\n=l.length-k/\∀ j y,j<k->l[j]?=some y->p y=false) ⟨_,_,⟨_,0,rfl,rfl,by omega,rfl,by simp⟩,⟨⟨rfl,rfl,rfl,rfl,trivial⟩,trivial,rfl⟩⟩ ?_
 rintro J up n d ⟨i,k,rfl,hi,hk,rfl,hno⟩
 conv=>cbv
 rintro (_|_) h1
 ·replace h1:=f_lss hO h1
  rw [hlen] at h1
  conv=>cbv
  rw [hr,y2cY fun y hy=>by
   obtain ⟨j,hj⟩:=List.mem_iff_getElem?.1 hy
   exact hno j y (by have:=(List.getElem?_eq_some_iff.1 hj).1;omega) hj]
 ·replace h1:=t_lss hO h1
  rw [hlen] at h1
  obtain ⟨y,hy⟩:∃ y,l[k]?=some y:=⟨_,List.getElem?_eq_getElem (by omega)⟩
  have hc:=hp y (List.mem_of_getElem? hy)
  obtain ⟨q,hq⟩:∃ q,q=p y:=⟨_,rfl⟩
  rw [←hq] at hc
  have hat:atX xs i (podD y):=y9Y hy hxs hi
  have hstep:q=false->∀ j z,j<k+1->l[j]?=some z->p z=false:=fun h=>y1hY hno hy (hq.symm.trans h)
  have hhit:q=true->r=k:=fun h=>by rw [hr,y2dY hy (hq.symm.trans h) hno]
  clear hq hy
  obtain ⟨ynm,yap,yn0,yn1,ypr,yrs,yts,yss,yns,yas,ysi,yon⟩:=y
  simp only [podD,podC] at hat hc
  obtain ⟨xyrs,hxyrs⟩:∃ xs,xs=yrs.map reqD:=⟨_,rfl⟩
  have cxyrs:CleanL xyrs:=by rw [hxyrs];exact ykY _
  simp only [←hxyrs] at hat hc
  obtain ⟨xyts,hxyts⟩:∃ xs,xs=yts.map tolD:=⟨_,rfl⟩
  have cxyts:CleanL xyts:=by rw [hxyts];exact yqY _
  simp only [←hxyts] at hat hc
  obtain ⟨xyss,hxyss⟩:∃ xs,xs=yss.map sprD:=⟨_,rfl⟩
  have cxyss:CleanL xyss:=by rw [hxyss];exact yrY _
  simp only [←hxyss] at hat hc
  obtain ⟨xyns,hxyns⟩:∃ xs,xs=yns.map labD:=⟨_,rfl⟩
  have cxyns:CleanL xyns:=by rw [hxyns];exact y4Y _
  simp only [←hxyns] at hat hc
  obtain ⟨xyas,hxyas⟩:∃ xs,xs=yas.map labD:=⟨_,rfl⟩
  have cxyas:CleanL xyas:=by rw [hxyas];exact y4Y _
  simp only [←hxyas] at hat hc
  conv=>cbv
  refine ⟨_,hat,?_⟩
  conv=>cbv
  repeat' (refine And.intro (by first|assumption|exact ⟨rfl⟩|exact ⟨rfl,rfl⟩) ?_)
  refine ⟨_,hc,?_⟩
  cases q with
  | false =>
    conv=>cbv
    refine ⟨_,_,up _ _ ⟨_,k+1,rfl,?_,by omega,rfl,hstep rfl⟩,⟨⟨rfl,rfl,rfl,rfl,trivial⟩,trivial,rfl⟩,by omega⟩
    rw [y2Y hO (by omega) (by omega)];omega
  | true =>
    conv=>cbv
    rw [hhit rfl,hi]
theorem yltY (R:Ans) (f:Nat) (p:OfgV->Bool) (l:List OfgV) (q0:D) (cq0:Clean q0) (hI:R.v 262 [.sl 4 false (l.map ofgD),.fn f [] [.vptr q0 0]] (jI (idxI p l))):AnsF R c242 [.sl 4 false (l.map ofgD),.fn f [] [.vptr q0 0]] (.bool (l.any p)):=by
 obtain ⟨xs,hxs⟩:∃ xs,xs=l.map ofgD:=⟨_,rfl⟩
 have hcx:CleanL xs:=by rw [hxs];exact y1sY _
 obtain ⟨r,hr⟩:∃ r,r=l.any p:=⟨_,rfl⟩
 have hn:=y2iY p l
 obtain ⟨n,hn'⟩:∃ n,n=idxI p l:=⟨_,rfl⟩
 rw [←hn'] at hI hn
 rw [←hxs] at hI ⊢
 rw [←hr] at hn ⊢
 refine y0Y ⟨rfl,by decide⟩ fun O hO V hV=>?_
 subst hV
 conv=>cbv
 repeat' (refine And.intro (by first|assumption|exact ⟨rfl⟩|exact ⟨rfl,rfl⟩) ?_)
 refine ⟨_,hI,?_⟩
 conv=>cbv
 rintro (_|_) h<;>replace h:=ci hO h<;>dsimp only [CmpI] at h<;>(conv=>cbv)
 all_goals (cases r<;>first|rfl|(simp at hn;omega))
theorem yluY (R:Ans) (f:Nat) (p:TypeV->Bool) (l:List TypeV) (q0:D) (cq0:Clean q0) (hI:R.v 200 [.sl 7 false (l.map typeD),.fn f [] [.vptr q0 0]] (jI (idxI p l))):AnsF R c158 [.sl 7 false (l.map typeD),.fn f [] [.vptr q0 0]] (.bool (l.any p)):=by
 obtain ⟨xs,hxs⟩:∃ xs,xs=l.map typeD:=⟨_,rfl⟩
 have hcx:CleanL xs:=by rw [hxs];exact y2eY _
 obtain ⟨r,hr⟩:∃ r,r=l.any p:=⟨_,rfl⟩
 have hn:=y2iY p l
 obtain ⟨n,hn'⟩:∃ n,n=idxI p l:=⟨_,rfl⟩
 rw [←hn'] at hI hn
 rw [←hxs] at hI ⊢
 rw [←hr] at hn ⊢
 refine y0Y ⟨rfl,by decide⟩ fun O hO V hV=>?_
 subst hV
 conv=>cbv
 repeat' (refine And.intro (by first|assumption|exact ⟨rfl⟩|exact ⟨rfl,rfl⟩) ?_)
 refine ⟨_,hI,?_⟩
 conv=>cbv
 rintro (_|_) h<;>replace h:=ci hO h<;>dsimp only [CmpI] at h<;>(conv=>cbv)
 all_goals (cases r<;>first|rfl|(simp at hn;omega))
theorem ylvY (R:Ans) (f:Nat) (p:OffV->Bool) (l:List OffV) (q0:D) (cq0:Clean q0) (hI:R.v 246 [.sl 3 false (l.map offD),.fn f [] [.vptr q0 0]] (jI (idxI p l))):AnsF R c205 [.sl 3 false (l.map offD),.fn f [] [.vptr q0 0]] (.bool (l.any p)):=by
 obtain ⟨xs,hxs⟩:∃ xs,xs=l.map offD:=⟨_,rfl⟩
 have hcx:CleanL xs:=by rw [hxs];exact y12Y _
 obtain ⟨r,hr⟩:∃ r,r=l.any p:=⟨_,rfl⟩
 have hn:=y2iY p l
 obtain ⟨n,hn'⟩:∃ n,n=idxI p l:=⟨_,rfl⟩
 rw [←hn'] at hI hn
 rw [←hxs] at hI ⊢
 rw [←hr] at hn ⊢
 refine y0Y ⟨rfl,by decide⟩ fun O hO V hV=>?_
 subst hV
 conv=>cbv
 repeat' (refine And.intro (by first|assumption|exact ⟨rfl⟩|exact ⟨rfl,rfl⟩) ?_)
 refine ⟨_,hI,?_⟩
 conv=>cbv
 rintro (_|_) h<;>replace h:=ci hO h<;>dsimp only [CmpI] at h<;>(conv=>cbv)
 all_goals (cases r<;>first|rfl|(simp at hn;omega))
theorem ylwY (R:Ans) (f:Nat) (p:PoolV->Bool) (l:List PoolV) (q0:D) (cq0:Clean q0) (hI:R.v 105 [.sl 10 false (l.map poolD),.fn f [] [.vptr q0 0]] (jI (idxI p l))):AnsF R c46 [.sl 10 false (l.map poolD),.fn f [] [.vptr q0 0]] (.bool (l.any p)):=by
 obtain ⟨xs,hxs⟩:∃ xs,xs=l.map poolD:=⟨_,rfl⟩
 have hcx:CleanL xs:=by rw [hxs];exact y71Y _
 obtain ⟨r,hr⟩:∃ r,r=l.any p:=⟨_,rfl⟩
 have hn:=y2iY p l
 obtain ⟨n,hn'⟩:∃ n,n=idxI p l:=⟨_,rfl⟩
 rw [←hn'] at hI hn
 rw [←hxs] at hI ⊢
 rw [←hr] at hn ⊢
 refine y0Y ⟨rfl,by decide⟩ fun O hO V hV=>?_
 subst hV
 conv=>cbv
 repeat' (refine And.intro (by first|assumption|exact ⟨rfl⟩|exact ⟨rfl,rfl⟩) ?_)
 refine ⟨_,hI,?_⟩
 conv=>cbv
 rintro (_|_) h<;>replace h:=ci hO h<;>dsimp only [CmpI] at h<;>(conv=>cbv)
 all_goals (cases r<;>first|rfl|(simp at hn;omega))
theorem ylxY (R:Ans) (f:Nat) (p:ClaimV->Bool) (l:List ClaimV) (q0:D) (cq0:Clean q0) (hI:R.v 50 [.sl 15 false (l.map ybY),.fn f [] [.vptr q0 0]] (jI (idxI p l))):AnsF R c169 [.sl 15 false (l.map ybY),.fn f [] [.vptr q0 0]] (.bool (l.any p)):=by
 obtain ⟨xs,hxs⟩:∃ xs,xs=l.map ybY:=⟨_,rfl⟩
 have hcx:CleanL xs:=by rw [hxs];exact y62Y _
 obtain ⟨r,hr⟩:∃ r,r=l.any p:=⟨_,rfl⟩
 have hn:=y2iY p l
 obtain ⟨n,hn'⟩:∃ n,n=idxI p l:=⟨_,rfl⟩
 rw [←hn'] at hI hn
 rw [←hxs] at hI ⊢
 rw [←hr] at hn ⊢
 refine y0Y ⟨rfl,by decide⟩ fun O hO V hV=>?_
 subst hV
 conv=>cbv
 repeat' (refine And.intro (by first|assumption|exact ⟨rfl⟩|exact ⟨rfl,rfl⟩) ?_)
 refine ⟨_,hI,?_⟩
 conv=>cbv
 rintro (_|_) h<;>replace h:=ci hO h<;>dsimp only [CmpI] at h<;>(conv=>cbv)
 all_goals (cases r<;>first|rfl|(simp at hn;omega))
theorem ylyY (R:Ans) (f:Nat) (p:ClaimV->Bool) (l:List ClaimV) (q0:D) (cq0:Clean q0) (q1:D) (cq1:Clean q1) (q2:D) (cq2:Clean q2) (hI:R.v 50 [.sl 15 false (l.map ybY),.fn f [] [.vptr q0 0,.vptr q1 0,.vptr q2 0]] (jI (idxI p l))):AnsF R c169 [.sl 15 false (l.map ybY),.fn f [] [.vptr q0 0,.vptr q1 0,.vptr q2 0]] (.bool (l.any p)):=by
 obtain ⟨xs,hxs⟩:∃ xs,xs=l.map ybY:=⟨_,rfl⟩
 have hcx:CleanL xs:=by rw [hxs];exact y62Y _
 obtain ⟨r,hr⟩:∃ r,r=l.any p:=⟨_,rfl⟩
 have hn:=y2iY p l
 obtain ⟨n,hn'⟩:∃ n,n=idxI p l:=⟨_,rfl⟩
 rw [←hn'] at hI hn
 rw [←hxs] at hI ⊢
 rw [←hr] at hn ⊢
 refine y0Y ⟨rfl,by decide⟩ fun O hO V hV=>?_
 subst hV
 conv=>cbv
 repeat' (refine And.intro (by first|assumption|exact ⟨rfl⟩|exact ⟨rfl,rfl⟩) ?_)
 refine ⟨_,hI,?_⟩
 conv=>cbv
 rintro (_|_) h<;>replace h:=ci hO h<;>dsimp only [CmpI] at h<;>(conv=>cbv)
 all_goals (cases r<;>first|rfl|(simp at hn;omega))
theorem ylzY (R:Ans) (f:Nat) (p:LabV->Bool) (l:List LabV) (q0:D) (cq0:Clean q0) (hI:R.v 168 [.sl 2 false (l.map labD),.fn f [] [.vptr q0 0]] (jI (idxI p l))):AnsF R c109 [.sl 2 false (l.map labD),.fn f [] [.vptr q0 0]] (.bool (l.any p)):=by
 obtain ⟨xs,hxs⟩:∃ xs,xs=l.map labD:=⟨_,rfl⟩
 have hcx:CleanL xs:=by rw [hxs];exact y4Y _
 obtain ⟨r,hr⟩:∃ r,r=l.any p:=⟨_,rfl⟩
 have hn:=y2iY p l
 obtain ⟨n,hn'⟩:∃ n,n=idxI p l:=⟨_,rfl⟩
 rw [←hn'] at hI hn
 rw [←hxs] at hI ⊢
 rw [←hr] at hn ⊢
 refine y0Y ⟨rfl,by decide⟩ fun O hO V hV=>?_
 subst hV
 conv=>cbv
 repeat' (refine And.intro (by first|assumption|exact ⟨rfl⟩|exact ⟨rfl,rfl⟩) ?_)
 refine ⟨_,hI,?_⟩
 conv=>cbv
 rintro (_|_) h<;>replace h:=ci hO h<;>dsimp only [CmpI] at h<;>(conv=>cbv)
 all_goals (cases r<;>first|rfl|(simp at hn;omega))
theorem ym0Y (R:Ans) (f:Nat) (p:LabV->Bool) (l:List LabV) (q0:D) (cq0:Clean q0) (q1:D) (cq1:Clean q1) (hI:R.v 168 [.sl 2 false (l.map labD),.fn f [] [.vptr q0 0,.vptr q1 0]] (jI (idxI p l))):AnsF R c109 [.sl 2 false (l.map labD),.fn f [] [.vptr q0 0,.vptr q1 0]] (.bool (l.any p)):=by
 obtain ⟨xs,hxs⟩:∃ xs,xs=l.map labD:=⟨_,rfl⟩
 have hcx:CleanL xs:=by rw [hxs];exact y4Y _
 obtain ⟨r,hr⟩:∃ r,r=l.any p:=⟨_,rfl⟩
 have hn:=y2iY p l
 obtain ⟨n,hn'⟩:∃ n,n=idxI p l:=⟨_,rfl⟩
 rw [←hn'] at hI hn
 rw [←hxs] at hI ⊢
 rw [←hr] at hn ⊢
 refine y0Y ⟨rfl,by decide⟩ fun O hO V hV=>?_
 subst hV
 conv=>cbv
 repeat' (refine And.intro (by first|assumption|exact ⟨rfl⟩|exact ⟨rfl,rfl⟩) ?_)
 refine ⟨_,hI,?_⟩
 conv=>cbv
 rintro (_|_) h<;>replace h:=ci hO h<;>dsimp only [CmpI] at h<;>(conv=>cbv)
 all_goals (cases r<;>first|rfl|(simp at hn;omega))
theorem ym1Y (R:Ans) (f:Nat) (p:PodV->Bool) (l:List PodV) (q0:D) (cq0:Clean q0) (hI:R.v 171 [.sl 12 false (l.map podD),.fn f [] [.vptr q0 0]] (jI (idxI p l))):AnsF R c112 [.sl 12 false (l.map podD),.fn f [] [.vptr q0 0]] (.bool (l.any p)):=by
 obtain ⟨xs,hxs⟩:∃ xs,xs=l.map podD:=⟨_,rfl⟩
 have hcx:CleanL xs:=by rw [hxs];exact y1iY _
 obtain ⟨r,hr⟩:∃ r,r=l.any p:=⟨_,rfl⟩
 have hn:=y2iY p l
 obtain ⟨n,hn'⟩:∃ n,n=idxI p l:=⟨_,rfl⟩
 rw [←hn'] at hI hn
 rw [←hxs] at hI ⊢
 rw [←hr] at hn ⊢
 refine y0Y ⟨rfl,by decide⟩ fun O hO V hV=>?_
 subst hV
 conv=>cbv
 repeat' (refine And.intro (by first|assumption|exact ⟨rfl⟩|exact ⟨rfl,rfl⟩) ?_)
 refine ⟨_,hI,?_⟩
 conv=>cbv
 rintro (_|_) h<;>replace h:=ci hO h<;>dsimp only [CmpI] at h<;>(conv=>cbv)
 all_goals (cases r<;>first|rfl|(simp at hn;omega))
theorem ym2Y (R:Ans) (f:Nat) (p:PodV->Bool) (l:List PodV) (q0:D) (cq0:Clean q0) (q1:D) (cq1:Clean q1) (hI:R.v 171 [.sl 12 false (l.map podD),.fn f [] [.vptr q0 0,.vptr q1 0]] (jI (idxI p l))):AnsF R c112 [.sl 12 false (l.map podD),.fn f [] [.vptr q0 0,.vptr q1 0]] (.bool (l.any p)):=by
 obtain ⟨xs,hxs⟩:∃ xs,xs=l.map podD:=⟨_,rfl⟩
 have hcx:CleanL xs:=by rw [hxs];exact y1iY _
 obtain ⟨r,hr⟩:∃ r,r=l.any p:=⟨_,rfl⟩
 have hn:=y2iY p l
 obtain ⟨n,hn'⟩:∃ n,n=idxI p l:=⟨_,rfl⟩
 rw [←hn'] at hI hn
 rw [←hxs] at hI ⊢
 rw [←hr] at hn ⊢
 refine y0Y ⟨rfl,by decide⟩ fun O hO V hV=>?_
 subst hV
 conv=>cbv
 repeat' (refine And.intro (by first|assumption|exact ⟨rfl⟩|exact ⟨rfl,rfl⟩) ?_)
 refine ⟨_,hI,?_⟩
 conv=>cbv
 rintro (_|_) h<;>replace h:=ci hO h<;>dsimp only [CmpI] at h<;>(conv=>cbv)
 all_goals (cases r<;>first|rfl|(simp at hn;omega))
end Go.Proofs.AM
namespace Go.Proofs.AM
open Go Go.Lib
section
variable {α:Type} (κ:α->Str) (v:α->D)
end
theorem ym3Y {α:Type} {p:α->Bool} {l:List α}:(l.find? p).isSome=l.any p:=by
 rw [Bool.eq_iff_iff,List.find?_isSome,List.any_eq_true]
theorem y98Y {α:Type} {p:α->Bool} {l:List α} {k:Nat} {x:α} (hx:l[k]?=some x) (hp:p x=true) (h0:∀ (j:Nat) z,j<k->l[j]?=some z->p z=false):l.find? p=some x:=by
 obtain ⟨hk,rfl⟩:=List.getElem?_eq_some_iff.1 hx
 rw [List.find?_eq_some_iff_getElem]
 exact ⟨hp,k,hk,rfl,fun j hj=>by have:=h0 j _ hj (List.getElem?_eq_getElem (by omega));simp [this]⟩
theorem y99Y {α:Type} {p:α->Bool} {l:List α} (h0:∀ (j:Nat) z,j<l.length->l[j]?=some z->p z=false):l.find? p=none:=by
 rw [List.find?_eq_none]
 intro x hx
 obtain ⟨j,hj⟩:=List.mem_iff_getElem?.1 hx
 rw [h0 j x (List.getElem?_eq_some_iff.1 hj).1 hj];simp
theorem y63Y {α:Type} {p:α->Bool} {l:List α} (h0:∀ (j:Nat) z,j<l.length->l[j]?=some z->p z=true):l.all p=true:=by
 rw [List.all_eq_true]
 intro x hx
 obtain ⟨j,hj⟩:=List.mem_iff_getElem?.1 hx
 exact h0 j x (List.getElem?_eq_some_iff.1 hj).1 hj
theorem y9aY {α:Type} {p:α->Bool} {l:List α} {k:Nat} {x:α} (hx:l[k]?=some x) (hp:p x=false):l.all p=false:=by
 rw [List.all_eq_false]
 exact ⟨x,List.mem_of_getElem? hx,by simp [hp]⟩
theorem y64Y {α:Type} {p:α->Bool} {l:List α} {k:Nat} {y:α} (h:∀ (j:Nat) z,j<k->l[j]?=some z->p z=true) (hy:l[k]?=some y) (hp:p y=true):∀ (j:Nat) z,j<k+1->l[j]?=some z->p z=true:=fun j z hj hz=>by
 rcases Nat.lt_succ_iff_lt_or_eq.1 hj with h1|rfl
 ·exact h j z h1 hz
 ·rw [hy] at hz;simp only [Option.some.injEq] at hz;subst hz;exact hp
section
variable {K α:Type} [DecidableEq K] (kt:Bool × List (Nat × EqT)) (kd:K->D) (vd:α->D)
def getA (k:K) (l:List (K × α)):Option α:=(l.find? fun p=>decide (p.1=k)).map (·.2)
def putA (k:K) (v:α):List (K × α)->List (K × α)
 | []=>[(k,v)]
 | p::r=>if p.1=k then (k,v)::r else p::putA k v r
def entA {K α:Type} (kd:K->D) (vd:α->D) (p:K × α):D:=.tup [kd p.1,vd p.2]
theorem yedY (he:∀ a b,keyEq kt (kd a) (kd b)=some (decide (a=b))) (k:K):∀ l:List (K × α),lookD kt (kd k) (l.map (entA kd vd))=some ((getA k l).map vd)
 | []=>rfl
 | p::r=>by
   have ih:=yedY he k r
   unfold getA at ih ⊢
   simp only [List.map_cons,entA,lookD,he,Option.bind_some]
   by_cases h:p.1=k
   ·subst h
    simp
   ·rw [List.find?_cons_of_neg (by simpa using h)]
    have h2:¬k=p.1:=fun e=>h e.symm
    simp only [h2,decide_false,Bool.false_eq_true,if_false]
    exact ih
theorem yeeY (he:∀ a b,keyEq kt (kd a) (kd b)=some (decide (a=b))) (k:K) (u:α):∀ l:List (K × α),mputD kt (kd k) (vd u) (l.map (entA kd vd))=some ((putA k u l).map (entA kd vd))
 | []=>rfl
 | p::r=>by
   have ih:=yeeY he k u r
   simp only [List.map_cons,entA,mputD,he,Option.bind_some,putA]
   by_cases h:p.1=k
   ·subst h
    simp [entA]
   ·have h2:¬k=p.1:=fun e=>h e.symm
    simp only [h2,h,decide_false,Bool.false_eq_true,if_false,List.map_cons]
    change Option.map _ (mputD kt (kd k) (vd u) (r.map (entA kd vd)))=_
    rw [ih]
    rfl
omit [DecidableEq K] in
theorem ym4Y (hk:∀ k,Clean (kd k)) (hv:∀ v,Clean (vd v)) (l:List (K × α)):CleanL (l.map (entA kd vd)):=yaY (f:=entA kd vd) (fun p=>by
 obtain ⟨a1,a2⟩:=hk p.1
 obtain ⟨b1,b2⟩:=hv p.2
 exact ⟨by simp [entA,closed,closedL,a1,b1],by simp [entA,strip,stripL,a2,b2]⟩) rfl
theorem yefY (k k':K) (v:α):∀ l:List (K × α),getA k' (putA k v l)=if k'=k then some v else getA k' l
 | []=>by
   unfold getA putA
   by_cases h:k'=k
   ·subst h;simp
   ·have h2:¬k=k':=fun e=>h e.symm
    simp [h,h2]
 | p::r=>by
   have ih:=yefY k k' v r
   unfold getA at ih ⊢
   simp only [putA]
   by_cases h:p.1=k
   ·rw [if_pos h]
    by_cases h3:k'=k
    ·subst h3;simp
    ·have h2:¬k=k':=fun e=>h3 e.symm
     simp [h,h3,h2]
   ·rw [if_neg h]
    by_cases h3:p.1=k'
    ·subst h3
     simp [h]
    ·simp only [List.find?_cons,h3,decide_false]
     exact ih
theorem ym5Y {k:K} {l:List (K × α)} (h:∀ p∈l,p.1≠k):getA k l=none:=by
 unfold getA
 rw [List.find?_eq_none.2 fun p hp=>by simpa using h p hp]
 rfl
def putL' (m:List (K × α)) (L:List (K × α)):List (K × α):=L.foldl (fun m p=>putA p.1 p.2 m) m
theorem yegY (k:K):∀ (L m:List (K × α)),(L.Pairwise fun p q=>p.1≠q.1)->getA k (putL' m L)=match getA k L with|some v=>some v|none=>getA k m
 | [],m,_=>by simp [putL',getA]
 | p::r,m,h=>by
   have h':=List.pairwise_cons.1 h
   have ih:=yegY k r (putA p.1 p.2 m) h'.2
   show getA k (putL' (putA p.1 p.2 m) r)=_
   rw [ih,yefY]
   by_cases hk:k=p.1
   ·subst hk
    rw [ym5Y (l:=r) fun q hq e=>h'.1 q hq e.symm]
    simp [getA]
   ·have:getA k (p::r)=getA k r:=by
     unfold getA
     rw [List.find?_cons_of_neg (by simpa using fun e:p.1=k=>hk e.symm)]
    rw [this,if_neg hk]
end
theorem yehY {α:Type} {R:α->α->Prop} {l:List α} (h:∀ i x,l[i]?=some x->∀ y∈l.take i,R y x):l.Pairwise R:=by
 rw [List.pairwise_iff_getElem]
 intro i j hi hj hij
 exact h j _ (List.getElem?_eq_getElem hj) _ (mem_take.2 ⟨i,hij,List.getElem?_eq_getElem hi⟩)
def kO:Bool × List (Nat × EqT):=(true,[(0,.str),(1,.str),(2,.str)])
theorem yeiY (a b:OffV):keyEq kO (offD a) (offD b)=some (decide (a=b)):=by
 unfold keyEq
 obtain ⟨a1,a2,a3⟩:=a
 obtain ⟨b1,b2,b3⟩:=b
 simp [kO,offD,y2fY,D.cells,yuY,y94Y]
def entC (p:TypeV × OfgV):List D:=typeC p.1++ofgC p.2
def entD (p:TypeV × OfgV):D:=.agg (entC p)
def allL (l:List TypeV):List (OffV × (TypeV × OfgV)):=l.flatMap fun t=>t.offs.map fun x=>(⟨t.name,x.z,x.k⟩,(t,x))
noncomputable def allM (l:List TypeV):List (OffV × (TypeV × OfgV)):=if catE l=0 then putL' [] (allL l) else []
theorem yejY {t:TypeV} (h:typE t=0):nameB t.name=true/\amtsE t.c0 t.c1=0/\amtsE t.v0 t.v1=0/\fitsB t.v0 t.v1 t.c0 t.c1=true/\y23Y t.labs=0/\ofgsE t.offs=0:=by
 unfold typE at h
 have h2:=y2uY h
 simp only [List.mem_cons,List.not_mem_nil,or_false] at h2
 have a:=h2 _ (.inl rfl)
 have b:=h2 _ (.inr (.inr (.inr (.inl rfl))))
 refine ⟨?_,h2 _ (.inr (.inl rfl)),h2 _ (.inr (.inr (.inl rfl))),?_,h2 _ (.inr (.inr (.inr (.inr (.inl rfl))))),h2 _ (.inr (.inr (.inr (.inr (.inr rfl)))))⟩
 ·cases hn:nameB t.name with
  | true=>rfl
  | false=>rw [hn] at a;simp at a
 ·cases hn:fitsB t.v0 t.v1 t.c0 t.c1 with
  | true=>rfl
  | false=>rw [hn] at b;simp at b
theorem ym6Y {l:List OfgV} (h:ofgsE l=0):l.length<=6/\(∀ x∈l,nameB x.z=true/\nameB x.k=true/\amtE x.p=0)/\l.Pairwise fun a b=>¬(a.z=b.z/\a.k=b.k):=by
 unfold ofgsE at h
 rw [ye8Y,scan_up] at h
 have key:∀ i x,l[i]?=some x->(nameB x.z=true/\nameB x.k=true/\amtE x.p=0)/\(l.take i).any (fun y=>decide (y.z=x.z)&&decide (y.k=x.k))=false:=fun i x hx=>by
  have h2:=h.2 i x hx
  unfold ofgE at h2
  cases h3:nameB x.z<;>cases h4:nameB x.k<;>simp only [h3,h4,Bool.and_true,Bool.and_false,Bool.false_eq_true,if_false,if_true] at h2<;>try omega
  by_cases h5:amtE x.p=0
  ·rw [if_pos h5] at h2
   cases h6:(l.take i).any (fun y=>decide (y.z=x.z)&&decide (y.k=x.k)) with
   | false=>exact ⟨⟨rfl,rfl,h5⟩,rfl⟩
   | true=>rw [h6] at h2;simp at h2
  ·rw [if_neg h5] at h2;exact absurd h2 h5
 refine ⟨h.1,fun x hx=>?_,yehY fun i x hx y hy e=>?_⟩
 ·obtain ⟨i,hi⟩:=List.mem_iff_getElem?.1 hx
  exact (key i x hi).1
 ·have:=List.any_eq_false.1 (key i x hx).2 y hy
  simp [e.1,e.2] at this
theorem yekY {l:List TypeV} (h:catE l=0):l.length<=12/\(∀ t∈l,typE t=0)/\l.Pairwise fun a b=>a.name≠b.name:=by
 unfold catE at h
 rw [ye8Y,scan_up] at h
 have key:∀ i x,l[i]?=some x->typE x=0/\(l.take i).any (fun y=>decide (y.name=x.name))=false:=fun i x hx=>by
  have h2:=h.2 i x hx
  unfold ctypE at h2
  by_cases h5:typE x=0
  ·rw [if_pos h5] at h2
   cases h6:(l.take i).any (fun y=>decide (y.name=x.name)) with
   | false=>exact ⟨h5,rfl⟩
   | true=>rw [h6] at h2;simp at h2
  ·rw [if_neg h5] at h2;exact absurd h2 h5
 refine ⟨h.1,fun x hx=>?_,yehY fun i x hx y hy e=>?_⟩
 ·obtain ⟨i,hi⟩:=List.mem_iff_getElem?.1 hx
  exact (key i x hi).1
 ·have:=List.any_eq_false.1 (key i x hx).2 y hy
  simp [e] at this
theorem ym7Y {l:List TypeV} (h:catE l=0):(allL l).Pairwise fun p q=>p.1≠q.1:=by
 obtain ⟨_,h2,h3⟩:=yekY h
 unfold allL
 rw [List.pairwise_flatMap]
 refine ⟨fun t ht=>?_,h3.imp fun hab x hx y hy e=>?_⟩
 ·rw [List.pairwise_map]
  refine (ym6Y (yejY (h2 t ht)).2.2.2.2.2).2.2.imp fun hab e=>hab ?_
  simp only [OffV.mk.injEq,true_and] at e
  exact e
 ·obtain ⟨a,_,rfl⟩:=List.mem_map.1 hx
  obtain ⟨b,_,rfl⟩:=List.mem_map.1 hy
  simp only [OffV.mk.injEq] at e
  exact hab e.1
theorem ym8Y (l:List TypeV) (o:OffV):getA o (allL l)=findT l o:=by
 unfold getA allL findT
 induction l with
 | nil=>rfl
 | cons t r ih =>
   rw [List.flatMap_cons,List.find?_append,List.findSome?_cons]
   have e:(t.offs.map fun x=>((⟨t.name,x.z,x.k⟩:OffV),(t,x))).find? (fun p=>decide (p.1=o))=(t.offs.find? fun x=>decide (t.name=o.t)&&(decide (x.z=o.z)&&decide (x.k=o.k))).map fun x=>((⟨t.name,x.z,x.k⟩:OffV),(t,x)):=by
    rw [List.find?_map]
    congr 2
    funext x
    obtain ⟨o1,o2,o3⟩:=o
    simp [OffV.mk.injEq]
   rw [e]
   cases h:t.offs.find? fun x=>decide (t.name=o.t)&&(decide (x.z=o.z)&&decide (x.k=o.k)) with
   | none=>simpa using ih
   | some x=>simp
theorem ym9Y (l:List TypeV) (o:OffV):getA o (allM l)=findC l o:=by
 unfold allM findC
 split
 ·rename_i h
  rw [yegY _ _ _ (ym7Y h),ym8Y]
  cases findT l o<;>simp [getA]
 ·rfl
theorem y9bY {α:Type} {κ:α->Str} {g:α->List α->Int} (hg:∀ x ah,g x ah=0->rizE κ x ah=0) {l:List α} (h:scanE (upE g l) l.length=0):l.Pairwise fun a b=>κ a<κ b:=by
 have hadj:∀ (j:Nat) x y,l[j]?=some x->l[j+1]?=some y->κ x<κ y:=fun j x y hx hy=>by
  have h2:=hg _ _ (scan_up.1 h (j+1) y hy)
  unfold rizE at h2
  rw [y38Y (by omega) (show l[j+1-1]?=some x by simpa using hx)] at h2
  simp only at h2
  refine Classical.byContradiction fun hn=>?_
  rw [decide_eq_false hn] at h2
  simp at h2
 have hlt:∀ (d i:Nat) x y,l[i]?=some x->l[i+d+1]?=some y->κ x<κ y:=by
  intro d
  induction d with
  | zero=>exact fun i x y hx hy=>hadj i x y hx (by simpa using hy)
  | succ d ih =>
    intro i x y hx hy
    have hlen:=(List.getElem?_eq_some_iff.1 hy).1
    obtain ⟨z,hz⟩:∃ z,l[i+d+1]?=some z:=⟨_,List.getElem?_eq_getElem (by omega)⟩
    exact List.lt_trans (ih i x z hx hz) (hadj (i+d+1) z y hz (by simpa [Nat.add_assoc] using hy))
 rw [List.pairwise_iff_getElem]
 intro i j hi hj hij
 obtain ⟨d,rfl⟩:∃ d,j=i+d+1:=⟨j-i-1,by omega⟩
 exact hlt d i _ _ (List.getElem?_eq_getElem hi) (List.getElem?_eq_getElem hj)
theorem ymaY {α:Type} {κ:α->Str} {l:List α} (h:l.Pairwise fun a b=>κ a<κ b):(l.map κ).Nodup:=by
 unfold List.Nodup
 rw [List.pairwise_map]
 exact h.imp fun hab e=>by rw [e] at hab;exact List.lt_irrefl _ hab
theorem ymbY {α:Type} {κ:α->Str} {l:List α} (h:(l.map κ).Nodup) {x y:α} (hx:x∈l) (hy:y∈l) (e:κ x=κ y):x=y:=by
 induction l with
 | nil=>simp at hx
 | cons z l ih =>
   simp only [List.map_cons,List.nodup_cons] at h
   rcases List.mem_cons.1 hx with h1|h1<;>rcases List.mem_cons.1 hy with h2|h2
   ·rw [h1,h2]
   ·exact absurd (List.mem_map.2 ⟨y,h2,by rw [←e,h1]⟩) h.1
   ·exact absurd (List.mem_map.2 ⟨x,h1,by rw [e,h2]⟩) h.1
   ·exact ih h.2 h1 h2
theorem y46Y {b:Bool} {e:Int} (he:e≠0):wantI b e=0↔b=true:=by
 cases b<;>simp [wantI,he]
structure OkSnap (s:SnapV):Prop where
 nums:numsB s=true
 cat:catE s.types=0
 sizes:y54Y s=true
 pool:∀ p∈s.pools,poolE p=0
 poolO:s.pools.Pairwise fun a b=>a.name<b.name
 claim:∀ c∈s.claims,y1lY c=0/\y1uY s c.pool=true/\isO s.types c.off=true/\yzY s.types c.opts=true/\c.c0=(hasO s.types c.off).1/\c.c1=(hasO s.types c.off).2
 claimO:s.claims.Pairwise fun a b=>a.name<b.name
 pod:∀ p∈s.pods,podE p=0/\(p.on=[]∨y1dY s p.on=true)/\p.since<=s.now
 podO:s.pods.Pairwise fun a b=>a.name<b.name
 cmd:∀ c∈s.cmds,cmdE c=0
theorem y65Y {s:SnapV} (h:snapE s=0):OkSnap s:=by
 unfold snapE at h
 have h2:=y2uY h
 simp only [List.mem_cons,List.not_mem_nil,or_false] at h2
 have w1:=h2 _ (.inl rfl)
 have w2:=h2 _ (.inr (.inl rfl))
 have w3:=h2 _ (.inr (.inr (.inl rfl)))
 have w4:=h2 _ (.inr (.inr (.inr (.inl rfl))))
 have w5:=h2 _ (.inr (.inr (.inr (.inr (.inl rfl)))))
 have w6:=h2 _ (.inr (.inr (.inr (.inr (.inr (.inl rfl))))))
 have w7:=h2 _ (.inr (.inr (.inr (.inr (.inr (.inr (.inl rfl)))))))
 clear h h2
 unfold y2jY at w4
 unfold y1vY at w5
 unfold podsE at w6
 unfold cmdsE at w7
 have gp:∀ x ah,y39Y x ah=0->poolE x=0/\rizE (·.name) x ah=0:=fun x ah h=>by
  unfold y39Y at h
  split at h
  ·exact ⟨‹_›,h⟩
  ·exact absurd h ‹_›
 have gc:∀ x ah,y3aY s x ah=0->(y1lY x=0/\y1uY s x.pool=true/\isO s.types x.off=true/\yzY s.types x.opts=true/\x.c0=(hasO s.types x.off).1/\x.c1=(hasO s.types x.off).2)/\rizE (·.name) x ah=0:=fun x ah h=>by
  unfold y3aY at h
  split at h
  ·have h2:=y2uY h
   simp only [List.mem_cons,List.not_mem_nil,or_false] at h2
   have v2:=(y46Y (by decide)).1 (h2 _ (.inr (.inl rfl)))
   have v3:=(y46Y (by decide)).1 (h2 _ (.inr (.inr rfl)))
   simp only [Bool.and_eq_true,decide_eq_true_eq] at v2 v3
   exact ⟨⟨‹_›,v2.1,v2.2.1,v2.2.2,v3.1,v3.2⟩,h2 _ (.inl rfl)⟩
  ·exact absurd h ‹_›
 have gd:∀ x ah,vpodE s x ah=0->(podE x=0/\(x.on=[]∨y1dY s x.on=true)/\x.since<=s.now)/\rizE (·.name) x ah=0:=fun x ah h=>by
  unfold vpodE at h
  split at h
  ·have h2:=y2uY h
   simp only [List.mem_cons,List.not_mem_nil,or_false] at h2
   have v2:=(y46Y (by decide)).1 (h2 _ (.inr (.inl rfl)))
   have v3:=(y46Y (by decide)).1 (h2 _ (.inr (.inr rfl)))
   simp only [Bool.or_eq_true,decide_eq_true_eq] at v2 v3
   exact ⟨⟨‹_›,v2,v3⟩,h2 _ (.inl rfl)⟩
  ·exact absurd h ‹_›
 have ga:∀ {α:Type} {g:α->List α->Int} {l:List α} {P:α->Prop},(∀ x ah,g x ah=0->P x)->scanE (upE g l) l.length=0->∀ x∈l,P x:=fun hg hs x hx=>by
  obtain ⟨i,hi⟩:=List.mem_iff_getElem?.1 hx
  exact hg _ _ (scan_up.1 hs i x hi)
 exact ⟨(y46Y (by decide)).1 w1,w2,(y46Y (by decide)).1 w3,ga (fun x ah h=>(gp x ah h).1) w4,y9bY (fun x ah h=>(gp x ah h).2) w4,ga (fun x ah h=>(gc x ah h).1) w5,y9bY (fun x ah h=>(gc x ah h).2) w5,ga (fun x ah h=>(gd x ah h).1) w6,y9bY (fun x ah h=>(gd x ah h).2) w6,fun c hc=>by
  have:=scan_at.1 w7 c hc
  unfold vcmdE at this
  split at this
  ·assumption
  ·exact absurd this ‹_›⟩
noncomputable def yhY (s:SnapV) (p:PodV) (claim:Str):Int:=y3Y [snapE s,podE p,wantI (y1dY s claim) 5]
def zeroC:ClaimV:=⟨[],[],0,⟨[],[],[]⟩,0,0,0,[],0,[],0,0,false⟩
def ynY (s:SnapV) (n:Str):Option ClaimV:=s.claims.find? fun c=>decide (c.name=n)
theorem y9cY (s:SnapV) (n:Str):(ynY s n).isSome=y1dY s n:=ym3Y
def domOf (key:Str) (c:ClaimV):Str:=if key=zoneS then c.off.z else c.name
def hereB (s:SnapV) (c:ClaimV) (key:Str) (p:PodV):Bool:=s.claims.any fun y=>decide (y.name=p.on)&&((decide (key=hostS)&&decide (y.name=c.name))||(decide (key=zoneS)&&decide (y.off.z=c.off.z)))
def ysY (s:SnapV) (but:Str):List PodV:=s.pods.filter fun p=>!decide (p.on=[])&&!decide (p.name=but)
def nearT (s:SnapV) (c:ClaimV) (pod:PodV) (t:LabV):Bool :=
 ((ysY s pod.name).any fun p=>decide (p.app=t.v)&&hereB s c t.k p)||(!((ysY s pod.name).any fun p=>decide (p.app=t.v))&&decide (pod.app=t.v))
def y2oY (s:SnapV) (c:ClaimV) (pod:PodV) (t:LabV):Bool:=!(ysY s pod.name).any fun p=>decide (p.app=t.v)&&hereB s c t.k p
def y2xY (s:SnapV) (c:ClaimV) (pod:PodV) (p:PodV):Bool:=!p.apart.any fun t=>decide (t.v=pod.app)&&hereB s c t.k p
def y57Y (s:SnapV) (pod:PodV) (c:ClaimV):Bool:=pod.near.all (nearT s c pod)
def y47Y (s:SnapV) (pod:PodV) (c:ClaimV):Bool:=pod.apart.all (y2oY s c pod)&&(ysY s pod.name).all (y2xY s c pod)
noncomputable def nearE (s:SnapV) (p:PodV) (claim:Str):Bool × Int:=(decide (yhY s p claim=0)&&y57Y s p ((ynY s claim).getD zeroC),yhY s p claim)
noncomputable def yfY (s:SnapV) (p:PodV) (claim:Str):Bool × Int:=(decide (yhY s p claim=0)&&y47Y s p ((ynY s claim).getD zeroC),yhY s p claim)
theorem y9dY {k a:Str} (h:termE k a=0):k=zoneS∨k=hostS:=by
 unfold termE at h
 by_cases h1:k=zoneS
 ·exact .inl h1
 ·by_cases h2:k=hostS
  ·exact .inr h2
  ·simp [h1,h2] at h
theorem y66Y {p:PodV} (h:podE p=0):(∀ t∈p.near,t.k=zoneS∨t.k=hostS)/\(∀ t∈p.apart,t.k=zoneS∨t.k=hostS)/\∀ x∈p.spr,(x.k=zoneS∨x.k=hostS)/\1<=x.n/\x.n<=16:=by
 unfold podE at h
 have h2:=y2uY h
 simp only [List.mem_cons,List.not_mem_nil,or_false] at h2
 have c:=h2 _ (.inr (.inr (.inr (.inr (.inr (.inl rfl))))))
 unfold allTE at c
 split at c
 ·simp at c
 ·have h3:=y2uY c
  simp only [List.mem_cons,List.not_mem_nil,or_false] at h3
  refine ⟨fun t ht=>y9dY (scan_at.1 (h3 _ (.inr (.inl rfl))) t ht),fun t ht=>y9dY (scan_at.1 (h3 _ (.inr (.inr rfl))) t ht),fun x hx=>?_⟩
  have h4:=scan_at.1 (h3 _ (.inl rfl)) x hx
  unfold sprE at h4
  split at h4
  ·refine ⟨y9dY ‹_›,?_⟩
   cases hb:btw x.n 1 16 with
   | true=>unfold btw at hb;simpa using hb
   | false=>rw [hb] at h4;simp at h4
  ·exact absurd h4 ‹_›
theorem ymcY {s:SnapV} (ok:OkSnap s) {x y:ClaimV} (hx:x∈s.claims) (hy:y∈s.claims) (e:x.name=y.name):x=y:=ymbY (κ:=fun c:ClaimV=>c.name) (ymaY ok.claimO) hx hy e
theorem ymdY {s:SnapV} {n:Str} {c:ClaimV} (h:ynY s n=some c):c∈s.claims/\c.name=n :=
 ⟨List.mem_of_find?_eq_some h,by simpa using List.find?_some h⟩
theorem y9eY {s:SnapV} (ok:OkSnap s) {c:ClaimV} {key:Str} (hk:key=zoneS∨key=hostS) {p:PodV} (hp:y1dY s p.on=true):hereB s c key p=decide (domOf key ((ynY s p.on).getD zeroC)=domOf key c):=by
 rw [←y9cY] at hp
 obtain ⟨a,ha⟩:=Option.isSome_iff_exists.1 hp
 obtain ⟨h1,h2⟩:=ymdY ha
 have hzh:zoneS≠hostS:=by decide
 have hh:hereB s c key p=((decide (key=hostS)&&decide (a.name=c.name))||(decide (key=zoneS)&&decide (a.off.z=c.off.z))):=by
  unfold hereB
  rw [Bool.eq_iff_iff,List.any_eq_true]
  constructor
  ·rintro ⟨y,hy,hb⟩
   rw [Bool.and_eq_true,decide_eq_true_eq] at hb
   rw [ymcY ok hy h1 (by rw [hb.1,h2])] at hb
   exact hb.2
  ·intro hb
   exact ⟨a,h1,by rw [decide_eq_true h2,Bool.true_and];exact hb⟩
 rw [hh,ha]
 unfold domOf
 rcases hk with rfl|rfl
 ·simp [hzh]
 ·simp [Ne.symm hzh]
structure DomV where
 k:Str
 v:Str
 n:Int
 deriving DecidableEq
theorem begin_parts {s:SnapV} {p:PodV} {claim:Str}:yhY s p claim=0↔snapE s=0/\podE p=0/\y1dY s claim=true:=by
 unfold yhY
 simp only [yeY,y4zY]
 constructor
 ·intro h
  by_cases h1:snapE s=0
  ·by_cases h2:podE p=0
   ·by_cases h3:wantI (y1dY s claim) 5=0
    ·exact ⟨h1,h2,(y46Y (e:=5) (by decide)).1 h3⟩
    ·simp [h1,h2,h3] at h
   ·simp [h1,h2] at h
  ·simp [h1] at h
 ·rintro ⟨h1,h2,h3⟩
  simp [h1,h2,h3]
def y1jY (s:SnapV):SnapV:={ s with pods:=[] }
theorem ymeY (s:SnapV) (p:PodV) (claim:Str):(yhY (y1jY s) p claim=0->(nearE (y1jY s) p claim).1=p.near.all (fun t=>decide (p.app=t.v))/\(yfY (y1jY s) p claim).1=true)/\(yhY (y1jY s) p claim≠0->(nearE (y1jY s) p claim).1=false/\(yfY (y1jY s) p claim).1=false):=by
 unfold nearE yfY y57Y y47Y
 have ho:∀ but,ysY (y1jY s) but=[]:=fun but=>rfl
 constructor
 ·intro h
  simp only [h,decide_true,Bool.true_and,ho,List.all_nil,Bool.and_true]
  refine ⟨?_,?_⟩
  ·rfl
  ·rw [List.all_eq_true]
   intro t _
   unfold y2oY
   rw [ho]
   rfl
 ·intro h
  simp [h]
def withT (n a:List LabV) (p:PodV):PodV:={ p with near:=n,apart:=a }
theorem ymfY {p:PodV} {n a:List LabV} (h:podE p=0) (hn:∀ x∈n,x∈p.near) (ha:∀ x∈a,x∈p.apart) (ln:n.length<=p.near.length) (la:a.length<=p.apart.length):podE (withT n a p)=0:=by
 unfold podE at h ⊢
 have h3:=y2uY h
 simp only [List.mem_cons,List.not_mem_nil,or_false] at h3
 refine y50Y fun x hx=>?_
 simp only [List.mem_cons,List.not_mem_nil,or_false,withT] at hx
 have c:=h3 _ (.inr (.inr (.inr (.inr (.inr (.inl rfl))))))
 rcases hx with rfl|rfl|rfl|rfl|rfl|rfl|rfl|rfl
 ·exact h3 _ (.inl rfl)
 ·exact h3 _ (.inr (.inl rfl))
 ·exact h3 _ (.inr (.inr (.inl rfl)))
 ·exact h3 _ (.inr (.inr (.inr (.inl rfl))))
 ·exact h3 _ (.inr (.inr (.inr (.inr (.inl rfl)))))
 ·unfold allTE at c ⊢
  split at c
  ·simp at c
  ·rename_i hno
   have h4:=y2uY c
   rw [if_neg (by omega)]
   refine y50Y fun y hy=>?_
   simp only [List.mem_cons,List.not_mem_nil,or_false] at hy h4
   rcases hy with rfl|rfl|rfl
   ·exact h4 _ (.inl rfl)
   ·exact scan_at.2 fun x hx=>scan_at.1 (h4 _ (.inr (.inl rfl))) x (hn x hx)
   ·exact scan_at.2 fun x hx=>scan_at.1 (h4 _ (.inr (.inr rfl))) x (ha x hx)
 ·exact h3 _ (.inr (.inr (.inr (.inr (.inr (.inr (.inl rfl)))))))
 ·exact h3 _ (.inr (.inr (.inr (.inr (.inr (.inr (.inr rfl)))))))
theorem yelY {s:SnapV} {p:PodV} {claim:Str} {n a:List LabV} (h:yhY s p claim=0) (hn:∀ x∈n,x∈p.near) (ha:∀ x∈a,x∈p.apart) (ln:n.length<=p.near.length) (la:a.length<=p.apart.length) :
 yhY s (withT n a p) claim=0/\((nearE s p claim).1=true->(nearE s (withT n a p) claim).1=true)/\((yfY s p claim).1=true->(yfY s (withT n a p) claim).1=true):=by
 obtain ⟨h1,h2,h3⟩:=begin_parts.1 h
 have hb:yhY s (withT n a p) claim=0:=begin_parts.2 ⟨h1,ymfY h2 hn ha ln la,h3⟩
 refine ⟨hb,?_,?_⟩
 ·unfold nearE y57Y
  simp only [h,hb,decide_true,Bool.true_and,List.all_eq_true]
  exact fun hh t ht=>hh t (hn t ht)
 ·unfold yfY y47Y
  simp only [h,hb,decide_true,Bool.true_and,Bool.and_eq_true,List.all_eq_true]
  exact fun hh=>⟨fun t ht=>hh.1 t (ha t ht),hh.2⟩
def onlyP (s:SnapV) (p:PodV):SnapV:={ s with pods:=[p] }
def y8Y (n on:Str) (p:PodV):PodV:={ p with name:=n,on:=on,since:=0 }
theorem ymgY {s:SnapV} {a b:PodV} {x y:Str} (hx:x≠[]) (hy:y≠[]) {n1 n2:Str} (hne:n1≠n2) (h1:snapE (onlyP s (y8Y n1 x a))=0) (h2:snapE (onlyP s (y8Y n2 y b))=0) (k2:podE (y8Y n2 [] b)=0) :
 yhY (onlyP s (y8Y n1 x a)) (y8Y n2 [] b) y=0/\yhY (onlyP s (y8Y n2 y b)) (y8Y n1 x a) x=0/\(yfY (onlyP s (y8Y n1 x a)) (y8Y n2 [] b) y).1=(yfY (onlyP s (y8Y n2 y b)) (y8Y n1 x a) x).1:=by
 have o1:=y65Y h1
 have o2:=y65Y h2
 have p1:=o1.pod (y8Y n1 x a) (by simp [onlyP])
 have p2:=o2.pod (y8Y n2 y b) (by simp [onlyP])
 have cx:y1dY (onlyP s (y8Y n1 x a)) x=true:=p1.2.1.resolve_left hx
 have cy:y1dY (onlyP s (y8Y n2 y b)) y=true:=p2.2.1.resolve_left hy
 have b1:yhY (onlyP s (y8Y n1 x a)) (y8Y n2 [] b) y=0:=begin_parts.2 ⟨h1,k2,cy⟩
 have b2:yhY (onlyP s (y8Y n2 y b)) (y8Y n1 x a) x=0:=begin_parts.2 ⟨h2,p1.1,cx⟩
 refine ⟨b1,b2,?_⟩
 unfold yfY
 simp only [b1,b2,decide_true,Bool.true_and]
 have e1:ysY (onlyP s (y8Y n1 x a)) (y8Y n2 [] b).name=[y8Y n1 x a]:=by
  unfold ysY
  simp [onlyP,y8Y,hx,hne]
 have e2:ysY (onlyP s (y8Y n2 y b)) (y8Y n1 x a).name=[y8Y n2 y b]:=by
  unfold ysY
  simp [onlyP,y8Y,hy,Ne.symm hne]
 have t1:=(y66Y p1.1).2.1
 have t2:=(y66Y p2.1).2.1
 have d1:∀ key,key=zoneS∨key=hostS->hereB (onlyP s (y8Y n1 x a)) ((ynY (onlyP s (y8Y n1 x a)) y).getD zeroC) key (y8Y n1 x a)=decide (domOf key ((ynY s x).getD zeroC)=domOf key ((ynY s y).getD zeroC)):=fun key hk=>y9eY o1 hk cx
 have d2:∀ key,key=zoneS∨key=hostS->hereB (onlyP s (y8Y n2 y b)) ((ynY (onlyP s (y8Y n2 y b)) x).getD zeroC) key (y8Y n2 y b)=decide (domOf key ((ynY s y).getD zeroC)=domOf key ((ynY s x).getD zeroC)):=fun key hk=>y9eY o2 hk cy
 unfold y47Y
 rw [e1,e2]
 simp only [List.all_cons,List.all_nil,Bool.and_true]
 have q1:(y8Y n2 [] b).apart.all (y2oY (onlyP s (y8Y n1 x a)) ((ynY (onlyP s (y8Y n1 x a)) y).getD zeroC) (y8Y n2 [] b))=b.apart.all fun t=>!(decide (a.app=t.v)&&decide (domOf t.k ((ynY s x).getD zeroC)=domOf t.k ((ynY s y).getD zeroC))):=by
  show b.apart.all _=_
  rw [Bool.eq_iff_iff,List.all_eq_true,List.all_eq_true]
  refine forall_congr' fun t=>forall_congr' fun ht=>?_
  unfold y2oY
  rw [e1]
  simp only [List.any_cons,List.any_nil,Bool.or_false]
  rw [d1 t.k (t2 t ht)]
  rfl
 have q2:(y8Y n1 x a).apart.all (y2oY (onlyP s (y8Y n2 y b)) ((ynY (onlyP s (y8Y n2 y b)) x).getD zeroC) (y8Y n1 x a))=a.apart.all fun t=>!(decide (b.app=t.v)&&decide (domOf t.k ((ynY s y).getD zeroC)=domOf t.k ((ynY s x).getD zeroC))):=by
  show a.apart.all _=_
  rw [Bool.eq_iff_iff,List.all_eq_true,List.all_eq_true]
  refine forall_congr' fun t=>forall_congr' fun ht=>?_
  unfold y2oY
  rw [e2]
  simp only [List.any_cons,List.any_nil,Bool.or_false]
  rw [d2 t.k (t1 t ht)]
  rfl
 have q3:y2xY (onlyP s (y8Y n1 x a)) ((ynY (onlyP s (y8Y n1 x a)) y).getD zeroC) (y8Y n2 [] b) (y8Y n1 x a)=a.apart.all fun t=>!(decide (b.app=t.v)&&decide (domOf t.k ((ynY s y).getD zeroC)=domOf t.k ((ynY s x).getD zeroC))):=by
  unfold y2xY
  show (!a.apart.any _)=_
  rw [List.not_any_eq_all_not,Bool.eq_iff_iff,List.all_eq_true,List.all_eq_true]
  refine forall_congr' fun t=>forall_congr' fun ht=>?_
  rw [d1 t.k (t1 t ht)]
  show (!(decide (t.v=b.app)&&_))=true↔_
  rw [y53Y t.v,y53Y (domOf t.k ((ynY s x).getD zeroC))]
 have q4:y2xY (onlyP s (y8Y n2 y b)) ((ynY (onlyP s (y8Y n2 y b)) x).getD zeroC) (y8Y n1 x a) (y8Y n2 y b)=b.apart.all fun t=>!(decide (a.app=t.v)&&decide (domOf t.k ((ynY s x).getD zeroC)=domOf t.k ((ynY s y).getD zeroC))):=by
  unfold y2xY
  show (!b.apart.any _)=_
  rw [List.not_any_eq_all_not,Bool.eq_iff_iff,List.all_eq_true,List.all_eq_true]
  refine forall_congr' fun t=>forall_congr' fun ht=>?_
  rw [d2 t.k (t2 t ht)]
  show (!(decide (t.v=a.app)&&_))=true↔_
  rw [y53Y t.v,y53Y (domOf t.k ((ynY s y).getD zeroC))]
 rw [q1,q2,q3,q4,Bool.and_comm]
structure KeyV where
 k:Str
 s:SetV
 deriving DecidableEq
theorem ymhY {a b:Str} (h:a<b) (h2:b<a):False:=List.lt_irrefl a (List.lt_trans h h2)
section
variable {α:Type} {κ:α->Str}
end
theorem ymiY {l:List TypeV} {o:OffV} {t:TypeV} {x:OfgV} (h:findC l o=some (t,x)):catE l=0/\t∈l/\x∈t.offs/\t.name=o.t/\x.z=o.z/\x.k=o.k:=by
 unfold findC at h
 split at h
 ·rename_i h0
  unfold findT at h
  obtain ⟨u,hu,h2⟩:=List.exists_of_findSome?_eq_some h
  obtain ⟨y,hy,e⟩:=Option.map_eq_some_iff.1 h2
  simp only [Prod.mk.injEq] at e
  obtain ⟨rfl,rfl⟩:=e
  have h3:=List.find?_some hy
  simp only [Bool.and_eq_true,decide_eq_true_eq] at h3
  exact ⟨h0,hu,List.mem_of_find?_eq_some hy,h3.1,h3.2.1,h3.2.2⟩
 ·simp at h
theorem yemY {n:Int}:amtE n=0↔0<=n/\n<=1125899906842624:=by
 unfold amtE
 split
 ·simp;omega
 ·split
  ·simp;omega
  ·simp;omega
theorem amts_zero {a b:Int}:amtsE a b=0↔(0<=a/\a<=1125899906842624)/\0<=b/\b<=1125899906842624:=by
 unfold amtsE
 rw [←yemY,←yemY]
 constructor
 ·intro h
  split at h
  ·exact ⟨‹_›,h⟩
  ·exact absurd h ‹_›
 ·rintro ⟨h1,h2⟩
  rw [if_pos h1,h2]
theorem fits_iff {a0 a1 b0 b1:Int}:fitsB a0 a1 b0 b1=true↔amtsE a0 a1=0/\amtsE b0 b1=0/\a0<=b0/\a1<=b1:=by
 unfold fitsB
 simp [and_assoc]
end Go.Proofs.AM
