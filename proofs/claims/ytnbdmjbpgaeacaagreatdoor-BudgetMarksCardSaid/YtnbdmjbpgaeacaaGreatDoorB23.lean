/- Part 23 of the lemmas: AKb, PXa, PZa, PZb, PZc, PZd, PZe, PZf, PXb, PZg, PZh. -/
import Derived.Test.YtnbdmjbpgaeacaaGreatDoorB14
import Derived.Test.YtnbdmjbpgaeacaaGreatDoorB15
import Derived.Test.YtnbdmjbpgaeacaaGreatDoorB13
import Derived.Test.YtnbdmjbpgaeacaaGreatDoorB07
import Derived.Test.YtnbdmjbpgaeacaaGreatDoorB16
import Derived.Test.YtnbdmjbpgaeacaaGreatDoorB06
set_option maxRecDepth 100000
set_option maxHeartbeats 8000000
set_option linter.all false
namespace Go.Proofs.AM
open Go Go.Lib Cd
theorem yliY (R:Ans) (f:Nat) (p:OfgV->Bool) (l:List OfgV) (hl:l.length<4611686018427387904) (q0:D) (cq0:Clean q0) (hp:∀ y∈l,R.v f [ofgD y,.vptr q0 0] (.bool (p y))):AnsF R c262 [.sl 4 false (l.map ofgD),.fn f [] [.vptr q0 0]] (jI (idxI p l)):=by
 obtain ⟨xs,hxs⟩:∃ xs,xs=l.map ofgD:=⟨_,rfl⟩
 obtain ⟨r,hr⟩:∃ r,r=idxI p l:=⟨_,rfl⟩
 rw [←hxs,←hr]
 refine y2Y ⟨rfl,by decide⟩ fun O hO V hV=>?_
 subst hV
 have hlen:O .len xs=l.length:=by rw [o_len hO,hxs];simp
 conv=>cbv
 refine y4Y (fun n d=>∃ (i:Int) (k:Nat),d=⟨[(0,.sl 4 false xs),(1,.fn f [] [.vptr q0 0]),(7,jI (O .len xs)),(8,jI i)],[],false⟩/\i=k/\k<=l.length/\n=l.length-k/\∀ j y,j<k->l[j]?=some y->p y=false) ⟨_,_,⟨_,0,rfl,rfl,by omega,rfl,by simp⟩,⟨⟨rfl,rfl,rfl,rfl,trivial⟩,trivial,rfl⟩⟩ ?_
 rintro J up n d ⟨i,k,rfl,hi,hk,rfl,hno⟩
 conv=>cbv
 rintro (_|_) h1
 ·replace h1:=f_lss hO h1
  rw [hlen] at h1
  conv=>cbv
  rw [hr,y2xY fun y hy=>by
   obtain ⟨j,hj⟩:=List.mem_iff_getElem?.1 hy
   exact hno j y (by have:=(List.getElem?_eq_some_iff.1 hj).1;omega) hj]
 ·replace h1:=t_lss hO h1
  rw [hlen] at h1
  obtain ⟨y,hy⟩:∃ y,l[k]?=some y:=⟨_,List.getElem?_eq_getElem (by omega)⟩
  have hc:=hp y (List.mem_of_getElem? hy)
  obtain ⟨q,hq⟩:∃ q,q=p y:=⟨_,rfl⟩
  rw [←hq] at hc
  have hat:atX xs i (ofgD y):=y6Y hy hxs hi
  have hstep:q=false->∀ j z,j<k+1->l[j]?=some z->p z=false:=fun h=>y1hY hno hy (hq.symm.trans h)
  have hhit:q=true->r=k:=fun h=>by rw [hr,y2yY hy (hq.symm.trans h) hno]
  clear hq hy
  obtain ⟨yz,yk,yp,yo⟩:=y
  simp only [ofgD,ofgC] at hat hc
  conv=>cbv
  refine ⟨_,hat,?_⟩
  conv=>cbv
  repeat' (refine And.intro (by first|assumption|exact ⟨rfl⟩|exact ⟨rfl,rfl⟩) ?_)
  refine ⟨_,hc,?_⟩
  cases q with
  | false =>
    conv=>cbv
    refine ⟨_,_,up _ _ ⟨_,k+1,rfl,?_,by omega,rfl,hstep rfl⟩,⟨⟨rfl,rfl,rfl,rfl,trivial⟩,trivial,rfl⟩,by omega⟩
    rw [y0Y hO (by omega) (by omega)];omega
  | true =>
    conv=>cbv
    rw [hhit rfl,hi]
theorem yljY (R:Ans) (f:Nat) (p:TypeV->Bool) (l:List TypeV) (hl:l.length<4611686018427387904) (q0:D) (cq0:Clean q0) (hp:∀ y∈l,R.v f [typeD y,.vptr q0 0] (.bool (p y))):AnsF R c200 [.sl 7 false (l.map typeD),.fn f [] [.vptr q0 0]] (jI (idxI p l)):=by
 obtain ⟨xs,hxs⟩:∃ xs,xs=l.map typeD:=⟨_,rfl⟩
 obtain ⟨r,hr⟩:∃ r,r=idxI p l:=⟨_,rfl⟩
 rw [←hxs,←hr]
 refine y2Y ⟨rfl,by decide⟩ fun O hO V hV=>?_
 subst hV
 have hlen:O .len xs=l.length:=by rw [o_len hO,hxs];simp
 conv=>cbv
 refine y4Y (fun n d=>∃ (i:Int) (k:Nat),d=⟨[(0,.sl 7 false xs),(1,.fn f [] [.vptr q0 0]),(7,jI (O .len xs)),(8,jI i)],[],false⟩/\i=k/\k<=l.length/\n=l.length-k/\∀ j y,j<k->l[j]?=some y->p y=false) ⟨_,_,⟨_,0,rfl,rfl,by omega,rfl,by simp⟩,⟨⟨rfl,rfl,rfl,rfl,trivial⟩,trivial,rfl⟩⟩ ?_
 rintro J up n d ⟨i,k,rfl,hi,hk,rfl,hno⟩
 conv=>cbv
 rintro (_|_) h1
 ·replace h1:=f_lss hO h1
  rw [hlen] at h1
  conv=>cbv
  rw [hr,y2xY fun y hy=>by
   obtain ⟨j,hj⟩:=List.mem_iff_getElem?.1 hy
   exact hno j y (by have:=(List.getElem?_eq_some_iff.1 hj).1;omega) hj]
 ·replace h1:=t_lss hO h1
  rw [hlen] at h1
  obtain ⟨y,hy⟩:∃ y,l[k]?=some y:=⟨_,List.getElem?_eq_getElem (by omega)⟩
  have hc:=hp y (List.mem_of_getElem? hy)
  obtain ⟨q,hq⟩:∃ q,q=p y:=⟨_,rfl⟩
  rw [←hq] at hc
  have hat:atX xs i (typeD y):=y6Y hy hxs hi
  have hstep:q=false->∀ j z,j<k+1->l[j]?=some z->p z=false:=fun h=>y1hY hno hy (hq.symm.trans h)
  have hhit:q=true->r=k:=fun h=>by rw [hr,y2yY hy (hq.symm.trans h) hno]
  clear hq hy
  obtain ⟨ynm,yc0,yc1,yv0,yv1,yls,yos⟩:=y
  simp only [typeD,typeC] at hat hc
  obtain ⟨xyls,hxyls⟩:∃ xs,xs=yls.map labD:=⟨_,rfl⟩
  have cxyls:CleanL xyls:=by rw [hxyls];exact ynY _
  simp only [←hxyls] at hat hc
  obtain ⟨xyos,hxyos⟩:∃ xs,xs=yos.map ofgD:=⟨_,rfl⟩
  have cxyos:CleanL xyos:=by rw [hxyos];exact y1mY _
  simp only [←hxyos] at hat hc
  conv=>cbv
  refine ⟨_,hat,?_⟩
  conv=>cbv
  repeat' (refine And.intro (by first|assumption|exact ⟨rfl⟩|exact ⟨rfl,rfl⟩) ?_)
  refine ⟨_,hc,?_⟩
  cases q with
  | false =>
    conv=>cbv
    refine ⟨_,_,up _ _ ⟨_,k+1,rfl,?_,by omega,rfl,hstep rfl⟩,⟨⟨rfl,rfl,rfl,rfl,trivial⟩,trivial,rfl⟩,by omega⟩
    rw [y0Y hO (by omega) (by omega)];omega
  | true =>
    conv=>cbv
    rw [hhit rfl,hi]
theorem ylkY (R:Ans) (f:Nat) (p:OffV->Bool) (l:List OffV) (hl:l.length<4611686018427387904) (q0:D) (cq0:Clean q0) (hp:∀ y∈l,R.v f [offD y,.vptr q0 0] (.bool (p y))):AnsF R c246 [.sl 3 false (l.map offD),.fn f [] [.vptr q0 0]] (jI (idxI p l)):=by
 obtain ⟨xs,hxs⟩:∃ xs,xs=l.map offD:=⟨_,rfl⟩
 obtain ⟨r,hr⟩:∃ r,r=idxI p l:=⟨_,rfl⟩
 rw [←hxs,←hr]
 refine y2Y ⟨rfl,by decide⟩ fun O hO V hV=>?_
 subst hV
 have hlen:O .len xs=l.length:=by rw [o_len hO,hxs];simp
 conv=>cbv
 refine y4Y (fun n d=>∃ (i:Int) (k:Nat),d=⟨[(0,.sl 3 false xs),(1,.fn f [] [.vptr q0 0]),(7,jI (O .len xs)),(8,jI i)],[],false⟩/\i=k/\k<=l.length/\n=l.length-k/\∀ j y,j<k->l[j]?=some y->p y=false) ⟨_,_,⟨_,0,rfl,rfl,by omega,rfl,by simp⟩,⟨⟨rfl,rfl,rfl,rfl,trivial⟩,trivial,rfl⟩⟩ ?_
 rintro J up n d ⟨i,k,rfl,hi,hk,rfl,hno⟩
 conv=>cbv
 rintro (_|_) h1
 ·replace h1:=f_lss hO h1
  rw [hlen] at h1
  conv=>cbv
  rw [hr,y2xY fun y hy=>by
   obtain ⟨j,hj⟩:=List.mem_iff_getElem?.1 hy
   exact hno j y (by have:=(List.getElem?_eq_some_iff.1 hj).1;omega) hj]
 ·replace h1:=t_lss hO h1
  rw [hlen] at h1
  obtain ⟨y,hy⟩:∃ y,l[k]?=some y:=⟨_,List.getElem?_eq_getElem (by omega)⟩
  have hc:=hp y (List.mem_of_getElem? hy)
  obtain ⟨q,hq⟩:∃ q,q=p y:=⟨_,rfl⟩
  rw [←hq] at hc
  have hat:atX xs i (offD y):=y6Y hy hxs hi
  have hstep:q=false->∀ j z,j<k+1->l[j]?=some z->p z=false:=fun h=>y1hY hno hy (hq.symm.trans h)
  have hhit:q=true->r=k:=fun h=>by rw [hr,y2yY hy (hq.symm.trans h) hno]
  clear hq hy
  obtain ⟨yt,yz,yk⟩:=y
  simp only [offD] at hat hc
  conv=>cbv
  refine ⟨_,hat,?_⟩
  conv=>cbv
  repeat' (refine And.intro (by first|assumption|exact ⟨rfl⟩|exact ⟨rfl,rfl⟩) ?_)
  refine ⟨_,hc,?_⟩
  cases q with
  | false =>
    conv=>cbv
    refine ⟨_,_,up _ _ ⟨_,k+1,rfl,?_,by omega,rfl,hstep rfl⟩,⟨⟨rfl,rfl,rfl,rfl,trivial⟩,trivial,rfl⟩,by omega⟩
    rw [y0Y hO (by omega) (by omega)];omega
  | true =>
    conv=>cbv
    rw [hhit rfl,hi]
theorem ye1Y (R:Ans) (f:Nat) (p:PoolV->Bool) (l:List PoolV) (hl:l.length<4611686018427387904) (q0:D) (cq0:Clean q0) (hp:∀ y∈l,R.v f [poolD y,.vptr q0 0] (.bool (p y))):AnsF R c105 [.sl 10 false (l.map poolD),.fn f [] [.vptr q0 0]] (jI (idxI p l)):=by
 obtain ⟨xs,hxs⟩:∃ xs,xs=l.map poolD:=⟨_,rfl⟩
 obtain ⟨r,hr⟩:∃ r,r=idxI p l:=⟨_,rfl⟩
 rw [←hxs,←hr]
 refine y2Y ⟨rfl,by decide⟩ fun O hO V hV=>?_
 subst hV
 have hlen:O .len xs=l.length:=by rw [o_len hO,hxs];simp
 conv=>cbv
 refine y4Y (fun n d=>∃ (i:Int) (k:Nat),d=⟨[(0,.sl 10 false xs),(1,.fn f [] [.vptr q0 0]),(7,jI (O .len xs)),(8,jI i)],[],false⟩/\i=k/\k<=l.length/\n=l.length-k/\∀ j y,j<k->l[j]?=some y->p y=false) ⟨_,_,⟨_,0,rfl,rfl,by omega,rfl,by simp⟩,⟨⟨rfl,rfl,rfl,rfl,trivial⟩,trivial,rfl⟩⟩ ?_
 rintro J up n d ⟨i,k,rfl,hi,hk,rfl,hno⟩
 conv=>cbv
 rintro (_|_) h1
 ·replace h1:=f_lss hO h1
  rw [hlen] at h1
  conv=>cbv
  rw [hr,y2xY fun y hy=>by
   obtain ⟨j,hj⟩:=List.mem_iff_getElem?.1 hy
   exact hno j y (by have:=(List.getElem?_eq_some_iff.1 hj).1;omega) hj]
 ·replace h1:=t_lss hO h1
  rw [hlen] at h1
  obtain ⟨y,hy⟩:∃ y,l[k]?=some y:=⟨_,List.getElem?_eq_getElem (by omega)⟩
  have hc:=hp y (List.mem_of_getElem? hy)
  obtain ⟨q,hq⟩:∃ q,q=p y:=⟨_,rfl⟩
  rw [←hq] at hc
  have hat:atX xs i (poolD y):=y6Y hy hxs hi
  have hstep:q=false->∀ j z,j<k+1->l[j]?=some z->p z=false:=fun h=>y1hY hno hy (hq.symm.trans h)
  have hhit:q=true->r=k:=fun h=>by rw [hr,y2yY hy (hq.symm.trans h) hno]
  clear hq hy
  obtain ⟨ynm,ywe,yl0,yl1,yrs,yts,yge,yex,ybu,yme⟩:=y
  simp only [poolD,poolC] at hat hc
  obtain ⟨xyrs,hxyrs⟩:∃ xs,xs=yrs.map reqD:=⟨_,rfl⟩
  have cxyrs:CleanL xyrs:=by rw [hxyrs];exact y1iY _
  simp only [←hxyrs] at hat hc
  obtain ⟨xyts,hxyts⟩:∃ xs,xs=yts.map labD:=⟨_,rfl⟩
  have cxyts:CleanL xyts:=by rw [hxyts];exact ynY _
  simp only [←hxyts] at hat hc
  conv=>cbv
  refine ⟨_,hat,?_⟩
  conv=>cbv
  repeat' (refine And.intro (by first|assumption|exact ⟨rfl⟩|exact ⟨rfl,rfl⟩) ?_)
  refine ⟨_,hc,?_⟩
  cases q with
  | false =>
    conv=>cbv
    refine ⟨_,_,up _ _ ⟨_,k+1,rfl,?_,by omega,rfl,hstep rfl⟩,⟨⟨rfl,rfl,rfl,rfl,trivial⟩,trivial,rfl⟩,by omega⟩
    rw [y0Y hO (by omega) (by omega)];omega
  | true =>
    conv=>cbv
    rw [hhit rfl,hi]
theorem ye2Y (R:Ans) (f:Nat) (p:ClaimV->Bool) (l:List ClaimV) (hl:l.length<4611686018427387904) (q0:D) (cq0:Clean q0) (hp:∀ y∈l,R.v f [yaY y,.vptr q0 0] (.bool (p y))):AnsF R c50 [.sl 15 false (l.map yaY),.fn f [] [.vptr q0 0]] (jI (idxI p l)):=by
 obtain ⟨xs,hxs⟩:∃ xs,xs=l.map yaY:=⟨_,rfl⟩
 obtain ⟨r,hr⟩:∃ r,r=idxI p l:=⟨_,rfl⟩
 rw [←hxs,←hr]
 refine y2Y ⟨rfl,by decide⟩ fun O hO V hV=>?_
 subst hV
 have hlen:O .len xs=l.length:=by rw [o_len hO,hxs];simp
 conv=>cbv
 refine y4Y (fun n d=>∃ (i:Int) (k:Nat),d=⟨[(0,.sl 15 false xs),(1,.fn f [] [.vptr q0 0]),(7,jI (O .len xs)),(8,jI i)],[],false⟩/\i=k/\k<=l.length/\n=l.length-k/\∀ j y,j<k->l[j]?=some y->p y=false) ⟨_,_,⟨_,0,rfl,rfl,by omega,rfl,by simp⟩,⟨⟨rfl,rfl,rfl,rfl,trivial⟩,trivial,rfl⟩⟩ ?_
 rintro J up n d ⟨i,k,rfl,hi,hk,rfl,hno⟩
 conv=>cbv
 rintro (_|_) h1
 ·replace h1:=f_lss hO h1
  rw [hlen] at h1
  conv=>cbv
  rw [hr,y2xY fun y hy=>by
   obtain ⟨j,hj⟩:=List.mem_iff_getElem?.1 hy
   exact hno j y (by have:=(List.getElem?_eq_some_iff.1 hj).1;omega) hj]
 ·replace h1:=t_lss hO h1
  rw [hlen] at h1
  obtain ⟨y,hy⟩:∃ y,l[k]?=some y:=⟨_,List.getElem?_eq_getElem (by omega)⟩
  have hc:=hp y (List.mem_of_getElem? hy)
  obtain ⟨q,hq⟩:∃ q,q=p y:=⟨_,rfl⟩
  rw [←hq] at hc
  have hat:atX xs i (yaY y):=y6Y hy hxs hi
  have hstep:q=false->∀ j z,j<k+1->l[j]?=some z->p z=false:=fun h=>y1hY hno hy (hq.symm.trans h)
  have hhit:q=true->r=k:=fun h=>by rw [hr,y2yY hy (hq.symm.trans h) hno]
  clear hq hy
  obtain ⟨ynm,ypo,yge,⟨yot,yoz,yok⟩,ypr,yc0,yc1,yos,ytr,yid,yph,ybo,yma⟩:=y
  simp only [yaY,y1cY] at hat hc
  obtain ⟨xyos,hxyos⟩:∃ xs,xs=yos.map offD:=⟨_,rfl⟩
  have cxyos:CleanL xyos:=by rw [hxyos];exact y19Y _
  simp only [←hxyos] at hat hc
  conv=>cbv
  refine ⟨_,hat,?_⟩
  conv=>cbv
  repeat' (refine And.intro (by first|assumption|exact ⟨rfl⟩|exact ⟨rfl,rfl⟩) ?_)
  refine ⟨_,hc,?_⟩
  cases q with
  | false =>
    conv=>cbv
    refine ⟨_,_,up _ _ ⟨_,k+1,rfl,?_,by omega,rfl,hstep rfl⟩,⟨⟨rfl,rfl,rfl,rfl,trivial⟩,trivial,rfl⟩,by omega⟩
    rw [y0Y hO (by omega) (by omega)];omega
  | true =>
    conv=>cbv
    rw [hhit rfl,hi]
theorem yllY (R:Ans) (f:Nat) (p:OfgV->Bool) (l:List OfgV) (q0:D) (cq0:Clean q0) (hI:R.v 262 [.sl 4 false (l.map ofgD),.fn f [] [.vptr q0 0]] (jI (idxI p l))):AnsF R c242 [.sl 4 false (l.map ofgD),.fn f [] [.vptr q0 0]] (.bool (l.any p)):=by
 obtain ⟨xs,hxs⟩:∃ xs,xs=l.map ofgD:=⟨_,rfl⟩
 have hcx:CleanL xs:=by rw [hxs];exact y1mY _
 obtain ⟨r,hr⟩:∃ r,r=l.any p:=⟨_,rfl⟩
 have hn:=y3bY p l
 obtain ⟨n,hn'⟩:∃ n,n=idxI p l:=⟨_,rfl⟩
 rw [←hn'] at hI hn
 rw [←hxs] at hI ⊢
 rw [←hr] at hn ⊢
 refine y2Y ⟨rfl,by decide⟩ fun O hO V hV=>?_
 subst hV
 conv=>cbv
 repeat' (refine And.intro (by first|assumption|exact ⟨rfl⟩|exact ⟨rfl,rfl⟩) ?_)
 refine ⟨_,hI,?_⟩
 conv=>cbv
 rintro (_|_) h<;>replace h:=ci hO h<;>dsimp only [CmpI] at h<;>(conv=>cbv)
 all_goals (cases r<;>first|rfl|(simp at hn;omega))
theorem ylmY (R:Ans) (f:Nat) (p:TypeV->Bool) (l:List TypeV) (q0:D) (cq0:Clean q0) (hI:R.v 200 [.sl 7 false (l.map typeD),.fn f [] [.vptr q0 0]] (jI (idxI p l))):AnsF R c158 [.sl 7 false (l.map typeD),.fn f [] [.vptr q0 0]] (.bool (l.any p)):=by
 obtain ⟨xs,hxs⟩:∃ xs,xs=l.map typeD:=⟨_,rfl⟩
 have hcx:CleanL xs:=by rw [hxs];exact y29Y _
 obtain ⟨r,hr⟩:∃ r,r=l.any p:=⟨_,rfl⟩
 have hn:=y3bY p l
 obtain ⟨n,hn'⟩:∃ n,n=idxI p l:=⟨_,rfl⟩
 rw [←hn'] at hI hn
 rw [←hxs] at hI ⊢
 rw [←hr] at hn ⊢
 refine y2Y ⟨rfl,by decide⟩ fun O hO V hV=>?_
 subst hV
 conv=>cbv
 repeat' (refine And.intro (by first|assumption|exact ⟨rfl⟩|exact ⟨rfl,rfl⟩) ?_)
 refine ⟨_,hI,?_⟩
 conv=>cbv
 rintro (_|_) h<;>replace h:=ci hO h<;>dsimp only [CmpI] at h<;>(conv=>cbv)
 all_goals (cases r<;>first|rfl|(simp at hn;omega))
theorem ylnY (R:Ans) (f:Nat) (p:OffV->Bool) (l:List OffV) (q0:D) (cq0:Clean q0) (hI:R.v 246 [.sl 3 false (l.map offD),.fn f [] [.vptr q0 0]] (jI (idxI p l))):AnsF R c205 [.sl 3 false (l.map offD),.fn f [] [.vptr q0 0]] (.bool (l.any p)):=by
 obtain ⟨xs,hxs⟩:∃ xs,xs=l.map offD:=⟨_,rfl⟩
 have hcx:CleanL xs:=by rw [hxs];exact y19Y _
 obtain ⟨r,hr⟩:∃ r,r=l.any p:=⟨_,rfl⟩
 have hn:=y3bY p l
 obtain ⟨n,hn'⟩:∃ n,n=idxI p l:=⟨_,rfl⟩
 rw [←hn'] at hI hn
 rw [←hxs] at hI ⊢
 rw [←hr] at hn ⊢
 refine y2Y ⟨rfl,by decide⟩ fun O hO V hV=>?_
 subst hV
 conv=>cbv
 repeat' (refine And.intro (by first|assumption|exact ⟨rfl⟩|exact ⟨rfl,rfl⟩) ?_)
 refine ⟨_,hI,?_⟩
 conv=>cbv
 rintro (_|_) h<;>replace h:=ci hO h<;>dsimp only [CmpI] at h<;>(conv=>cbv)
 all_goals (cases r<;>first|rfl|(simp at hn;omega))
theorem ye3Y (R:Ans) (f:Nat) (p:PoolV->Bool) (l:List PoolV) (q0:D) (cq0:Clean q0) (hI:R.v 105 [.sl 10 false (l.map poolD),.fn f [] [.vptr q0 0]] (jI (idxI p l))):AnsF R c46 [.sl 10 false (l.map poolD),.fn f [] [.vptr q0 0]] (.bool (l.any p)):=by
 obtain ⟨xs,hxs⟩:∃ xs,xs=l.map poolD:=⟨_,rfl⟩
 have hcx:CleanL xs:=by rw [hxs];exact y8vY _
 obtain ⟨r,hr⟩:∃ r,r=l.any p:=⟨_,rfl⟩
 have hn:=y3bY p l
 obtain ⟨n,hn'⟩:∃ n,n=idxI p l:=⟨_,rfl⟩
 rw [←hn'] at hI hn
 rw [←hxs] at hI ⊢
 rw [←hr] at hn ⊢
 refine y2Y ⟨rfl,by decide⟩ fun O hO V hV=>?_
 subst hV
 conv=>cbv
 repeat' (refine And.intro (by first|assumption|exact ⟨rfl⟩|exact ⟨rfl,rfl⟩) ?_)
 refine ⟨_,hI,?_⟩
 conv=>cbv
 rintro (_|_) h<;>replace h:=ci hO h<;>dsimp only [CmpI] at h<;>(conv=>cbv)
 all_goals (cases r<;>first|rfl|(simp at hn;omega))
theorem yloY (R:Ans) (f:Nat) (p:ClaimV->Bool) (l:List ClaimV) (q0:D) (cq0:Clean q0) (hI:R.v 50 [.sl 15 false (l.map yaY),.fn f [] [.vptr q0 0]] (jI (idxI p l))):AnsF R c169 [.sl 15 false (l.map yaY),.fn f [] [.vptr q0 0]] (.bool (l.any p)):=by
 obtain ⟨xs,hxs⟩:∃ xs,xs=l.map yaY:=⟨_,rfl⟩
 have hcx:CleanL xs:=by rw [hxs];exact y6sY _
 obtain ⟨r,hr⟩:∃ r,r=l.any p:=⟨_,rfl⟩
 have hn:=y3bY p l
 obtain ⟨n,hn'⟩:∃ n,n=idxI p l:=⟨_,rfl⟩
 rw [←hn'] at hI hn
 rw [←hxs] at hI ⊢
 rw [←hr] at hn ⊢
 refine y2Y ⟨rfl,by decide⟩ fun O hO V hV=>?_
 subst hV
 conv=>cbv
 repeat' (refine And.intro (by first|assumption|exact ⟨rfl⟩|exact ⟨rfl,rfl⟩) ?_)
 refine ⟨_,hI,?_⟩
 conv=>cbv
 rintro (_|_) h<;>replace h:=ci hO h<;>dsimp only [CmpI] at h<;>(conv=>cbv)
 all_goals (cases r<;>first|rfl|(simp at hn;omega))
end Go.Proofs.AM
namespace Go.Proofs.AM
open Go Go.Lib
section
variable {α:Type} (κ:α->Str) (v:α->D)
end
theorem ylpY {α:Type} {p:α->Bool} {l:List α}:(l.find? p).isSome=l.any p:=by
 rw [Bool.eq_iff_iff,List.find?_isSome,List.any_eq_true]
theorem y8yY {α:Type} {p:α->Bool} {l:List α} {k:Nat} {x:α} (hx:l[k]?=some x) (hp:p x=true) (h0:∀ (j:Nat) z,j<k->l[j]?=some z->p z=false):l.find? p=some x:=by
 obtain ⟨hk,rfl⟩:=List.getElem?_eq_some_iff.1 hx
 rw [List.find?_eq_some_iff_getElem]
 exact ⟨hp,k,hk,rfl,fun j hj=>by have:=h0 j _ hj (List.getElem?_eq_getElem (by omega));simp [this]⟩
theorem y8zY {α:Type} {p:α->Bool} {l:List α} (h0:∀ (j:Nat) z,j<l.length->l[j]?=some z->p z=false):l.find? p=none:=by
 rw [List.find?_eq_none]
 intro x hx
 obtain ⟨j,hj⟩:=List.mem_iff_getElem?.1 hx
 rw [h0 j x (List.getElem?_eq_some_iff.1 hj).1 hj];simp
theorem ylqY {α:Type} {p:α->Bool} {l:List α} (h0:∀ (j:Nat) z,j<l.length->l[j]?=some z->p z=true):l.all p=true:=by
 rw [List.all_eq_true]
 intro x hx
 obtain ⟨j,hj⟩:=List.mem_iff_getElem?.1 hx
 exact h0 j x (List.getElem?_eq_some_iff.1 hj).1 hj
theorem ylrY {α:Type} {p:α->Bool} {l:List α} {k:Nat} {x:α} (hx:l[k]?=some x) (hp:p x=false):l.all p=false:=by
 rw [List.all_eq_false]
 exact ⟨x,List.mem_of_getElem? hx,by simp [hp]⟩
theorem ylsY {α:Type} {p:α->Bool} {l:List α} {k:Nat} {y:α} (h:∀ (j:Nat) z,j<k->l[j]?=some z->p z=true) (hy:l[k]?=some y) (hp:p y=true):∀ (j:Nat) z,j<k+1->l[j]?=some z->p z=true:=fun j z hj hz=>by
 rcases Nat.lt_succ_iff_lt_or_eq.1 hj with h1|rfl
 ·exact h j z h1 hz
 ·rw [hy] at hz;simp only [Option.some.injEq] at hz;subst hz;exact hp
section
variable {K α:Type} [DecidableEq K] (kt:Bool × List (Nat × EqT)) (kd:K->D) (vd:α->D)
def getA (k:K) (l:List (K × α)):Option α:=(l.find? fun p=>decide (p.1=k)).map (·.2)
def putA (k:K) (v:α):List (K × α)->List (K × α)
 | []=>[(k,v)]
 | p::r=>if p.1=k then (k,v)::r else p::putA k v r
def entA {K α:Type} (kd:K->D) (vd:α->D) (p:K × α):D:=.tup [kd p.1,vd p.2]
theorem y4vY (he:∀ a b,keyEq kt (kd a) (kd b)=some (decide (a=b))) (k:K):∀ l:List (K × α),lookD kt (kd k) (l.map (entA kd vd))=some ((getA k l).map vd)
 | []=>rfl
 | p::r=>by
   have ih:=y4vY he k r
   unfold getA at ih ⊢
   simp only [List.map_cons,entA,lookD,he,Option.bind_some]
   by_cases h:p.1=k
   ·subst h
    simp
   ·rw [List.find?_cons_of_neg (by simpa using h)]
    have h2:¬k=p.1:=fun e=>h e.symm
    simp only [h2,decide_false,Bool.false_eq_true,if_false]
    exact ih
theorem y4wY (he:∀ a b,keyEq kt (kd a) (kd b)=some (decide (a=b))) (k:K) (u:α):∀ l:List (K × α),mputD kt (kd k) (vd u) (l.map (entA kd vd))=some ((putA k u l).map (entA kd vd))
 | []=>rfl
 | p::r=>by
   have ih:=y4wY he k u r
   simp only [List.map_cons,entA,mputD,he,Option.bind_some,putA]
   by_cases h:p.1=k
   ·subst h
    simp [entA]
   ·have h2:¬k=p.1:=fun e=>h e.symm
    simp only [h2,h,decide_false,Bool.false_eq_true,if_false,List.map_cons]
    change Option.map _ (mputD kt (kd k) (vd u) (r.map (entA kd vd)))=_
    rw [ih]
    rfl
omit [DecidableEq K] in
theorem y6uY (hk:∀ k,Clean (kd k)) (hv:∀ v,Clean (vd v)) (l:List (K × α)):CleanL (l.map (entA kd vd)):=y7Y (f:=entA kd vd) (fun p=>by
 obtain ⟨a1,a2⟩:=hk p.1
 obtain ⟨b1,b2⟩:=hv p.2
 exact ⟨by simp [entA,closed,closedL,a1,b1],by simp [entA,strip,stripL,a2,b2]⟩) rfl
theorem y6vY (k k':K) (v:α):∀ l:List (K × α),getA k' (putA k v l)=if k'=k then some v else getA k' l
 | []=>by
   unfold getA putA
   by_cases h:k'=k
   ·subst h;simp
   ·have h2:¬k=k':=fun e=>h e.symm
    simp [h,h2]
 | p::r=>by
   have ih:=y6vY k k' v r
   unfold getA at ih ⊢
   simp only [putA]
   by_cases h:p.1=k
   ·rw [if_pos h]
    by_cases h3:k'=k
    ·subst h3;simp
    ·have h2:¬k=k':=fun e=>h3 e.symm
     simp [h,h3,h2]
   ·rw [if_neg h]
    by_cases h3:p.1=k'
    ·subst h3
     simp [h]
    ·simp only [List.find?_cons,h3,decide_false]
     exact ih
theorem yltY {k:K} {l:List (K × α)} (h:∀ p∈l,p.1≠k):getA k l=none:=by
 unfold getA
 rw [List.find?_eq_none.2 fun p hp=>by simpa using h p hp]
 rfl
def putL' (m:List (K × α)) (L:List (K × α)):List (K × α):=L.foldl (fun m p=>putA p.1 p.2 m) m
theorem ye4Y (k:K):∀ (L m:List (K × α)),(L.Pairwise fun p q=>p.1≠q.1)->getA k (putL' m L)=match getA k L with|some v=>some v|none=>getA k m
 | [],m,_=>by simp [putL',getA]
 | p::r,m,h=>by
   have h':=List.pairwise_cons.1 h
   have ih:=ye4Y k r (putA p.1 p.2 m) h'.2
   show getA k (putL' (putA p.1 p.2 m) r)=_
   rw [ih,y6vY]
   by_cases hk:k=p.1
   ·subst hk
    rw [yltY (l:=r) fun q hq e=>h'.1 q hq e.symm]
    simp [getA]
   ·have:getA k (p::r)=getA k r:=by
     unfold getA
     rw [List.find?_cons_of_neg (by simpa using fun e:p.1=k=>hk e.symm)]
    rw [this,if_neg hk]
end
theorem ye5Y {α:Type} {R:α->α->Prop} {l:List α} (h:∀ i x,l[i]?=some x->∀ y∈l.take i,R y x):l.Pairwise R:=by
 rw [List.pairwise_iff_getElem]
 intro i j hi hj hij
 exact h j _ (List.getElem?_eq_getElem hj) _ (mem_take.2 ⟨i,hij,List.getElem?_eq_getElem hi⟩)
def kO:Bool × List (Nat × EqT):=(true,[(0,.str),(1,.str),(2,.str)])
theorem ye6Y (a b:OffV):keyEq kO (offD a) (offD b)=some (decide (a=b)):=by
 unfold keyEq
 obtain ⟨a1,a2,a3⟩:=a
 obtain ⟨b1,b2,b3⟩:=b
 simp [kO,offD,y25Y,D.cells,yjY,y8uY]
def entC (p:TypeV × OfgV):List D:=typeC p.1++ofgC p.2
def entD (p:TypeV × OfgV):D:=.agg (entC p)
def allL (l:List TypeV):List (OffV × (TypeV × OfgV)):=l.flatMap fun t=>t.offs.map fun x=>(⟨t.name,x.z,x.k⟩,(t,x))
noncomputable def allM (l:List TypeV):List (OffV × (TypeV × OfgV)):=if catE l=0 then putL' [] (allL l) else []
theorem ye7Y {t:TypeV} (h:typE t=0):nameB t.name=true/\amtsE t.c0 t.c1=0/\amtsE t.v0 t.v1=0/\fitsB t.v0 t.v1 t.c0 t.c1=true/\y1wY t.labs=0/\ofgsE t.offs=0:=by
 unfold typE at h
 have h2:=y4rY h
 simp only [List.mem_cons,List.not_mem_nil,or_false] at h2
 have a:=h2 _ (.inl rfl)
 have b:=h2 _ (.inr (.inr (.inr (.inl rfl))))
 refine ⟨?_,h2 _ (.inr (.inl rfl)),h2 _ (.inr (.inr (.inl rfl))),?_,h2 _ (.inr (.inr (.inr (.inr (.inl rfl))))),h2 _ (.inr (.inr (.inr (.inr (.inr rfl)))))⟩
 ·cases hn:nameB t.name with
  | true=>rfl
  | false=>rw [hn] at a;simp at a
 ·cases hn:fitsB t.v0 t.v1 t.c0 t.c1 with
  | true=>rfl
  | false=>rw [hn] at b;simp at b
theorem yluY {l:List OfgV} (h:ofgsE l=0):l.length<=6/\(∀ x∈l,nameB x.z=true/\nameB x.k=true/\amtE x.p=0)/\l.Pairwise fun a b=>¬(a.z=b.z/\a.k=b.k):=by
 unfold ofgsE at h
 rw [ydvY,scan_up] at h
 have key:∀ i x,l[i]?=some x->(nameB x.z=true/\nameB x.k=true/\amtE x.p=0)/\(l.take i).any (fun y=>decide (y.z=x.z)&&decide (y.k=x.k))=false:=fun i x hx=>by
  have h2:=h.2 i x hx
  unfold ofgE at h2
  cases h3:nameB x.z<;>cases h4:nameB x.k<;>simp only [h3,h4,Bool.and_true,Bool.and_false,Bool.false_eq_true,if_false,if_true] at h2<;>try omega
  by_cases h5:amtE x.p=0
  ·rw [if_pos h5] at h2
   cases h6:(l.take i).any (fun y=>decide (y.z=x.z)&&decide (y.k=x.k)) with
   | false=>exact ⟨⟨rfl,rfl,h5⟩,rfl⟩
   | true=>rw [h6] at h2;simp at h2
  ·rw [if_neg h5] at h2;exact absurd h2 h5
 refine ⟨h.1,fun x hx=>?_,ye5Y fun i x hx y hy e=>?_⟩
 ·obtain ⟨i,hi⟩:=List.mem_iff_getElem?.1 hx
  exact (key i x hi).1
 ·have:=List.any_eq_false.1 (key i x hx).2 y hy
  simp [e.1,e.2] at this
theorem ye8Y {l:List TypeV} (h:catE l=0):l.length<=12/\(∀ t∈l,typE t=0)/\l.Pairwise fun a b=>a.name≠b.name:=by
 unfold catE at h
 rw [ydvY,scan_up] at h
 have key:∀ i x,l[i]?=some x->typE x=0/\(l.take i).any (fun y=>decide (y.name=x.name))=false:=fun i x hx=>by
  have h2:=h.2 i x hx
  unfold ctypE at h2
  by_cases h5:typE x=0
  ·rw [if_pos h5] at h2
   cases h6:(l.take i).any (fun y=>decide (y.name=x.name)) with
   | false=>exact ⟨h5,rfl⟩
   | true=>rw [h6] at h2;simp at h2
  ·rw [if_neg h5] at h2;exact absurd h2 h5
 refine ⟨h.1,fun x hx=>?_,ye5Y fun i x hx y hy e=>?_⟩
 ·obtain ⟨i,hi⟩:=List.mem_iff_getElem?.1 hx
  exact (key i x hi).1
 ·have:=List.any_eq_false.1 (key i x hx).2 y hy
  simp [e] at this
theorem ylvY {l:List TypeV} (h:catE l=0):(allL l).Pairwise fun p q=>p.1≠q.1:=by
 obtain ⟨_,h2,h3⟩:=ye8Y h
 unfold allL
 rw [List.pairwise_flatMap]
 refine ⟨fun t ht=>?_,h3.imp fun hab x hx y hy e=>?_⟩
 ·rw [List.pairwise_map]
  refine (yluY (ye7Y (h2 t ht)).2.2.2.2.2).2.2.imp fun hab e=>hab ?_
  simp only [OffV.mk.injEq,true_and] at e
  exact e
 ·obtain ⟨a,_,rfl⟩:=List.mem_map.1 hx
  obtain ⟨b,_,rfl⟩:=List.mem_map.1 hy
  simp only [OffV.mk.injEq] at e
  exact hab e.1
theorem ylwY (l:List TypeV) (o:OffV):getA o (allL l)=findT l o:=by
 unfold getA allL findT
 induction l with
 | nil=>rfl
 | cons t r ih =>
   rw [List.flatMap_cons,List.find?_append,List.findSome?_cons]
   have e:(t.offs.map fun x=>((⟨t.name,x.z,x.k⟩:OffV),(t,x))).find? (fun p=>decide (p.1=o))=(t.offs.find? fun x=>decide (t.name=o.t)&&(decide (x.z=o.z)&&decide (x.k=o.k))).map fun x=>((⟨t.name,x.z,x.k⟩:OffV),(t,x)):=by
    rw [List.find?_map]
    congr 2
    funext x
    obtain ⟨o1,o2,o3⟩:=o
    simp [OffV.mk.injEq]
   rw [e]
   cases h:t.offs.find? fun x=>decide (t.name=o.t)&&(decide (x.z=o.z)&&decide (x.k=o.k)) with
   | none=>simpa using ih
   | some x=>simp
theorem ylxY (l:List TypeV) (o:OffV):getA o (allM l)=findC l o:=by
 unfold allM findC
 split
 ·rename_i h
  rw [ye4Y _ _ _ (ylvY h),ylwY]
  cases findT l o<;>simp [getA]
 ·rfl
theorem y90Y {α:Type} {κ:α->Str} {g:α->List α->Int} (hg:∀ x ah,g x ah=0->rizE κ x ah=0) {l:List α} (h:scanE (upE g l) l.length=0):l.Pairwise fun a b=>κ a<κ b:=by
 have hadj:∀ (j:Nat) x y,l[j]?=some x->l[j+1]?=some y->κ x<κ y:=fun j x y hx hy=>by
  have h2:=hg _ _ (scan_up.1 h (j+1) y hy)
  unfold rizE at h2
  rw [y2zY (by omega) (show l[j+1-1]?=some x by simpa using hx)] at h2
  simp only at h2
  refine Classical.byContradiction fun hn=>?_
  rw [decide_eq_false hn] at h2
  simp at h2
 have hlt:∀ (d i:Nat) x y,l[i]?=some x->l[i+d+1]?=some y->κ x<κ y:=by
  intro d
  induction d with
  | zero=>exact fun i x y hx hy=>hadj i x y hx (by simpa using hy)
  | succ d ih =>
    intro i x y hx hy
    have hlen:=(List.getElem?_eq_some_iff.1 hy).1
    obtain ⟨z,hz⟩:∃ z,l[i+d+1]?=some z:=⟨_,List.getElem?_eq_getElem (by omega)⟩
    exact List.lt_trans (ih i x z hx hz) (hadj (i+d+1) z y hz (by simpa [Nat.add_assoc] using hy))
 rw [List.pairwise_iff_getElem]
 intro i j hi hj hij
 obtain ⟨d,rfl⟩:∃ d,j=i+d+1:=⟨j-i-1,by omega⟩
 exact hlt d i _ _ (List.getElem?_eq_getElem hi) (List.getElem?_eq_getElem hj)
theorem ye9Y {α:Type} {κ:α->Str} {l:List α} (h:l.Pairwise fun a b=>κ a<κ b):(l.map κ).Nodup:=by
 unfold List.Nodup
 rw [List.pairwise_map]
 exact h.imp fun hab e=>by rw [e] at hab;exact List.lt_irrefl _ hab
theorem ylyY {α:Type} {κ:α->Str} {l:List α} (h:(l.map κ).Nodup) {x y:α} (hx:x∈l) (hy:y∈l) (e:κ x=κ y):x=y:=by
 induction l with
 | nil=>simp at hx
 | cons z l ih =>
   simp only [List.map_cons,List.nodup_cons] at h
   rcases List.mem_cons.1 hx with h1|h1<;>rcases List.mem_cons.1 hy with h2|h2
   ·rw [h1,h2]
   ·exact absurd (List.mem_map.2 ⟨y,h2,by rw [←e,h1]⟩) h.1
   ·exact absurd (List.mem_map.2 ⟨x,h1,by rw [e,h2]⟩) h.1
   ·exact ih h.2 h1 h2
theorem y4xY {b:Bool} {e:Int} (he:e≠0):wantI b e=0↔b=true:=by
 cases b<;>simp [wantI,he]
structure OkSnap (s:SnapV):Prop where
 nums:numsB s=true
 cat:catE s.types=0
 sizes:y2rY s=true
 pool:∀ p∈s.pools,poolE p=0
 poolO:s.pools.Pairwise fun a b=>a.name<b.name
 claim:∀ c∈s.claims,y16Y c=0/\yzY s c.pool=true/\isO s.types c.off=true/\ypY s.types c.opts=true/\c.c0=(hasO s.types c.off).1/\c.c1=(hasO s.types c.off).2
 claimO:s.claims.Pairwise fun a b=>a.name<b.name
 pod:∀ p∈s.pods,podE p=0/\(p.on=[]∨y14Y s p.on=true)/\p.since<=s.now
 podO:s.pods.Pairwise fun a b=>a.name<b.name
 cmd:∀ c∈s.cmds,cmdE c=0
theorem y6wY {s:SnapV} (h:snapE s=0):OkSnap s:=by
 unfold snapE at h
 have h2:=y4rY h
 simp only [List.mem_cons,List.not_mem_nil,or_false] at h2
 have w1:=h2 _ (.inl rfl)
 have w2:=h2 _ (.inr (.inl rfl))
 have w3:=h2 _ (.inr (.inr (.inl rfl)))
 have w4:=h2 _ (.inr (.inr (.inr (.inl rfl))))
 have w5:=h2 _ (.inr (.inr (.inr (.inr (.inl rfl)))))
 have w6:=h2 _ (.inr (.inr (.inr (.inr (.inr (.inl rfl))))))
 have w7:=h2 _ (.inr (.inr (.inr (.inr (.inr (.inr (.inl rfl)))))))
 clear h h2
 unfold y28Y at w4
 unfold y1fY at w5
 unfold podsE at w6
 unfold cmdsE at w7
 have gp:∀ x ah,y30Y x ah=0->poolE x=0/\rizE (·.name) x ah=0:=fun x ah h=>by
  unfold y30Y at h
  split at h
  ·exact ⟨‹_›,h⟩
  ·exact absurd h ‹_›
 have gc:∀ x ah,y2qY s x ah=0->(y16Y x=0/\yzY s x.pool=true/\isO s.types x.off=true/\ypY s.types x.opts=true/\x.c0=(hasO s.types x.off).1/\x.c1=(hasO s.types x.off).2)/\rizE (·.name) x ah=0:=fun x ah h=>by
  unfold y2qY at h
  split at h
  ·have h2:=y4rY h
   simp only [List.mem_cons,List.not_mem_nil,or_false] at h2
   have v2:=(y4xY (by decide)).1 (h2 _ (.inr (.inl rfl)))
   have v3:=(y4xY (by decide)).1 (h2 _ (.inr (.inr rfl)))
   simp only [Bool.and_eq_true,decide_eq_true_eq] at v2 v3
   exact ⟨⟨‹_›,v2.1,v2.2.1,v2.2.2,v3.1,v3.2⟩,h2 _ (.inl rfl)⟩
  ·exact absurd h ‹_›
 have gd:∀ x ah,vpodE s x ah=0->(podE x=0/\(x.on=[]∨y14Y s x.on=true)/\x.since<=s.now)/\rizE (·.name) x ah=0:=fun x ah h=>by
  unfold vpodE at h
  split at h
  ·have h2:=y4rY h
   simp only [List.mem_cons,List.not_mem_nil,or_false] at h2
   have v2:=(y4xY (by decide)).1 (h2 _ (.inr (.inl rfl)))
   have v3:=(y4xY (by decide)).1 (h2 _ (.inr (.inr rfl)))
   simp only [Bool.or_eq_true,decide_eq_true_eq] at v2 v3
   exact ⟨⟨‹_›,v2,v3⟩,h2 _ (.inl rfl)⟩
  ·exact absurd h ‹_›
 have ga:∀ {α:Type} {g:α->List α->Int} {l:List α} {P:α->Prop},(∀ x ah,g x ah=0->P x)->scanE (upE g l) l.length=0->∀ x∈l,P x:=fun hg hs x hx=>by
  obtain ⟨i,hi⟩:=List.mem_iff_getElem?.1 hx
  exact hg _ _ (scan_up.1 hs i x hi)
 exact ⟨(y4xY (by decide)).1 w1,w2,(y4xY (by decide)).1 w3,ga (fun x ah h=>(gp x ah h).1) w4,y90Y (fun x ah h=>(gp x ah h).2) w4,ga (fun x ah h=>(gc x ah h).1) w5,y90Y (fun x ah h=>(gc x ah h).2) w5,ga (fun x ah h=>(gd x ah h).1) w6,y90Y (fun x ah h=>(gd x ah h).2) w6,fun c hc=>by
  have:=scan_at.1 w7 c hc
  unfold vcmdE at this
  split at this
  ·assumption
  ·exact absurd this ‹_›⟩
def goesB (more:List Str) (c:ClaimV):Bool:=c.marked||(decide (c.phase=4)||decide (c.name∈more))
def goM (s:SnapV) (more:List Str):List (Str × Int):=s.claims.foldl (fun m c=>if goesB more c then putA c.pool ((getA c.pool m).getD 0+1) m else m) []
def goN (s:SnapV) (more:List Str) (pool:Str):Int:=(s.claims.filter fun c=>decide (c.pool=pool)&&goesB more c).length
theorem y91Y (s:SnapV) (more:List Str) (pool:Str):(getA pool (goM s more)).getD 0=goN s more pool:=by
 have key:∀ (l:List ClaimV) (m:List (Str × Int)),(getA pool (l.foldl (fun m c=>if goesB more c then putA c.pool ((getA c.pool m).getD 0+1) m else m) m)).getD 0=(getA pool m).getD 0+((l.filter fun c=>decide (c.pool=pool)&&goesB more c).length:Nat):=by
  intro l
  induction l with
  | nil=>intro m;simp
  | cons c r ih =>
    intro m
    rw [List.foldl_cons,ih,List.filter_cons]
    cases hg:goesB more c with
    | false=>simp
    | true =>
      simp only [if_true,Bool.and_true,y6vY]
      by_cases hp:c.pool=pool
      ·subst hp
       simp
       omega
      ·have hp2:¬pool=c.pool:=fun e=>hp e.symm
       simp [hp,hp2]
 have:=key s.claims []
 unfold goM goN
 rw [this]
 simp [getA]
noncomputable def yiY (s:SnapV) (pool:Str):Int × Int:=if snapE s≠0 then (0,snapE s) else if yzY s pool then (goN s [] pool,0) else (0,5)
noncomputable def y31Y (s:SnapV) (x:Str) (ah:List Str):Int:=if y14Y s x then (if ah.any (fun y=>decide (x=y)) then 6 else 0) else 5
noncomputable def y1dY (s:SnapV) (l:List Str):Int:=scanE (upE (y31Y s) l) l.length
def y40Y (s:SnapV) (nodes:List Str) (p:Str):Bool:=s.claims.any fun c=>decide (c.pool=p)&&decide (c.name∈nodes)
def overB (s:SnapV) (nodes:List Str) (p:PoolV):Bool:=y40Y s nodes p.name&&decide (p.budget<goN s nodes p.name)
noncomputable def mayE (s:SnapV) (nodes:List Str):Bool × Int :=
 if snapE s≠0 then (false,snapE s) else if y1dY s nodes≠0 then (false,y1dY s nodes) else (!s.pools.any (overB s nodes),0)
def zeroC:ClaimV:=⟨[],[],0,⟨[],[],[]⟩,0,0,0,[],0,[],0,0,false⟩
def y4yY (s:SnapV) (n:Str):Option ClaimV:=s.claims.find? fun c=>decide (c.name=n)
theorem yeaY (s:SnapV) (n:Str):(y4yY s n).isSome=y14Y s n:=ylpY
theorem ylzY {s:SnapV} (ok:OkSnap s) {x y:ClaimV} (hx:x∈s.claims) (hy:y∈s.claims) (e:x.name=y.name):x=y:=ylyY (κ:=fun c:ClaimV=>c.name) (ye9Y ok.claimO) hx hy e
theorem ym0Y {s:SnapV} {n:Str} {c:ClaimV} (h:y4yY s n=some c):c∈s.claims/\c.name=n :=
 ⟨List.mem_of_find?_eq_some h,by simpa using List.find?_some h⟩
theorem ym1Y {s:SnapV} (ok:OkSnap s) {c:ClaimV} (h:c∈s.claims):y4yY s c.name=some c:=by
 cases hf:y4yY s c.name with
 | none=>have:=List.find?_eq_none.1 hf c h;simp at this
 | some y =>
   obtain ⟨h1,h2⟩:=ym0Y hf
   rw [ylzY ok h1 h h2]
structure DomV where
 k:Str
 v:Str
 n:Int
 deriving DecidableEq
def sumI (l:List Int):Int:=l.foldl (·+·) 0
theorem ym2Y (l:List Int):∀ a:Int,l.foldl (·+·) a=a+sumI l:=by
 unfold sumI
 induction l with
 | nil=>intro a;simp
 | cons x r ih=>intro a;rw [List.foldl_cons,ih,List.foldl_cons,ih (0+x)];omega
theorem y41Y (x:Int) (l:List Int):sumI (x::l)=x+sumI l:=by
 show (x::l).foldl (·+·) 0=_
 rw [List.foldl_cons,ym2Y];omega
theorem yebY (a b:List Int):sumI (a++b)=sumI a+sumI b:=by
 induction a with
 | nil=>simp [sumI]
 | cons x r ih=>rw [List.cons_append,y41Y,y41Y,ih];omega
theorem ym3Y {α:Type} {f:α->Option Str} {V:List Str} (hn:V.Nodup) (l:List α) (h:∀ x∈l,∀ v,f x=some v->v∈V):sumI (V.map fun v=>((l.filter fun x=>decide (f x=some v)).length:Int))=(l.filter fun x=>(f x).isSome).length:=by
 induction l with
 | nil =>
   simp only [List.filter_nil,List.length_nil]
   have:∀ V:List Str,sumI (V.map fun _=>((0:Nat):Int))=((0:Nat):Int):=fun V=>by
    induction V with
    | nil=>rfl
    | cons v V ih=>rw [List.map_cons,y41Y,ih];rfl
   exact this V
 | cons x r ih =>
   have ih:=ih fun y hy=>h y (by simp [hy])
   cases hf:f x with
   | none =>
     simp only [List.filter_cons,hf,reduceCtorEq,decide_false,Option.isSome_none,Bool.false_eq_true,if_false]
     exact ih
   | some w =>
     have hw:=h x (by simp) w hf
     simp only [List.filter_cons,hf,Option.isSome_some,if_true,List.length_cons]
     rw [show (((r.filter fun x=>(f x).isSome).length+1:Nat):Int)=1+(r.filter fun x=>(f x).isSome).length by omega,←ih]
     clear ih h
     have key:∀ V:List Str,V.Nodup->(sumI (V.map fun v=>(((if decide (some w=some v)=true then x::r.filter fun x=>decide (f x=some v) else r.filter fun x=>decide (f x=some v)).length:Nat):Int)))=(if w∈V then 1 else 0)+sumI (V.map fun v=>((r.filter fun x=>decide (f x=some v)).length:Int)):=by
      intro V
      induction V with
      | nil=>intro _;rfl
      | cons v V ih =>
        intro hn
        have hn':=List.nodup_cons.1 hn
        rw [List.map_cons,List.map_cons,y41Y,y41Y,ih hn'.2]
        by_cases e:w=v
        ·subst e
         rw [if_neg hn'.1]
         simp<;>omega
        ·have e2:¬(some w=some v):=fun h=>e (Option.some.inj h)
         by_cases hm:w∈V
         ·simp [e,hm]<;>omega
         ·simp [e,hm]<;>omega
     rw [key V hn,if_pos hw]
theorem ym4Y {α:Type} {f:α->α} {g g':α->List α->Int} (h:∀ x ah,g' (f x) (ah.map f)=g x ah) (l:List α):scanE (upE g' (l.map f)) (l.map f).length=scanE (upE g l) l.length:=by
 unfold scanE
 rw [List.length_map]
 congr 1
 apply List.map_congr_left
 intro i hi
 unfold upE
 rw [List.getElem?_map]
 cases l[i]? with
 | none=>rfl
 | some x =>
   show g' (f x) ((l.map f).take i)=g x (l.take i)
   rw [←List.map_take,h]
theorem ym5Y {α:Type} {f:α->α} {κ:α->Str} (h:∀ x,κ (f x)=κ x) (x:α) (ah:List α):rizE κ (f x) (ah.map f)=rizE κ x ah:=by
 unfold rizE
 rw [List.getLast?_map]
 cases ah.getLast? with
 | none=>rfl
 | some y=>simp only [Option.map_some,h]
def markC (nodes:List Str) (c:ClaimV):ClaimV:=if c.name∈nodes then { c with marked:=true } else c
def markS (nodes:List Str) (s:SnapV):SnapV:={ s with claims:=s.claims.map (markC nodes) }
theorem y92Y (nodes:List Str) (c:ClaimV):(markC nodes c).name=c.name:=by unfold markC;split<;>rfl
theorem y93Y (nodes:List Str) (c:ClaimV):(markC nodes c).pool=c.pool:=by unfold markC;split<;>rfl
theorem ym6Y (nodes:List Str) (s:SnapV) (n:Str):y14Y (markS nodes s) n=y14Y s n:=by
 unfold y14Y markS
 simp only [List.any_map]
 congr 1
 funext c
 simp only [Function.comp,y92Y]
theorem ym7Y (nodes:List Str) (s:SnapV):snapE (markS nodes s)=snapE s:=by
 have hc:y1fY (markS nodes s)=y1fY s:=by
  unfold y1fY
  refine ym4Y (f:=markC nodes) (fun c ah=>?_) s.claims
  unfold y2qY
  have h1:y16Y (markC nodes c)=y16Y c:=by unfold markC;split<;>rfl
  have h2:=ym5Y (f:=markC nodes) (κ:=fun c:ClaimV=>c.name) (y92Y nodes) c ah
  have h3:∀ n,yzY (markS nodes s) n=yzY s n:=fun n=>rfl
  have h4:(markC nodes c).off=c.off:=by unfold markC;split<;>rfl
  have h5:(markC nodes c).opts=c.opts:=by unfold markC;split<;>rfl
  have h6:(markC nodes c).c0=c.c0:=by unfold markC;split<;>rfl
  have h7:(markC nodes c).c1=c.c1:=by unfold markC;split<;>rfl
  rw [h1,h2,h3,h4,h5,h6,h7,y93Y]
  rfl
 have hp:podsE (markS nodes s)=podsE s:=by
  unfold podsE
  show scanE (upE (vpodE (markS nodes s)) s.pods) s.pods.length=_
  congr 2
  funext p ah
  unfold vpodE
  rw [ym6Y]
  rfl
 have hs:y2rY (markS nodes s)=y2rY s:=by
  unfold y2rY markS
  simp only [List.length_map]
 unfold snapE
 rw [hc,hp,hs]
 rfl
theorem ym8Y (nodes:List Str) (s:SnapV) (pool:Str):goN (markS nodes s) [] pool=goN s nodes pool:=by
 unfold goN markS
 simp only [List.filter_map,List.length_map]
 congr 3
 funext c
 simp only [Function.comp,y93Y]
 congr 1
 unfold goesB markC
 by_cases h:c.name∈nodes
 ·simp [h]
 ·simp [h]
theorem ym9Y {s:SnapV} {nodes:List Str} (h:mayE s nodes=(true,0)) {c:ClaimV} (hc:c∈(markS nodes s).claims) (hn:c.name∈nodes) {p:PoolV} (hp:p∈s.pools) (e:p.name=c.pool) :
 (yiY (markS nodes s) c.pool).2=0/\(yiY (markS nodes s) c.pool).1<=p.budget:=by
 unfold mayE at h
 have h0:snapE s=0:=by
  refine Classical.byContradiction fun hh=>?_
  rw [if_pos hh] at h
  simp at h
 rw [if_neg (by simpa using h0)] at h
 have h1:y1dY s nodes=0:=by
  refine Classical.byContradiction fun hh=>?_
  rw [if_pos hh] at h
  simp at h
 rw [if_neg (by simpa using h1)] at h
 simp only [Prod.mk.injEq,and_true,Bool.not_eq_true'] at h
 have h2:=List.any_eq_false.1 h p hp
 obtain ⟨y,hy,rfl⟩:=List.mem_map.1 hc
 rw [y93Y] at e ⊢
 rw [y92Y] at hn
 have h3:y40Y s nodes p.name=true:=by
  unfold y40Y
  rw [List.any_eq_true]
  exact ⟨y,hy,by simp [e,hn]⟩
 have hpo:yzY (markS nodes s) y.pool=true:=by
  unfold yzY
  rw [List.any_eq_true]
  exact ⟨p,hp,by simpa using e⟩
 unfold yiY
 rw [ym7Y,if_neg (by simpa using h0),if_pos hpo,ym8Y]
 refine ⟨rfl,?_⟩
 unfold overB at h2
 rw [h3,e] at h2
 simp at h2
 exact h2
theorem ymaY {α:Type} {p q:α->Bool} (h:∀ x,p x=true->q x=true) (l:List α):(l.filter p).length<=(l.filter q).length:=by
 rw [←List.countP_eq_length_filter,←List.countP_eq_length_filter]
 exact List.countP_mono_left fun x _ hx=>h x hx
theorem ymbY {s:SnapV} {nodes:List Str} (h:(mayE s nodes).2=0) (k:Nat):(mayE s (less k nodes)).2=0/\((mayE s nodes).1=true->(mayE s (less k nodes)).1=true):=by
 unfold mayE at h ⊢
 have h0:snapE s=0:=by
  refine Classical.byContradiction fun hh=>?_
  rw [if_pos hh] at h
  exact hh h
 rw [if_neg (by simpa using h0)] at h ⊢
 have h1:y1dY s nodes=0:=by
  refine Classical.byContradiction fun hh=>?_
  rw [if_pos hh] at h
  exact hh h
 have h2:y1dY s (less k nodes)=0:=ykaY (fun x a b hab hx=>by
  unfold y31Y at hx ⊢
  cases hc:y14Y s x with
  | false=>simp [hc] at hx
  | true =>
    simp only [hc,if_true] at hx ⊢
    cases ha:a.any fun y=>decide (x=y) with
    | true=>simp [ha] at hx
    | false=>rw [ykbY hab ha];rfl) k h1
 rw [if_neg (by simpa using h2),if_neg (by simpa using h0),if_neg (by simpa using h1)]
 refine ⟨rfl,?_⟩
 simp only [Bool.not_eq_true',List.any_eq_false]
 intro hh p hp ho
 refine hh p hp ?_
 unfold overB at ho ⊢
 simp only [Bool.and_eq_true,decide_eq_true_eq] at ho ⊢
 have hsub:∀ c:ClaimV,goesB (less k nodes) c=true->goesB nodes c=true:=fun c hc=>by
  unfold goesB at hc ⊢
  simp only [Bool.or_eq_true,decide_eq_true_eq] at hc ⊢
  rcases hc with hc|hc|hc
  ·exact .inl hc
  ·exact .inr (.inl hc)
  ·exact .inr (.inr (ydxY hc))
 constructor
 ·have h3:=ho.1
  unfold y40Y at h3 ⊢
  rw [List.any_eq_true] at h3 ⊢
  obtain ⟨c,hc,hb⟩:=h3
  simp only [Bool.and_eq_true,decide_eq_true_eq] at hb
  exact ⟨c,hc,by simp [hb.1,ydxY hb.2]⟩
 ·have:goN s (less k nodes) p.name<=goN s nodes p.name:=by
   unfold goN
   have:=ymaY (p:=fun c:ClaimV=>decide (c.pool=p.name)&&goesB (less k nodes) c) (q:=fun c=>decide (c.pool=p.name)&&goesB nodes c) (fun c hc=>by
    simp only [Bool.and_eq_true] at hc ⊢
    exact ⟨hc.1,hsub c hc.2⟩) s.claims
   omega
  omega
theorem ymcY {s:SnapV} (h:snapE s=0):sumI (s.pools.map fun p=>goN s [] p.name)=(s.claims.filter fun c=>c.marked||decide (c.phase=4)).length:=by
 have ok:=y6wY h
 have h1:=ym3Y (f:=fun c:ClaimV=>if c.marked||decide (c.phase=4) then some c.pool else none) (V:=s.pools.map (·.name)) (ye9Y ok.poolO) s.claims (fun c hc v hv=>by
  have h2:=(ok.claim c hc).2.1
  unfold yzY at h2
  rw [List.any_eq_true] at h2
  obtain ⟨p,hp,e⟩:=h2
  simp only [decide_eq_true_eq] at e
  split at hv
  ·simp only [Option.some.injEq] at hv
   exact List.mem_map.2 ⟨p,hp,by rw [e,hv]⟩
  ·simp at hv)
 rw [List.map_map] at h1
 have e1:(fun p:PoolV=>goN s [] p.name)=(fun v=>((s.claims.filter fun x=>decide ((if x.marked||decide (x.phase=4) then some x.pool else none)=some v)).length:Int)) ∘ fun p:PoolV=>p.name:=by
  funext p
  simp only [Function.comp]
  unfold goN
  congr 3
  funext c
  unfold goesB
  rw [show (c.marked||(decide (c.phase=4)||decide (c.name∈([]:List Str))))=(c.marked||decide (c.phase=4)) by simp]
  obtain ⟨b,hb⟩:∃ b,b=(c.marked||decide (c.phase=4)):=⟨_,rfl⟩
  rw [←hb]
  cases b<;>simp
 rw [e1,h1]
 congr 3
 funext c
 cases c.marked||decide (c.phase=4)<;>rfl
structure KeyV where
 k:Str
 s:SetV
 deriving DecidableEq
theorem ymdY {a b:Str} (h:a<b) (h2:b<a):False:=List.lt_irrefl a (List.lt_trans h h2)
section
variable {α:Type} {κ:α->Str}
end
theorem ymeY {l:List TypeV} {o:OffV} {t:TypeV} {x:OfgV} (h:findC l o=some (t,x)):catE l=0/\t∈l/\x∈t.offs/\t.name=o.t/\x.z=o.z/\x.k=o.k:=by
 unfold findC at h
 split at h
 ·rename_i h0
  unfold findT at h
  obtain ⟨u,hu,h2⟩:=List.exists_of_findSome?_eq_some h
  obtain ⟨y,hy,e⟩:=Option.map_eq_some_iff.1 h2
  simp only [Prod.mk.injEq] at e
  obtain ⟨rfl,rfl⟩:=e
  have h3:=List.find?_some hy
  simp only [Bool.and_eq_true,decide_eq_true_eq] at h3
  exact ⟨h0,hu,List.mem_of_find?_eq_some hy,h3.1,h3.2.1,h3.2.2⟩
 ·simp at h
theorem yecY {n:Int}:amtE n=0↔0<=n/\n<=1125899906842624:=by
 unfold amtE
 split
 ·simp;omega
 ·split
  ·simp;omega
  ·simp;omega
theorem amts_zero {a b:Int}:amtsE a b=0↔(0<=a/\a<=1125899906842624)/\0<=b/\b<=1125899906842624:=by
 unfold amtsE
 rw [←yecY,←yecY]
 constructor
 ·intro h
  split at h
  ·exact ⟨‹_›,h⟩
  ·exact absurd h ‹_›
 ·rintro ⟨h1,h2⟩
  rw [if_pos h1,h2]
theorem fits_iff {a0 a1 b0 b1:Int}:fitsB a0 a1 b0 b1=true↔amtsE a0 a1=0/\amtsE b0 b1=0/\a0<=b0/\a1<=b1:=by
 unfold fitsB
 simp [and_assoc]
end Go.Proofs.AM
