/- Part 23 of the lemmas: AKb, PXa, PZa, PZb, PZc, PZd, PZe, PZf, PXb, PZg, PZh. -/
import Derived.Test.YtnbdmjbpgaeacaaGreatDoorC14
import Derived.Test.YtnbdmjbpgaeacaaGreatDoorC15
import Derived.Test.YtnbdmjbpgaeacaaGreatDoorC13
import Derived.Test.YtnbdmjbpgaeacaaGreatDoorC07
import Derived.Test.YtnbdmjbpgaeacaaGreatDoorC16
import Derived.Test.YtnbdmjbpgaeacaaGreatDoorC06
set_option maxRecDepth 100000
set_option maxHeartbeats 8000000
set_option linter.all false
namespace Go.Proofs.AM
open Go Go.Lib Cd
theorem ymuY (R:Ans) (f:Nat) (p:OfgV->Bool) (l:List OfgV) (hl:l.length<4611686018427387904) (q0:D) (cq0:Clean q0) (hp:∀ y∈l,R.v f [ofgD y,.vptr q0 0] (.bool (p y))):AnsF R c262 [.sl 4 false (l.map ofgD),.fn f [] [.vptr q0 0]] (jI (idxI p l)):=by
 obtain ⟨xs,hxs⟩:∃ xs,xs=l.map ofgD:=⟨_,rfl⟩
 obtain ⟨r,hr⟩:∃ r,r=idxI p l:=⟨_,rfl⟩
 rw [←hxs,←hr]
 refine y2Y ⟨rfl,by decide⟩ fun O hO V hV=>?_
 subst hV
 have hlen:O .len xs=l.length:=by rw [o_len hO,hxs];simp
 conv=>cbv
 refine y4Y (fun n d=>∃ (i:Int) (k:Nat),d=⟨[(0,.sl 4 false xs),(1,.fn f [] [.vptr q0 0]),(7,jI (O .len xs)),(8,jI i)],[],false⟩/\i=k/\k<=l.length/\n=l.length-k/\∀ j y,j<k->l[j]?=some y->p y=false) ⟨_,_,⟨_,0,rfl,rfl,by omega,rfl,by simp⟩,⟨⟨rfl,rfl,rfl,rfl,trivial⟩,trivial,rfl⟩⟩ ?_
 rintro J up n d ⟨i,k,rfl,hi,hk,rfl,hno⟩
 conv=>cbv
 rintro (_|_) h1
 ·replace h1:=f_lss hO h1
  rw [hlen] at h1
  conv=>cbv
  rw [hr,y32Y fun y hy=>by
   obtain ⟨j,hj⟩:=List.mem_iff_getElem?.1 hy
   exact hno j y (by have:=(List.getElem?_eq_some_iff.1 hj).1;omega) hj]
 ·replace h1:=t_lss hO h1
  rw [hlen] at h1
  obtain ⟨y,hy⟩:∃ y,l[k]?=some y:=⟨_,List.getElem?_eq_getElem (by omega)⟩
  have hc:=hp y (List.mem_of_getElem? hy)
  obtain ⟨q,hq⟩:∃ q,q=p y:=⟨_,rfl⟩
  rw [←hq] at hc
  have hat:atX xs i (ofgD y):=y7Y hy hxs hi
  have hstep:q=false->∀ j z,j<k+1->l[j]?=some z->p z=false:=fun h=>y1mY hno hy (hq.symm.trans h)
  have hhit:q=true->r=k:=fun h=>by rw [hr,y33Y hy (hq.symm.trans h) hno]
  clear hq hy
  obtain ⟨yz,yk,yp,yo⟩:=y
  simp only [ofgD,ofgC] at hat hc
  conv=>cbv
  refine ⟨_,hat,?_⟩
  conv=>cbv
  repeat' (refine And.intro (by first|assumption|exact ⟨rfl⟩|exact ⟨rfl,rfl⟩) ?_)
  refine ⟨_,hc,?_⟩
  cases q with
  | false =>
    conv=>cbv
    refine ⟨_,_,up _ _ ⟨_,k+1,rfl,?_,by omega,rfl,hstep rfl⟩,⟨⟨rfl,rfl,rfl,rfl,trivial⟩,trivial,rfl⟩,by omega⟩
    rw [y0Y hO (by omega) (by omega)];omega
  | true =>
    conv=>cbv
    rw [hhit rfl,hi]
theorem ymvY (R:Ans) (f:Nat) (p:TypeV->Bool) (l:List TypeV) (hl:l.length<4611686018427387904) (q0:D) (cq0:Clean q0) (hp:∀ y∈l,R.v f [typeD y,.vptr q0 0] (.bool (p y))):AnsF R c200 [.sl 7 false (l.map typeD),.fn f [] [.vptr q0 0]] (jI (idxI p l)):=by
 obtain ⟨xs,hxs⟩:∃ xs,xs=l.map typeD:=⟨_,rfl⟩
 obtain ⟨r,hr⟩:∃ r,r=idxI p l:=⟨_,rfl⟩
 rw [←hxs,←hr]
 refine y2Y ⟨rfl,by decide⟩ fun O hO V hV=>?_
 subst hV
 have hlen:O .len xs=l.length:=by rw [o_len hO,hxs];simp
 conv=>cbv
 refine y4Y (fun n d=>∃ (i:Int) (k:Nat),d=⟨[(0,.sl 7 false xs),(1,.fn f [] [.vptr q0 0]),(7,jI (O .len xs)),(8,jI i)],[],false⟩/\i=k/\k<=l.length/\n=l.length-k/\∀ j y,j<k->l[j]?=some y->p y=false) ⟨_,_,⟨_,0,rfl,rfl,by omega,rfl,by simp⟩,⟨⟨rfl,rfl,rfl,rfl,trivial⟩,trivial,rfl⟩⟩ ?_
 rintro J up n d ⟨i,k,rfl,hi,hk,rfl,hno⟩
 conv=>cbv
 rintro (_|_) h1
 ·replace h1:=f_lss hO h1
  rw [hlen] at h1
  conv=>cbv
  rw [hr,y32Y fun y hy=>by
   obtain ⟨j,hj⟩:=List.mem_iff_getElem?.1 hy
   exact hno j y (by have:=(List.getElem?_eq_some_iff.1 hj).1;omega) hj]
 ·replace h1:=t_lss hO h1
  rw [hlen] at h1
  obtain ⟨y,hy⟩:∃ y,l[k]?=some y:=⟨_,List.getElem?_eq_getElem (by omega)⟩
  have hc:=hp y (List.mem_of_getElem? hy)
  obtain ⟨q,hq⟩:∃ q,q=p y:=⟨_,rfl⟩
  rw [←hq] at hc
  have hat:atX xs i (typeD y):=y7Y hy hxs hi
  have hstep:q=false->∀ j z,j<k+1->l[j]?=some z->p z=false:=fun h=>y1mY hno hy (hq.symm.trans h)
  have hhit:q=true->r=k:=fun h=>by rw [hr,y33Y hy (hq.symm.trans h) hno]
  clear hq hy
  obtain ⟨ynm,yc0,yc1,yv0,yv1,yls,yos⟩:=y
  simp only [typeD,typeC] at hat hc
  obtain ⟨xyls,hxyls⟩:∃ xs,xs=yls.map labD:=⟨_,rfl⟩
  have cxyls:CleanL xyls:=by rw [hxyls];exact yeY _
  simp only [←hxyls] at hat hc
  obtain ⟨xyos,hxyos⟩:∃ xs,xs=yos.map ofgD:=⟨_,rfl⟩
  have cxyos:CleanL xyos:=by rw [hxyos];exact y1kY _
  simp only [←hxyos] at hat hc
  conv=>cbv
  refine ⟨_,hat,?_⟩
  conv=>cbv
  repeat' (refine And.intro (by first|assumption|exact ⟨rfl⟩|exact ⟨rfl,rfl⟩) ?_)
  refine ⟨_,hc,?_⟩
  cases q with
  | false =>
    conv=>cbv
    refine ⟨_,_,up _ _ ⟨_,k+1,rfl,?_,by omega,rfl,hstep rfl⟩,⟨⟨rfl,rfl,rfl,rfl,trivial⟩,trivial,rfl⟩,by omega⟩
    rw [y0Y hO (by omega) (by omega)];omega
  | true =>
    conv=>cbv
    rw [hhit rfl,hi]
theorem ymwY (R:Ans) (f:Nat) (p:OffV->Bool) (l:List OffV) (hl:l.length<4611686018427387904) (q0:D) (cq0:Clean q0) (hp:∀ y∈l,R.v f [offD y,.vptr q0 0] (.bool (p y))):AnsF R c246 [.sl 3 false (l.map offD),.fn f [] [.vptr q0 0]] (jI (idxI p l)):=by
 obtain ⟨xs,hxs⟩:∃ xs,xs=l.map offD:=⟨_,rfl⟩
 obtain ⟨r,hr⟩:∃ r,r=idxI p l:=⟨_,rfl⟩
 rw [←hxs,←hr]
 refine y2Y ⟨rfl,by decide⟩ fun O hO V hV=>?_
 subst hV
 have hlen:O .len xs=l.length:=by rw [o_len hO,hxs];simp
 conv=>cbv
 refine y4Y (fun n d=>∃ (i:Int) (k:Nat),d=⟨[(0,.sl 3 false xs),(1,.fn f [] [.vptr q0 0]),(7,jI (O .len xs)),(8,jI i)],[],false⟩/\i=k/\k<=l.length/\n=l.length-k/\∀ j y,j<k->l[j]?=some y->p y=false) ⟨_,_,⟨_,0,rfl,rfl,by omega,rfl,by simp⟩,⟨⟨rfl,rfl,rfl,rfl,trivial⟩,trivial,rfl⟩⟩ ?_
 rintro J up n d ⟨i,k,rfl,hi,hk,rfl,hno⟩
 conv=>cbv
 rintro (_|_) h1
 ·replace h1:=f_lss hO h1
  rw [hlen] at h1
  conv=>cbv
  rw [hr,y32Y fun y hy=>by
   obtain ⟨j,hj⟩:=List.mem_iff_getElem?.1 hy
   exact hno j y (by have:=(List.getElem?_eq_some_iff.1 hj).1;omega) hj]
 ·replace h1:=t_lss hO h1
  rw [hlen] at h1
  obtain ⟨y,hy⟩:∃ y,l[k]?=some y:=⟨_,List.getElem?_eq_getElem (by omega)⟩
  have hc:=hp y (List.mem_of_getElem? hy)
  obtain ⟨q,hq⟩:∃ q,q=p y:=⟨_,rfl⟩
  rw [←hq] at hc
  have hat:atX xs i (offD y):=y7Y hy hxs hi
  have hstep:q=false->∀ j z,j<k+1->l[j]?=some z->p z=false:=fun h=>y1mY hno hy (hq.symm.trans h)
  have hhit:q=true->r=k:=fun h=>by rw [hr,y33Y hy (hq.symm.trans h) hno]
  clear hq hy
  obtain ⟨yt,yz,yk⟩:=y
  simp only [offD] at hat hc
  conv=>cbv
  refine ⟨_,hat,?_⟩
  conv=>cbv
  repeat' (refine And.intro (by first|assumption|exact ⟨rfl⟩|exact ⟨rfl,rfl⟩) ?_)
  refine ⟨_,hc,?_⟩
  cases q with
  | false =>
    conv=>cbv
    refine ⟨_,_,up _ _ ⟨_,k+1,rfl,?_,by omega,rfl,hstep rfl⟩,⟨⟨rfl,rfl,rfl,rfl,trivial⟩,trivial,rfl⟩,by omega⟩
    rw [y0Y hO (by omega) (by omega)];omega
  | true =>
    conv=>cbv
    rw [hhit rfl,hi]
theorem ymxY (R:Ans) (f:Nat) (p:PoolV->Bool) (l:List PoolV) (hl:l.length<4611686018427387904) (q0:D) (cq0:Clean q0) (hp:∀ y∈l,R.v f [poolD y,.vptr q0 0] (.bool (p y))):AnsF R c105 [.sl 10 false (l.map poolD),.fn f [] [.vptr q0 0]] (jI (idxI p l)):=by
 obtain ⟨xs,hxs⟩:∃ xs,xs=l.map poolD:=⟨_,rfl⟩
 obtain ⟨r,hr⟩:∃ r,r=idxI p l:=⟨_,rfl⟩
 rw [←hxs,←hr]
 refine y2Y ⟨rfl,by decide⟩ fun O hO V hV=>?_
 subst hV
 have hlen:O .len xs=l.length:=by rw [o_len hO,hxs];simp
 conv=>cbv
 refine y4Y (fun n d=>∃ (i:Int) (k:Nat),d=⟨[(0,.sl 10 false xs),(1,.fn f [] [.vptr q0 0]),(7,jI (O .len xs)),(8,jI i)],[],false⟩/\i=k/\k<=l.length/\n=l.length-k/\∀ j y,j<k->l[j]?=some y->p y=false) ⟨_,_,⟨_,0,rfl,rfl,by omega,rfl,by simp⟩,⟨⟨rfl,rfl,rfl,rfl,trivial⟩,trivial,rfl⟩⟩ ?_
 rintro J up n d ⟨i,k,rfl,hi,hk,rfl,hno⟩
 conv=>cbv
 rintro (_|_) h1
 ·replace h1:=f_lss hO h1
  rw [hlen] at h1
  conv=>cbv
  rw [hr,y32Y fun y hy=>by
   obtain ⟨j,hj⟩:=List.mem_iff_getElem?.1 hy
   exact hno j y (by have:=(List.getElem?_eq_some_iff.1 hj).1;omega) hj]
 ·replace h1:=t_lss hO h1
  rw [hlen] at h1
  obtain ⟨y,hy⟩:∃ y,l[k]?=some y:=⟨_,List.getElem?_eq_getElem (by omega)⟩
  have hc:=hp y (List.mem_of_getElem? hy)
  obtain ⟨q,hq⟩:∃ q,q=p y:=⟨_,rfl⟩
  rw [←hq] at hc
  have hat:atX xs i (poolD y):=y7Y hy hxs hi
  have hstep:q=false->∀ j z,j<k+1->l[j]?=some z->p z=false:=fun h=>y1mY hno hy (hq.symm.trans h)
  have hhit:q=true->r=k:=fun h=>by rw [hr,y33Y hy (hq.symm.trans h) hno]
  clear hq hy
  obtain ⟨ynm,ywe,yl0,yl1,yrs,yts,yge,yex,ybu,yme⟩:=y
  simp only [poolD,poolC] at hat hc
  obtain ⟨xyrs,hxyrs⟩:∃ xs,xs=yrs.map reqD:=⟨_,rfl⟩
  have cxyrs:CleanL xyrs:=by rw [hxyrs];exact y1bY _
  simp only [←hxyrs] at hat hc
  obtain ⟨xyts,hxyts⟩:∃ xs,xs=yts.map labD:=⟨_,rfl⟩
  have cxyts:CleanL xyts:=by rw [hxyts];exact yeY _
  simp only [←hxyts] at hat hc
  conv=>cbv
  refine ⟨_,hat,?_⟩
  conv=>cbv
  repeat' (refine And.intro (by first|assumption|exact ⟨rfl⟩|exact ⟨rfl,rfl⟩) ?_)
  refine ⟨_,hc,?_⟩
  cases q with
  | false =>
    conv=>cbv
    refine ⟨_,_,up _ _ ⟨_,k+1,rfl,?_,by omega,rfl,hstep rfl⟩,⟨⟨rfl,rfl,rfl,rfl,trivial⟩,trivial,rfl⟩,by omega⟩
    rw [y0Y hO (by omega) (by omega)];omega
  | true =>
    conv=>cbv
    rw [hhit rfl,hi]
theorem yf9Y (R:Ans) (f:Nat) (p:ClaimV->Bool) (l:List ClaimV) (hl:l.length<4611686018427387904) (q0:D) (cq0:Clean q0) (hp:∀ y∈l,R.v f [y5Y y,.vptr q0 0] (.bool (p y))):AnsF R c50 [.sl 15 false (l.map y5Y),.fn f [] [.vptr q0 0]] (jI (idxI p l)):=by
 obtain ⟨xs,hxs⟩:∃ xs,xs=l.map y5Y:=⟨_,rfl⟩
 obtain ⟨r,hr⟩:∃ r,r=idxI p l:=⟨_,rfl⟩
 rw [←hxs,←hr]
 refine y2Y ⟨rfl,by decide⟩ fun O hO V hV=>?_
 subst hV
 have hlen:O .len xs=l.length:=by rw [o_len hO,hxs];simp
 conv=>cbv
 refine y4Y (fun n d=>∃ (i:Int) (k:Nat),d=⟨[(0,.sl 15 false xs),(1,.fn f [] [.vptr q0 0]),(7,jI (O .len xs)),(8,jI i)],[],false⟩/\i=k/\k<=l.length/\n=l.length-k/\∀ j y,j<k->l[j]?=some y->p y=false) ⟨_,_,⟨_,0,rfl,rfl,by omega,rfl,by simp⟩,⟨⟨rfl,rfl,rfl,rfl,trivial⟩,trivial,rfl⟩⟩ ?_
 rintro J up n d ⟨i,k,rfl,hi,hk,rfl,hno⟩
 conv=>cbv
 rintro (_|_) h1
 ·replace h1:=f_lss hO h1
  rw [hlen] at h1
  conv=>cbv
  rw [hr,y32Y fun y hy=>by
   obtain ⟨j,hj⟩:=List.mem_iff_getElem?.1 hy
   exact hno j y (by have:=(List.getElem?_eq_some_iff.1 hj).1;omega) hj]
 ·replace h1:=t_lss hO h1
  rw [hlen] at h1
  obtain ⟨y,hy⟩:∃ y,l[k]?=some y:=⟨_,List.getElem?_eq_getElem (by omega)⟩
  have hc:=hp y (List.mem_of_getElem? hy)
  obtain ⟨q,hq⟩:∃ q,q=p y:=⟨_,rfl⟩
  rw [←hq] at hc
  have hat:atX xs i (y5Y y):=y7Y hy hxs hi
  have hstep:q=false->∀ j z,j<k+1->l[j]?=some z->p z=false:=fun h=>y1mY hno hy (hq.symm.trans h)
  have hhit:q=true->r=k:=fun h=>by rw [hr,y33Y hy (hq.symm.trans h) hno]
  clear hq hy
  obtain ⟨ynm,ypo,yge,⟨yot,yoz,yok⟩,ypr,yc0,yc1,yos,ytr,yid,yph,ybo,yma⟩:=y
  simp only [y5Y,y12Y] at hat hc
  obtain ⟨xyos,hxyos⟩:∃ xs,xs=yos.map offD:=⟨_,rfl⟩
  have cxyos:CleanL xyos:=by rw [hxyos];exact y11Y _
  simp only [←hxyos] at hat hc
  conv=>cbv
  refine ⟨_,hat,?_⟩
  conv=>cbv
  repeat' (refine And.intro (by first|assumption|exact ⟨rfl⟩|exact ⟨rfl,rfl⟩) ?_)
  refine ⟨_,hc,?_⟩
  cases q with
  | false =>
    conv=>cbv
    refine ⟨_,_,up _ _ ⟨_,k+1,rfl,?_,by omega,rfl,hstep rfl⟩,⟨⟨rfl,rfl,rfl,rfl,trivial⟩,trivial,rfl⟩,by omega⟩
    rw [y0Y hO (by omega) (by omega)];omega
  | true =>
    conv=>cbv
    rw [hhit rfl,hi]
theorem ymyY (R:Ans) (f:Nat) (p:OfgV->Bool) (l:List OfgV) (q0:D) (cq0:Clean q0) (hI:R.v 262 [.sl 4 false (l.map ofgD),.fn f [] [.vptr q0 0]] (jI (idxI p l))):AnsF R c242 [.sl 4 false (l.map ofgD),.fn f [] [.vptr q0 0]] (.bool (l.any p)):=by
 obtain ⟨xs,hxs⟩:∃ xs,xs=l.map ofgD:=⟨_,rfl⟩
 have hcx:CleanL xs:=by rw [hxs];exact y1kY _
 obtain ⟨r,hr⟩:∃ r,r=l.any p:=⟨_,rfl⟩
 have hn:=y3mY p l
 obtain ⟨n,hn'⟩:∃ n,n=idxI p l:=⟨_,rfl⟩
 rw [←hn'] at hI hn
 rw [←hxs] at hI ⊢
 rw [←hr] at hn ⊢
 refine y2Y ⟨rfl,by decide⟩ fun O hO V hV=>?_
 subst hV
 conv=>cbv
 repeat' (refine And.intro (by first|assumption|exact ⟨rfl⟩|exact ⟨rfl,rfl⟩) ?_)
 refine ⟨_,hI,?_⟩
 conv=>cbv
 rintro (_|_) h<;>replace h:=ci hO h<;>dsimp only [CmpI] at h<;>(conv=>cbv)
 all_goals (cases r<;>first|rfl|(simp at hn;omega))
theorem ymzY (R:Ans) (f:Nat) (p:TypeV->Bool) (l:List TypeV) (q0:D) (cq0:Clean q0) (hI:R.v 200 [.sl 7 false (l.map typeD),.fn f [] [.vptr q0 0]] (jI (idxI p l))):AnsF R c158 [.sl 7 false (l.map typeD),.fn f [] [.vptr q0 0]] (.bool (l.any p)):=by
 obtain ⟨xs,hxs⟩:∃ xs,xs=l.map typeD:=⟨_,rfl⟩
 have hcx:CleanL xs:=by rw [hxs];exact y2gY _
 obtain ⟨r,hr⟩:∃ r,r=l.any p:=⟨_,rfl⟩
 have hn:=y3mY p l
 obtain ⟨n,hn'⟩:∃ n,n=idxI p l:=⟨_,rfl⟩
 rw [←hn'] at hI hn
 rw [←hxs] at hI ⊢
 rw [←hr] at hn ⊢
 refine y2Y ⟨rfl,by decide⟩ fun O hO V hV=>?_
 subst hV
 conv=>cbv
 repeat' (refine And.intro (by first|assumption|exact ⟨rfl⟩|exact ⟨rfl,rfl⟩) ?_)
 refine ⟨_,hI,?_⟩
 conv=>cbv
 rintro (_|_) h<;>replace h:=ci hO h<;>dsimp only [CmpI] at h<;>(conv=>cbv)
 all_goals (cases r<;>first|rfl|(simp at hn;omega))
theorem yn0Y (R:Ans) (f:Nat) (p:OffV->Bool) (l:List OffV) (q0:D) (cq0:Clean q0) (hI:R.v 246 [.sl 3 false (l.map offD),.fn f [] [.vptr q0 0]] (jI (idxI p l))):AnsF R c205 [.sl 3 false (l.map offD),.fn f [] [.vptr q0 0]] (.bool (l.any p)):=by
 obtain ⟨xs,hxs⟩:∃ xs,xs=l.map offD:=⟨_,rfl⟩
 have hcx:CleanL xs:=by rw [hxs];exact y11Y _
 obtain ⟨r,hr⟩:∃ r,r=l.any p:=⟨_,rfl⟩
 have hn:=y3mY p l
 obtain ⟨n,hn'⟩:∃ n,n=idxI p l:=⟨_,rfl⟩
 rw [←hn'] at hI hn
 rw [←hxs] at hI ⊢
 rw [←hr] at hn ⊢
 refine y2Y ⟨rfl,by decide⟩ fun O hO V hV=>?_
 subst hV
 conv=>cbv
 repeat' (refine And.intro (by first|assumption|exact ⟨rfl⟩|exact ⟨rfl,rfl⟩) ?_)
 refine ⟨_,hI,?_⟩
 conv=>cbv
 rintro (_|_) h<;>replace h:=ci hO h<;>dsimp only [CmpI] at h<;>(conv=>cbv)
 all_goals (cases r<;>first|rfl|(simp at hn;omega))
theorem yn1Y (R:Ans) (f:Nat) (p:PoolV->Bool) (l:List PoolV) (q0:D) (cq0:Clean q0) (hI:R.v 105 [.sl 10 false (l.map poolD),.fn f [] [.vptr q0 0]] (jI (idxI p l))):AnsF R c46 [.sl 10 false (l.map poolD),.fn f [] [.vptr q0 0]] (.bool (l.any p)):=by
 obtain ⟨xs,hxs⟩:∃ xs,xs=l.map poolD:=⟨_,rfl⟩
 have hcx:CleanL xs:=by rw [hxs];exact ya6Y _
 obtain ⟨r,hr⟩:∃ r,r=l.any p:=⟨_,rfl⟩
 have hn:=y3mY p l
 obtain ⟨n,hn'⟩:∃ n,n=idxI p l:=⟨_,rfl⟩
 rw [←hn'] at hI hn
 rw [←hxs] at hI ⊢
 rw [←hr] at hn ⊢
 refine y2Y ⟨rfl,by decide⟩ fun O hO V hV=>?_
 subst hV
 conv=>cbv
 repeat' (refine And.intro (by first|assumption|exact ⟨rfl⟩|exact ⟨rfl,rfl⟩) ?_)
 refine ⟨_,hI,?_⟩
 conv=>cbv
 rintro (_|_) h<;>replace h:=ci hO h<;>dsimp only [CmpI] at h<;>(conv=>cbv)
 all_goals (cases r<;>first|rfl|(simp at hn;omega))
theorem yn2Y (R:Ans) (f:Nat) (p:ClaimV->Bool) (l:List ClaimV) (q0:D) (cq0:Clean q0) (hI:R.v 50 [.sl 15 false (l.map y5Y),.fn f [] [.vptr q0 0]] (jI (idxI p l))):AnsF R c169 [.sl 15 false (l.map y5Y),.fn f [] [.vptr q0 0]] (.bool (l.any p)):=by
 obtain ⟨xs,hxs⟩:∃ xs,xs=l.map y5Y:=⟨_,rfl⟩
 have hcx:CleanL xs:=by rw [hxs];exact ya7Y _
 obtain ⟨r,hr⟩:∃ r,r=l.any p:=⟨_,rfl⟩
 have hn:=y3mY p l
 obtain ⟨n,hn'⟩:∃ n,n=idxI p l:=⟨_,rfl⟩
 rw [←hn'] at hI hn
 rw [←hxs] at hI ⊢
 rw [←hr] at hn ⊢
 refine y2Y ⟨rfl,by decide⟩ fun O hO V hV=>?_
 subst hV
 conv=>cbv
 repeat' (refine And.intro (by first|assumption|exact ⟨rfl⟩|exact ⟨rfl,rfl⟩) ?_)
 refine ⟨_,hI,?_⟩
 conv=>cbv
 rintro (_|_) h<;>replace h:=ci hO h<;>dsimp only [CmpI] at h<;>(conv=>cbv)
 all_goals (cases r<;>first|rfl|(simp at hn;omega))
end Go.Proofs.AM
namespace Go.Proofs.AM
open Go Go.Lib
section
variable {α:Type} (κ:α->Str) (v:α->D)
end
theorem yn3Y {α:Type} {p:α->Bool} {l:List α}:(l.find? p).isSome=l.any p:=by
 rw [Bool.eq_iff_iff,List.find?_isSome,List.any_eq_true]
theorem yabY {α:Type} {p:α->Bool} {l:List α} {k:Nat} {x:α} (hx:l[k]?=some x) (hp:p x=true) (h0:∀ (j:Nat) z,j<k->l[j]?=some z->p z=false):l.find? p=some x:=by
 obtain ⟨hk,rfl⟩:=List.getElem?_eq_some_iff.1 hx
 rw [List.find?_eq_some_iff_getElem]
 exact ⟨hp,k,hk,rfl,fun j hj=>by have:=h0 j _ hj (List.getElem?_eq_getElem (by omega));simp [this]⟩
theorem yacY {α:Type} {p:α->Bool} {l:List α} (h0:∀ (j:Nat) z,j<l.length->l[j]?=some z->p z=false):l.find? p=none:=by
 rw [List.find?_eq_none]
 intro x hx
 obtain ⟨j,hj⟩:=List.mem_iff_getElem?.1 hx
 rw [h0 j x (List.getElem?_eq_some_iff.1 hj).1 hj];simp
theorem y6aY {α:Type} {p:α->Bool} {l:List α} (h0:∀ (j:Nat) z,j<l.length->l[j]?=some z->p z=true):l.all p=true:=by
 rw [List.all_eq_true]
 intro x hx
 obtain ⟨j,hj⟩:=List.mem_iff_getElem?.1 hx
 exact h0 j x (List.getElem?_eq_some_iff.1 hj).1 hj
theorem y6bY {α:Type} {p:α->Bool} {l:List α} {k:Nat} {x:α} (hx:l[k]?=some x) (hp:p x=false):l.all p=false:=by
 rw [List.all_eq_false]
 exact ⟨x,List.mem_of_getElem? hx,by simp [hp]⟩
theorem y6cY {α:Type} {p:α->Bool} {l:List α} {k:Nat} {y:α} (h:∀ (j:Nat) z,j<k->l[j]?=some z->p z=true) (hy:l[k]?=some y) (hp:p y=true):∀ (j:Nat) z,j<k+1->l[j]?=some z->p z=true:=fun j z hj hz=>by
 rcases Nat.lt_succ_iff_lt_or_eq.1 hj with h1|rfl
 ·exact h j z h1 hz
 ·rw [hy] at hz;simp only [Option.some.injEq] at hz;subst hz;exact hp
section
variable {K α:Type} [DecidableEq K] (kt:Bool × List (Nat × EqT)) (kd:K->D) (vd:α->D)
def getA (k:K) (l:List (K × α)):Option α:=(l.find? fun p=>decide (p.1=k)).map (·.2)
def putA (k:K) (v:α):List (K × α)->List (K × α)
 | []=>[(k,v)]
 | p::r=>if p.1=k then (k,v)::r else p::putA k v r
def entA {K α:Type} (kd:K->D) (vd:α->D) (p:K × α):D:=.tup [kd p.1,vd p.2]
theorem y6dY (he:∀ a b,keyEq kt (kd a) (kd b)=some (decide (a=b))) (k:K):∀ l:List (K × α),lookD kt (kd k) (l.map (entA kd vd))=some ((getA k l).map vd)
 | []=>rfl
 | p::r=>by
   have ih:=y6dY he k r
   unfold getA at ih ⊢
   simp only [List.map_cons,entA,lookD,he,Option.bind_some]
   by_cases h:p.1=k
   ·subst h
    simp
   ·rw [List.find?_cons_of_neg (by simpa using h)]
    have h2:¬k=p.1:=fun e=>h e.symm
    simp only [h2,decide_false,Bool.false_eq_true,if_false]
    exact ih
theorem y7oY (he:∀ a b,keyEq kt (kd a) (kd b)=some (decide (a=b))) (k:K) (u:α):∀ l:List (K × α),mputD kt (kd k) (vd u) (l.map (entA kd vd))=some ((putA k u l).map (entA kd vd))
 | []=>rfl
 | p::r=>by
   have ih:=y7oY he k u r
   simp only [List.map_cons,entA,mputD,he,Option.bind_some,putA]
   by_cases h:p.1=k
   ·subst h
    simp [entA]
   ·have h2:¬k=p.1:=fun e=>h e.symm
    simp only [h2,h,decide_false,Bool.false_eq_true,if_false,List.map_cons]
    change Option.map _ (mputD kt (kd k) (vd u) (r.map (entA kd vd)))=_
    rw [ih]
    rfl
omit [DecidableEq K] in
theorem yadY (hk:∀ k,Clean (kd k)) (hv:∀ v,Clean (vd v)) (l:List (K × α)):CleanL (l.map (entA kd vd)):=y8Y (f:=entA kd vd) (fun p=>by
 obtain ⟨a1,a2⟩:=hk p.1
 obtain ⟨b1,b2⟩:=hv p.2
 exact ⟨by simp [entA,closed,closedL,a1,b1],by simp [entA,strip,stripL,a2,b2]⟩) rfl
theorem y7pY (k k':K) (v:α):∀ l:List (K × α),getA k' (putA k v l)=if k'=k then some v else getA k' l
 | []=>by
   unfold getA putA
   by_cases h:k'=k
   ·subst h;simp
   ·have h2:¬k=k':=fun e=>h e.symm
    simp [h,h2]
 | p::r=>by
   have ih:=y7pY k k' v r
   unfold getA at ih ⊢
   simp only [putA]
   by_cases h:p.1=k
   ·rw [if_pos h]
    by_cases h3:k'=k
    ·subst h3;simp
    ·have h2:¬k=k':=fun e=>h3 e.symm
     simp [h,h3,h2]
   ·rw [if_neg h]
    by_cases h3:p.1=k'
    ·subst h3
     simp [h]
    ·simp only [List.find?_cons,h3,decide_false]
     exact ih
theorem yn4Y {k:K} {l:List (K × α)} (h:∀ p∈l,p.1≠k):getA k l=none:=by
 unfold getA
 rw [List.find?_eq_none.2 fun p hp=>by simpa using h p hp]
 rfl
def putL' (m:List (K × α)) (L:List (K × α)):List (K × α):=L.foldl (fun m p=>putA p.1 p.2 m) m
theorem yfaY (k:K):∀ (L m:List (K × α)),(L.Pairwise fun p q=>p.1≠q.1)->getA k (putL' m L)=match getA k L with|some v=>some v|none=>getA k m
 | [],m,_=>by simp [putL',getA]
 | p::r,m,h=>by
   have h':=List.pairwise_cons.1 h
   have ih:=yfaY k r (putA p.1 p.2 m) h'.2
   show getA k (putL' (putA p.1 p.2 m) r)=_
   rw [ih,y7pY]
   by_cases hk:k=p.1
   ·subst hk
    rw [yn4Y (l:=r) fun q hq e=>h'.1 q hq e.symm]
    simp [getA]
   ·have:getA k (p::r)=getA k r:=by
     unfold getA
     rw [List.find?_cons_of_neg (by simpa using fun e:p.1=k=>hk e.symm)]
    rw [this,if_neg hk]
end
theorem yfbY {α:Type} {R:α->α->Prop} {l:List α} (h:∀ i x,l[i]?=some x->∀ y∈l.take i,R y x):l.Pairwise R:=by
 rw [List.pairwise_iff_getElem]
 intro i j hi hj hij
 exact h j _ (List.getElem?_eq_getElem hj) _ (mem_take.2 ⟨i,hij,List.getElem?_eq_getElem hi⟩)
def kO:Bool × List (Nat × EqT):=(true,[(0,.str),(1,.str),(2,.str)])
theorem yfcY (a b:OffV):keyEq kO (offD a) (offD b)=some (decide (a=b)):=by
 unfold keyEq
 obtain ⟨a1,a2,a3⟩:=a
 obtain ⟨b1,b2,b3⟩:=b
 simp [kO,offD,y27Y,D.cells,ylY,y7mY]
def entC (p:TypeV × OfgV):List D:=typeC p.1++ofgC p.2
def entD (p:TypeV × OfgV):D:=.agg (entC p)
def allL (l:List TypeV):List (OffV × (TypeV × OfgV)):=l.flatMap fun t=>t.offs.map fun x=>(⟨t.name,x.z,x.k⟩,(t,x))
noncomputable def allM (l:List TypeV):List (OffV × (TypeV × OfgV)):=if catE l=0 then putL' [] (allL l) else []
theorem yfdY {t:TypeV} (h:typE t=0):nameB t.name=true/\amtsE t.c0 t.c1=0/\amtsE t.v0 t.v1=0/\fitsB t.v0 t.v1 t.c0 t.c1=true/\y22Y t.labs=0/\ofgsE t.offs=0:=by
 unfold typE at h
 have h2:=y21Y h
 simp only [List.mem_cons,List.not_mem_nil,or_false] at h2
 have a:=h2 _ (.inl rfl)
 have b:=h2 _ (.inr (.inr (.inr (.inl rfl))))
 refine ⟨?_,h2 _ (.inr (.inl rfl)),h2 _ (.inr (.inr (.inl rfl))),?_,h2 _ (.inr (.inr (.inr (.inr (.inl rfl))))),h2 _ (.inr (.inr (.inr (.inr (.inr rfl)))))⟩
 ·cases hn:nameB t.name with
  | true=>rfl
  | false=>rw [hn] at a;simp at a
 ·cases hn:fitsB t.v0 t.v1 t.c0 t.c1 with
  | true=>rfl
  | false=>rw [hn] at b;simp at b
theorem yn5Y {l:List OfgV} (h:ofgsE l=0):l.length<=6/\(∀ x∈l,nameB x.z=true/\nameB x.k=true/\amtE x.p=0)/\l.Pairwise fun a b=>¬(a.z=b.z/\a.k=b.k):=by
 unfold ofgsE at h
 rw [ya9Y,scan_up] at h
 have key:∀ i x,l[i]?=some x->(nameB x.z=true/\nameB x.k=true/\amtE x.p=0)/\(l.take i).any (fun y=>decide (y.z=x.z)&&decide (y.k=x.k))=false:=fun i x hx=>by
  have h2:=h.2 i x hx
  unfold ofgE at h2
  cases h3:nameB x.z<;>cases h4:nameB x.k<;>simp only [h3,h4,Bool.and_true,Bool.and_false,Bool.false_eq_true,if_false,if_true] at h2<;>try omega
  by_cases h5:amtE x.p=0
  ·rw [if_pos h5] at h2
   cases h6:(l.take i).any (fun y=>decide (y.z=x.z)&&decide (y.k=x.k)) with
   | false=>exact ⟨⟨rfl,rfl,h5⟩,rfl⟩
   | true=>rw [h6] at h2;simp at h2
  ·rw [if_neg h5] at h2;exact absurd h2 h5
 refine ⟨h.1,fun x hx=>?_,yfbY fun i x hx y hy e=>?_⟩
 ·obtain ⟨i,hi⟩:=List.mem_iff_getElem?.1 hx
  exact (key i x hi).1
 ·have:=List.any_eq_false.1 (key i x hx).2 y hy
  simp [e.1,e.2] at this
theorem yfeY {l:List TypeV} (h:catE l=0):l.length<=12/\(∀ t∈l,typE t=0)/\l.Pairwise fun a b=>a.name≠b.name:=by
 unfold catE at h
 rw [ya9Y,scan_up] at h
 have key:∀ i x,l[i]?=some x->typE x=0/\(l.take i).any (fun y=>decide (y.name=x.name))=false:=fun i x hx=>by
  have h2:=h.2 i x hx
  unfold ctypE at h2
  by_cases h5:typE x=0
  ·rw [if_pos h5] at h2
   cases h6:(l.take i).any (fun y=>decide (y.name=x.name)) with
   | false=>exact ⟨h5,rfl⟩
   | true=>rw [h6] at h2;simp at h2
  ·rw [if_neg h5] at h2;exact absurd h2 h5
 refine ⟨h.1,fun x hx=>?_,yfbY fun i x hx y hy e=>?_⟩
 ·obtain ⟨i,hi⟩:=List.mem_iff_getElem?.1 hx
  exact (key i x hi).1
 ·have:=List.any_eq_false.1 (key i x hx).2 y hy
  simp [e] at this
theorem yn6Y {l:List TypeV} (h:catE l=0):(allL l).Pairwise fun p q=>p.1≠q.1:=by
 obtain ⟨_,h2,h3⟩:=yfeY h
 unfold allL
 rw [List.pairwise_flatMap]
 refine ⟨fun t ht=>?_,h3.imp fun hab x hx y hy e=>?_⟩
 ·rw [List.pairwise_map]
  refine (yn5Y (yfdY (h2 t ht)).2.2.2.2.2).2.2.imp fun hab e=>hab ?_
  simp only [OffV.mk.injEq,true_and] at e
  exact e
 ·obtain ⟨a,_,rfl⟩:=List.mem_map.1 hx
  obtain ⟨b,_,rfl⟩:=List.mem_map.1 hy
  simp only [OffV.mk.injEq] at e
  exact hab e.1
theorem yn7Y (l:List TypeV) (o:OffV):getA o (allL l)=findT l o:=by
 unfold getA allL findT
 induction l with
 | nil=>rfl
 | cons t r ih =>
   rw [List.flatMap_cons,List.find?_append,List.findSome?_cons]
   have e:(t.offs.map fun x=>((⟨t.name,x.z,x.k⟩:OffV),(t,x))).find? (fun p=>decide (p.1=o))=(t.offs.find? fun x=>decide (t.name=o.t)&&(decide (x.z=o.z)&&decide (x.k=o.k))).map fun x=>((⟨t.name,x.z,x.k⟩:OffV),(t,x)):=by
    rw [List.find?_map]
    congr 2
    funext x
    obtain ⟨o1,o2,o3⟩:=o
    simp [OffV.mk.injEq]
   rw [e]
   cases h:t.offs.find? fun x=>decide (t.name=o.t)&&(decide (x.z=o.z)&&decide (x.k=o.k)) with
   | none=>simpa using ih
   | some x=>simp
theorem yn8Y (l:List TypeV) (o:OffV):getA o (allM l)=findC l o:=by
 unfold allM findC
 split
 ·rename_i h
  rw [yfaY _ _ _ (yn6Y h),yn7Y]
  cases findT l o<;>simp [getA]
 ·rfl
theorem yaeY {α:Type} {κ:α->Str} {g:α->List α->Int} (hg:∀ x ah,g x ah=0->rizE κ x ah=0) {l:List α} (h:scanE (upE g l) l.length=0):l.Pairwise fun a b=>κ a<κ b:=by
 have hadj:∀ (j:Nat) x y,l[j]?=some x->l[j+1]?=some y->κ x<κ y:=fun j x y hx hy=>by
  have h2:=hg _ _ (scan_up.1 h (j+1) y hy)
  unfold rizE at h2
  rw [y34Y (by omega) (show l[j+1-1]?=some x by simpa using hx)] at h2
  simp only at h2
  refine Classical.byContradiction fun hn=>?_
  rw [decide_eq_false hn] at h2
  simp at h2
 have hlt:∀ (d i:Nat) x y,l[i]?=some x->l[i+d+1]?=some y->κ x<κ y:=by
  intro d
  induction d with
  | zero=>exact fun i x y hx hy=>hadj i x y hx (by simpa using hy)
  | succ d ih =>
    intro i x y hx hy
    have hlen:=(List.getElem?_eq_some_iff.1 hy).1
    obtain ⟨z,hz⟩:∃ z,l[i+d+1]?=some z:=⟨_,List.getElem?_eq_getElem (by omega)⟩
    exact List.lt_trans (ih i x z hx hz) (hadj (i+d+1) z y hz (by simpa [Nat.add_assoc] using hy))
 rw [List.pairwise_iff_getElem]
 intro i j hi hj hij
 obtain ⟨d,rfl⟩:∃ d,j=i+d+1:=⟨j-i-1,by omega⟩
 exact hlt d i _ _ (List.getElem?_eq_getElem hi) (List.getElem?_eq_getElem hj)
theorem yffY {α:Type} {κ:α->Str} {l:List α} (h:l.Pairwise fun a b=>κ a<κ b):(l.map κ).Nodup:=by
 unfold List.Nodup
 rw [List.pairwise_map]
 exact h.imp fun hab e=>by rw [e] at hab;exact List.lt_irrefl _ hab
theorem yn9Y {α:Type} {κ:α->Str} {l:List α} (h:(l.map κ).Nodup) {x y:α} (hx:x∈l) (hy:y∈l) (e:κ x=κ y):x=y:=by
 induction l with
 | nil=>simp at hx
 | cons z l ih =>
   simp only [List.map_cons,List.nodup_cons] at h
   rcases List.mem_cons.1 hx with h1|h1<;>rcases List.mem_cons.1 hy with h2|h2
   ·rw [h1,h2]
   ·exact absurd (List.mem_map.2 ⟨y,h2,by rw [←e,h1]⟩) h.1
   ·exact absurd (List.mem_map.2 ⟨x,h1,by rw [e,h2]⟩) h.1
   ·exact ih h.2 h1 h2
theorem y4gY {b:Bool} {e:Int} (he:e≠0):wantI b e=0↔b=true:=by
 cases b<;>simp [wantI,he]
structure OkSnap (s:SnapV):Prop where
 nums:numsB s=true
 cat:catE s.types=0
 sizes:y4eY s=true
 pool:∀ p∈s.pools,poolE p=0
 poolO:s.pools.Pairwise fun a b=>a.name<b.name
 claim:∀ c∈s.claims,y19Y c=0/\y1nY s c.pool=true/\isO s.types c.off=true/\yqY s.types c.opts=true/\c.c0=(hasO s.types c.off).1/\c.c1=(hasO s.types c.off).2
 claimO:s.claims.Pairwise fun a b=>a.name<b.name
 pod:∀ p∈s.pods,podE p=0/\(p.on=[]∨y1aY s p.on=true)/\p.since<=s.now
 podO:s.pods.Pairwise fun a b=>a.name<b.name
 cmd:∀ c∈s.cmds,cmdE c=0
theorem y5eY {s:SnapV} (h:snapE s=0):OkSnap s:=by
 unfold snapE at h
 have h2:=y21Y h
 simp only [List.mem_cons,List.not_mem_nil,or_false] at h2
 have w1:=h2 _ (.inl rfl)
 have w2:=h2 _ (.inr (.inl rfl))
 have w3:=h2 _ (.inr (.inr (.inl rfl)))
 have w4:=h2 _ (.inr (.inr (.inr (.inl rfl))))
 have w5:=h2 _ (.inr (.inr (.inr (.inr (.inl rfl)))))
 have w6:=h2 _ (.inr (.inr (.inr (.inr (.inr (.inl rfl))))))
 have w7:=h2 _ (.inr (.inr (.inr (.inr (.inr (.inr (.inl rfl)))))))
 clear h h2
 unfold y2eY at w4
 unfold y1oY at w5
 unfold podsE at w6
 unfold cmdsE at w7
 have gp:∀ x ah,y35Y x ah=0->poolE x=0/\rizE (·.name) x ah=0:=fun x ah h=>by
  unfold y35Y at h
  split at h
  ·exact ⟨‹_›,h⟩
  ·exact absurd h ‹_›
 have gc:∀ x ah,y36Y s x ah=0->(y19Y x=0/\y1nY s x.pool=true/\isO s.types x.off=true/\yqY s.types x.opts=true/\x.c0=(hasO s.types x.off).1/\x.c1=(hasO s.types x.off).2)/\rizE (·.name) x ah=0:=fun x ah h=>by
  unfold y36Y at h
  split at h
  ·have h2:=y21Y h
   simp only [List.mem_cons,List.not_mem_nil,or_false] at h2
   have v2:=(y4gY (by decide)).1 (h2 _ (.inr (.inl rfl)))
   have v3:=(y4gY (by decide)).1 (h2 _ (.inr (.inr rfl)))
   simp only [Bool.and_eq_true,decide_eq_true_eq] at v2 v3
   exact ⟨⟨‹_›,v2.1,v2.2.1,v2.2.2,v3.1,v3.2⟩,h2 _ (.inl rfl)⟩
  ·exact absurd h ‹_›
 have gd:∀ x ah,vpodE s x ah=0->(podE x=0/\(x.on=[]∨y1aY s x.on=true)/\x.since<=s.now)/\rizE (·.name) x ah=0:=fun x ah h=>by
  unfold vpodE at h
  split at h
  ·have h2:=y21Y h
   simp only [List.mem_cons,List.not_mem_nil,or_false] at h2
   have v2:=(y4gY (by decide)).1 (h2 _ (.inr (.inl rfl)))
   have v3:=(y4gY (by decide)).1 (h2 _ (.inr (.inr rfl)))
   simp only [Bool.or_eq_true,decide_eq_true_eq] at v2 v3
   exact ⟨⟨‹_›,v2,v3⟩,h2 _ (.inl rfl)⟩
  ·exact absurd h ‹_›
 have ga:∀ {α:Type} {g:α->List α->Int} {l:List α} {P:α->Prop},(∀ x ah,g x ah=0->P x)->scanE (upE g l) l.length=0->∀ x∈l,P x:=fun hg hs x hx=>by
  obtain ⟨i,hi⟩:=List.mem_iff_getElem?.1 hx
  exact hg _ _ (scan_up.1 hs i x hi)
 exact ⟨(y4gY (by decide)).1 w1,w2,(y4gY (by decide)).1 w3,ga (fun x ah h=>(gp x ah h).1) w4,yaeY (fun x ah h=>(gp x ah h).2) w4,ga (fun x ah h=>(gc x ah h).1) w5,yaeY (fun x ah h=>(gc x ah h).2) w5,ga (fun x ah h=>(gd x ah h).1) w6,yaeY (fun x ah h=>(gd x ah h).2) w6,fun c hc=>by
  have:=scan_at.1 w7 c hc
  unfold vcmdE at this
  split at this
  ·assumption
  ·exact absurd this ‹_›⟩
noncomputable def y1pY (s:SnapV) (p:PodV) (claim:Str):Int:=y3Y [snapE s,podE p,wantI (y1aY s claim) 5]
def zeroC:ClaimV:=⟨[],[],0,⟨[],[],[]⟩,0,0,0,[],0,[],0,0,false⟩
def ygY (s:SnapV) (n:Str):Option ClaimV:=s.claims.find? fun c=>decide (c.name=n)
theorem y6eY (s:SnapV) (n:Str):(ygY s n).isSome=y1aY s n:=yn3Y
def domOf (key:Str) (c:ClaimV):Str:=if key=zoneS then c.off.z else c.name
theorem yafY {k a:Str} (h:termE k a=0):k=zoneS∨k=hostS:=by
 unfold termE at h
 by_cases h1:k=zoneS
 ·exact .inl h1
 ·by_cases h2:k=hostS
  ·exact .inr h2
  ·simp [h1,h2] at h
theorem ynaY {p:PodV} (h:podE p=0):(∀ t∈p.near,t.k=zoneS∨t.k=hostS)/\(∀ t∈p.apart,t.k=zoneS∨t.k=hostS)/\∀ x∈p.spr,(x.k=zoneS∨x.k=hostS)/\1<=x.n/\x.n<=16:=by
 unfold podE at h
 have h2:=y21Y h
 simp only [List.mem_cons,List.not_mem_nil,or_false] at h2
 have c:=h2 _ (.inr (.inr (.inr (.inr (.inr (.inl rfl))))))
 unfold allTE at c
 split at c
 ·simp at c
 ·have h3:=y21Y c
  simp only [List.mem_cons,List.not_mem_nil,or_false] at h3
  refine ⟨fun t ht=>yafY (scan_at.1 (h3 _ (.inr (.inl rfl))) t ht),fun t ht=>yafY (scan_at.1 (h3 _ (.inr (.inr rfl))) t ht),fun x hx=>?_⟩
  have h4:=scan_at.1 (h3 _ (.inl rfl)) x hx
  unfold sprE at h4
  split at h4
  ·refine ⟨yafY ‹_›,?_⟩
   cases hb:btw x.n 1 16 with
   | true=>unfold btw at hb;simpa using hb
   | false=>rw [hb] at h4;simp at h4
  ·exact absurd h4 ‹_›
theorem ynbY {s:SnapV} (ok:OkSnap s) {x y:ClaimV} (hx:x∈s.claims) (hy:y∈s.claims) (e:x.name=y.name):x=y:=yn9Y (κ:=fun c:ClaimV=>c.name) (yffY ok.claimO) hx hy e
theorem y37Y {s:SnapV} {n:Str} {c:ClaimV} (h:ygY s n=some c):c∈s.claims/\c.name=n :=
 ⟨List.mem_of_find?_eq_some h,by simpa using List.find?_some h⟩
theorem yncY {s:SnapV} (ok:OkSnap s) {c:ClaimV} (h:c∈s.claims):ygY s c.name=some c:=by
 cases hf:ygY s c.name with
 | none=>have:=List.find?_eq_none.1 hf c h;simp at this
 | some y =>
   obtain ⟨h1,h2⟩:=y37Y hf
   rw [ynbY ok h1 h h2]
def y25Y (claim:Str) (c:ClaimV):Bool:=decide (c.name=claim)||(decide (c.phase=3)&&!c.marked)
def domV (s:SnapV) (key claim:Str):List Str:=ydY ((s.claims.filter (y25Y claim)).map (domOf key))
def inDom (s:SnapV) (key app but v:Str) (p:PodV):Bool:=match ygY s p.on with|some c=>decide (p.app=app)&&(!decide (p.name=but)&&decide (domOf key c=v))|none=>false
def y1cY (s:SnapV) (key app but v:Str):Int:=(s.pods.filter (inDom s key app but v)).length
structure DomV where
 k:Str
 v:Str
 n:Int
 deriving DecidableEq
def domD (x:DomV):D:=.agg [mkS x.k,mkS x.v,jI x.n]
def domsL (s:SnapV) (key app but claim:Str):List DomV:=(domV s key claim).map fun v=>⟨key,v,y1cY s key app but v⟩
noncomputable def domsE (s:SnapV) (key app but claim:Str):List DomV × Int :=
 if snapE s≠0 then ([],snapE s) else if decide (key=zoneS)||decide (key=hostS) then (if y1aY s claim then (domsL s key app but claim,0) else ([],5)) else ([],1)
def fit1B (s:SnapV) (pod:PodV) (c:ClaimV) (x:SprV):Bool:=(domsL s x.k x.a pod.name c.name).all fun d=>decide (y1cY s x.k x.a pod.name (domOf x.k c)+(if pod.app=x.a then 1 else 0)-d.n<=x.n)
def sfitB (s:SnapV) (pod:PodV) (c:ClaimV):Bool:=pod.spr.all (fit1B s pod c)
noncomputable def sfitE (s:SnapV) (p:PodV) (claim:Str):Bool × Int:=(decide (y1pY s p claim=0)&&sfitB s p ((ygY s claim).getD zeroC),y1pY s p claim)
theorem y7qY {s:SnapV} {key:Str} {c:ClaimV} (h:c∈s.claims):domOf key c∈domV s key c.name:=by
 unfold domV
 rw [y3jY,List.mem_map]
 exact ⟨c,List.mem_filter.2 ⟨h,by simp [y25Y]⟩,rfl⟩
theorem yagY (s:SnapV) (key app but v:Str):0<=y1cY s key app but v:=by unfold y1cY;omega
theorem begin_parts {s:SnapV} {p:PodV} {claim:Str}:y1pY s p claim=0↔snapE s=0/\podE p=0/\y1aY s claim=true:=by
 unfold y1pY
 simp only [ycY,y59Y]
 constructor
 ·intro h
  by_cases h1:snapE s=0
  ·by_cases h2:podE p=0
   ·by_cases h3:wantI (y1aY s claim) 5=0
    ·exact ⟨h1,h2,(y4gY (e:=5) (by decide)).1 h3⟩
    ·simp [h1,h2,h3] at h
   ·simp [h1,h2] at h
  ·simp [h1] at h
 ·rintro ⟨h1,h2,h3⟩
  simp [h1,h2,h3]
def moreS (p:PodV):PodV:={ p with spr:=p.spr.map fun x=>⟨x.k,x.a,min 16 (x.n+1)⟩ }
def noneS (p:PodV):PodV:={ p with spr:=[] }
theorem yfgY {p:PodV} {l:List SprV} (h:podE p=0) (hl:l.length<=3) (h2:∀ x∈l,sprE x=0):podE { p with spr:=l }=0:=by
 unfold podE at h ⊢
 have h3:=y21Y h
 simp only [List.mem_cons,List.not_mem_nil,or_false] at h3
 refine y5aY fun x hx=>?_
 simp only [List.mem_cons,List.not_mem_nil,or_false] at hx
 have c:=h3 _ (.inr (.inr (.inr (.inr (.inr (.inl rfl))))))
 rcases hx with rfl|rfl|rfl|rfl|rfl|rfl|rfl|rfl
 ·exact h3 _ (.inl rfl)
 ·exact h3 _ (.inr (.inl rfl))
 ·exact h3 _ (.inr (.inr (.inl rfl)))
 ·exact h3 _ (.inr (.inr (.inr (.inl rfl))))
 ·exact h3 _ (.inr (.inr (.inr (.inr (.inl rfl)))))
 ·unfold allTE at c ⊢
  split at c
  ·simp at c
  ·rename_i hn
   have h4:=y21Y c
   rw [if_neg (show ¬(3<l.length∨3<p.near.length∨3<p.apart.length) by omega)]
   refine y5aY fun y hy=>?_
   simp only [List.mem_cons,List.not_mem_nil,or_false] at hy h4
   rcases hy with rfl|rfl|rfl
   ·exact scan_at.2 h2
   ·exact h4 _ (.inr (.inl rfl))
   ·exact h4 _ (.inr (.inr rfl))
 ·exact h3 _ (.inr (.inr (.inr (.inr (.inr (.inr (.inl rfl)))))))
 ·exact h3 _ (.inr (.inr (.inr (.inr (.inr (.inr (.inr rfl)))))))
theorem yfhY {p:PodV} (h:podE p=0):p.spr.length<=3/\∀ x∈p.spr,sprE x=0:=by
 refine ⟨(ylnY h).2.2.1,?_⟩
 unfold podE at h
 have h3:=y21Y h
 simp only [List.mem_cons,List.not_mem_nil,or_false] at h3
 have c:=h3 _ (.inr (.inr (.inr (.inr (.inr (.inl rfl))))))
 unfold allTE at c
 split at c
 ·simp at c
 ·have h4:=y21Y c
  simp only [List.mem_cons,List.not_mem_nil,or_false] at h4
  exact scan_at.1 (h4 _ (.inl rfl))
theorem yfiY {x:SprV} (h:sprE x=0):sprE ⟨x.k,x.a,min 16 (x.n+1)⟩=0/\x.n<=16/\1<=x.n:=by
 unfold sprE at h ⊢
 by_cases ht:termE x.k x.a=0
 ·simp only [ht,if_true] at h ⊢
  cases hb:btw x.n 1 16 with
  | false=>rw [hb] at h;simp at h
  | true =>
    unfold btw at hb
    simp only [Bool.and_eq_true,decide_eq_true_eq] at hb
    have:btw (min 16 (x.n+1)) 1 16=true:=by
     unfold btw
     simp only [Bool.and_eq_true,decide_eq_true_eq]
     omega
    rw [this]
    exact ⟨rfl,by omega,by omega⟩
 ·rw [if_neg ht] at h;exact absurd h ht
theorem yndY {s:SnapV} {p:PodV} {claim:Str} (h:y1pY s p claim=0):y1pY s (moreS p) claim=0/\y1pY s (noneS p) claim=0/\(∀ c,sfitB s (noneS p) c=true)/\∀ c,sfitB s p c=true->sfitB s (moreS p) c=true:=by
 obtain ⟨h1,h2,h3⟩:=begin_parts.1 h
 obtain ⟨k1,k2⟩:=yfhY h2
 refine ⟨begin_parts.2 ⟨h1,yfgY h2 (by simpa using k1) fun x hx=>?_,h3⟩,begin_parts.2 ⟨h1,yfgY h2 (by simp) (by simp),h3⟩,fun c=>rfl,fun c hc=>?_⟩
 ·obtain ⟨y,hy,rfl⟩:=List.mem_map.1 hx
  exact (yfiY (k2 y hy)).1
 ·unfold sfitB moreS at *
  rw [List.all_eq_true] at hc ⊢
  intro x hx
  obtain ⟨y,hy,rfl⟩:=List.mem_map.1 hx
  have h4:=hc y hy
  have h5:=(yfiY (k2 y hy)).2
  unfold fit1B at h4 ⊢
  rw [List.all_eq_true] at h4 ⊢
  intro d hd
  have h6:=h4 d hd
  simp only [decide_eq_true_eq] at h6 ⊢
  omega
theorem yneY {s:SnapV} {p:PodV} {c:ClaimV} {key:Str} (hc:c∈s.claims):(fit1B s p c ⟨key,p.app,1⟩=true↔∀ d∈domsL s key p.app p.name c.name,y1cY s key p.app p.name (domOf key c)<=d.n)/\⟨key,domOf key c,y1cY s key p.app p.name (domOf key c)⟩∈domsL s key p.app p.name c.name:=by
 constructor
 ·unfold fit1B
  rw [List.all_eq_true]
  simp only [if_true,decide_eq_true_eq]
  constructor
  ·intro h d hd;have:=h d hd;omega
  ·intro h d hd;have:=h d hd;omega
 ·unfold domsL
  exact List.mem_map.2 ⟨_,y7qY hc,rfl⟩
def sumI (l:List Int):Int:=l.foldl (·+·) 0
theorem ynfY (l:List Int):∀ a:Int,l.foldl (·+·) a=a+sumI l:=by
 unfold sumI
 induction l with
 | nil=>intro a;simp
 | cons x r ih=>intro a;rw [List.foldl_cons,ih,List.foldl_cons,ih (0+x)];omega
theorem y4hY (x:Int) (l:List Int):sumI (x::l)=x+sumI l:=by
 show (x::l).foldl (·+·) 0=_
 rw [List.foldl_cons,ynfY];omega
theorem yfjY (a b:List Int):sumI (a++b)=sumI a+sumI b:=by
 induction a with
 | nil=>simp [sumI]
 | cons x r ih=>rw [List.cons_append,y4hY,y4hY,ih];omega
theorem yngY {α:Type} {f:α->Option Str} {V:List Str} (hn:V.Nodup) (l:List α) (h:∀ x∈l,∀ v,f x=some v->v∈V):sumI (V.map fun v=>((l.filter fun x=>decide (f x=some v)).length:Int))=(l.filter fun x=>(f x).isSome).length:=by
 induction l with
 | nil =>
   simp only [List.filter_nil,List.length_nil]
   have:∀ V:List Str,sumI (V.map fun _=>((0:Nat):Int))=((0:Nat):Int):=fun V=>by
    induction V with
    | nil=>rfl
    | cons v V ih=>rw [List.map_cons,y4hY,ih];rfl
   exact this V
 | cons x r ih =>
   have ih:=ih fun y hy=>h y (by simp [hy])
   cases hf:f x with
   | none =>
     simp only [List.filter_cons,hf,reduceCtorEq,decide_false,Option.isSome_none,Bool.false_eq_true,if_false]
     exact ih
   | some w =>
     have hw:=h x (by simp) w hf
     simp only [List.filter_cons,hf,Option.isSome_some,if_true,List.length_cons]
     rw [show (((r.filter fun x=>(f x).isSome).length+1:Nat):Int)=1+(r.filter fun x=>(f x).isSome).length by omega,←ih]
     clear ih h
     have key:∀ V:List Str,V.Nodup->(sumI (V.map fun v=>(((if decide (some w=some v)=true then x::r.filter fun x=>decide (f x=some v) else r.filter fun x=>decide (f x=some v)).length:Nat):Int)))=(if w∈V then 1 else 0)+sumI (V.map fun v=>((r.filter fun x=>decide (f x=some v)).length:Int)):=by
      intro V
      induction V with
      | nil=>intro _;rfl
      | cons v V ih =>
        intro hn
        have hn':=List.nodup_cons.1 hn
        rw [List.map_cons,List.map_cons,y4hY,y4hY,ih hn'.2]
        by_cases e:w=v
        ·subst e
         rw [if_neg hn'.1]
         simp<;>omega
        ·have e2:¬(some w=some v):=fun h=>e (Option.some.inj h)
         by_cases hm:w∈V
         ·simp [e,hm]<;>omega
         ·simp [e,hm]<;>omega
     rw [key V hn,if_pos hw]
structure KeyV where
 k:Str
 s:SetV
 deriving DecidableEq
theorem yahY {a b:Str} (h:a<b) (h2:b<a):False:=List.lt_irrefl a (List.lt_trans h h2)
section
variable {α:Type} {κ:α->Str}
def OrdB (κ:α->Str) (l:List α):Prop:=l.Pairwise fun a b=>κ a<κ b
theorem yfkY:∀ {a b:List α},a.Perm b->OrdB κ a->OrdB κ b->a=b
 | [],b,h,_,_=>by simpa using h.symm
 | x::a,[],h,_,_=>by simp at h
 | x::a,y::b,h,ha,hb=>by
   have ha':=List.pairwise_cons.1 ha
   have hb':=List.pairwise_cons.1 hb
   have hxy:x=y:=by
    refine Classical.byContradiction fun hn=>?_
    have h1:x∈b:=by
     rcases List.mem_cons.1 (h.mem_iff.1 (List.mem_cons_self)) with e|e
     ·exact absurd e hn
     ·exact e
    have h2:y∈a:=by
     rcases List.mem_cons.1 (h.mem_iff.2 (List.mem_cons_self)) with e|e
     ·exact absurd e.symm hn
     ·exact e
    exact yahY (ha'.1 y h2) (hb'.1 x h1)
   subst hxy
   rw [yfkY (List.Perm.cons_inv h) ha'.2 hb'.2]
theorem ynhY {l:List α} (h:OrdB κ l):(l.map κ).Nodup:=yffY h
theorem yniY {l:List α} (h:∀ (i j:Nat) x y,i<j->l[i]?=some x->l[j]?=some y->¬κ y<κ x) (hn:(l.map κ).Nodup):OrdB κ l:=by
 unfold OrdB
 rw [List.pairwise_iff_getElem]
 intro i j hi hj hij
 rcases y55Y (κ l[i]) (κ l[j]) with h1|h1|h1
 ·exact h1
 ·have:=(List.pairwise_iff_getElem.1 hn) i j (by simpa using hi) (by simpa using hj) hij
  simp only [List.getElem_map] at this
  exact absurd h1 this
 ·exact absurd h1 (h i j _ _ hij (List.getElem?_eq_getElem hi) (List.getElem?_eq_getElem hj))
end
theorem ynjY {l:List TypeV} {o:OffV} {t:TypeV} {x:OfgV} (h:findC l o=some (t,x)):catE l=0/\t∈l/\x∈t.offs/\t.name=o.t/\x.z=o.z/\x.k=o.k:=by
 unfold findC at h
 split at h
 ·rename_i h0
  unfold findT at h
  obtain ⟨u,hu,h2⟩:=List.exists_of_findSome?_eq_some h
  obtain ⟨y,hy,e⟩:=Option.map_eq_some_iff.1 h2
  simp only [Prod.mk.injEq] at e
  obtain ⟨rfl,rfl⟩:=e
  have h3:=List.find?_some hy
  simp only [Bool.and_eq_true,decide_eq_true_eq] at h3
  exact ⟨h0,hu,List.mem_of_find?_eq_some hy,h3.1,h3.2.1,h3.2.2⟩
 ·simp at h
theorem yflY {n:Int}:amtE n=0↔0<=n/\n<=1125899906842624:=by
 unfold amtE
 split
 ·simp;omega
 ·split
  ·simp;omega
  ·simp;omega
theorem amts_zero {a b:Int}:amtsE a b=0↔(0<=a/\a<=1125899906842624)/\0<=b/\b<=1125899906842624:=by
 unfold amtsE
 rw [←yflY,←yflY]
 constructor
 ·intro h
  split at h
  ·exact ⟨‹_›,h⟩
  ·exact absurd h ‹_›
 ·rintro ⟨h1,h2⟩
  rw [if_pos h1,h2]
theorem fits_iff {a0 a1 b0 b1:Int}:fitsB a0 a1 b0 b1=true↔amtsE a0 a1=0/\amtsE b0 b1=0/\a0<=b0/\a1<=b1:=by
 unfold fitsB
 simp [and_assoc]
end Go.Proofs.AM
