/- Part 17 of the lemmas: AOa, AOb, AOc, AOe, AOf, AOg, AOh. -/
import Derived.Test.YtnbdmjbpgaeacaaGreatDoorC13
import Derived.Test.YtnbdmjbpgaeacaaGreatDoorC15
import Derived.Test.YtnbdmjbpgaeacaaGreatDoorC12
import Derived.Test.YtnbdmjbpgaeacaaGreatDoorC06
set_option maxRecDepth 100000
set_option maxHeartbeats 8000000
set_option linter.all false
namespace Go.Proofs.AM
open Go Go.Lib Cd
theorem yloY (R:Ans) (n:Int):AnsF R c185 [jI n] (jI (amtE n)):=by
 obtain ⟨r,hr⟩:∃ r,r=amtE n:=⟨_,rfl⟩
 rw [←hr]
 refine y2Y ⟨rfl,by decide⟩ fun O hO V hV=>?_
 subst hV
 conv=>cbv
 repeat' (rintro (_|_) h<;>(first|replace h:=ci hO h|replace h:=cs hO h)<;>(dsimp only [CmpI,CmpS] at h)<;>(conv=>cbv))
 all_goals (rw [hr];unfold amtE;(repeat' split)<;>first|rfl|omega)
theorem ylpY (R:Ans) (n:Int):AnsF R c116 [jI n] (jI (amtE n)):=by
 obtain ⟨r,hr⟩:∃ r,r=amtE n:=⟨_,rfl⟩
 rw [←hr]
 refine y2Y ⟨rfl,by decide⟩ fun O hO V hV=>?_
 subst hV
 conv=>cbv
 repeat' (rintro (_|_) h<;>(first|replace h:=ci hO h|replace h:=cs hO h)<;>(dsimp only [CmpI,CmpS] at h)<;>(conv=>cbv))
 all_goals (rw [hr];unfold amtE;(repeat' split)<;>first|rfl|omega)
theorem ylqY (R:Ans) (a b:Int) (h117:∀ n,R.v 116 [jI n] (jI (amtE n))):AnsF R c66 [.agg [jI a,jI b]] (jI (amtsE a b)):=by
 obtain ⟨r,hr⟩:∃ r,r=amtsE a b:=⟨_,rfl⟩
 have k1:=h117 a
 have k2:=h117 b
 rw [←hr]
 unfold amtsE at hr
 obtain ⟨e1,he1⟩:∃ e,e=amtE a:=⟨_,rfl⟩
 obtain ⟨e2,he2⟩:∃ e,e=amtE b:=⟨_,rfl⟩
 rw [←he1] at k1 hr
 rw [←he2] at k2 hr
 refine y2Y ⟨rfl,by decide⟩ fun O hO V hV=>?_
 subst hV
 conv=>cbv
 repeat' (first|(rintro (_|_) h<;>(first|replace h:=ci hO h|replace h:=cs hO h)<;>(dsimp only [CmpI,CmpS] at h)<;>(conv=>cbv))|(refine ⟨_,by assumption,?_⟩;(conv=>cbv)))
 all_goals (rw [hr];(repeat' split)<;>first|rfl|omega)
theorem ylrY (R:Ans) (b:Bool) (e:Int):AnsF R c133 [.bool b,jI e] (jI (wantI b e)):=by
 refine y2Y ⟨rfl,by decide⟩ fun O hO V hV=>?_
 subst hV
 cases b<;>(conv=>cbv)<;>trivial
theorem ylsY (R:Ans) (n lo hi:Int):AnsF R c139 [jI n,jI lo,jI hi] (.bool (btw n lo hi)):=by
 obtain ⟨r,hr⟩:∃ r,r=btw n lo hi:=⟨_,rfl⟩
 rw [←hr]
 refine y2Y ⟨rfl,by decide⟩ fun O hO V hV=>?_
 subst hV
 conv=>cbv
 repeat' (rintro (_|_) h<;>(first|replace h:=ci hO h|replace h:=cs hO h)<;>(dsimp only [CmpI,CmpS] at h)<;>(conv=>cbv))
 all_goals (rw [hr];unfold btw;simp;omega)
theorem yltY (R:Ans) (n lo hi:Int):AnsF R c70 [jI n,jI lo,jI hi] (.bool (btw n lo hi)):=by
 obtain ⟨r,hr⟩:∃ r,r=btw n lo hi:=⟨_,rfl⟩
 rw [←hr]
 refine y2Y ⟨rfl,by decide⟩ fun O hO V hV=>?_
 subst hV
 conv=>cbv
 repeat' (rintro (_|_) h<;>(first|replace h:=ci hO h|replace h:=cs hO h)<;>(dsimp only [CmpI,CmpS] at h)<;>(conv=>cbv))
 all_goals (rw [hr];unfold btw;simp;omega)
theorem yluY (R:Ans) (s:Str) (h89:R.v 184 [mkS s] (.bool (nameB s))):AnsF R c140 [mkS s] (.bool (noneB s)):=by
 obtain ⟨r,hr⟩:∃ r,r=noneB s:=⟨_,rfl⟩
 rw [←hr]
 unfold noneB at hr
 obtain ⟨q,hq⟩:∃ q,q=nameB s:=⟨_,rfl⟩
 rw [←hq] at h89 hr
 clear hq
 refine y2Y ⟨rfl,by decide⟩ fun O hO V hV=>?_
 subst hV
 cases q<;>(conv=>cbv)
 all_goals (repeat' (first|(rintro (_|_) h<;>(first|replace h:=ci hO h|replace h:=cs hO h)<;>(dsimp only [CmpI,CmpS] at h)<;>(conv=>cbv))|(refine ⟨_,by assumption,?_⟩;(conv=>cbv))))
 all_goals (rw [hr];simp [h])
theorem ylvY (R:Ans) (s:Str) (h89:R.v 184 [mkS s] (.bool (nameB s))):AnsF R c183 [mkS s] (.bool (!nameB s)):=by
 obtain ⟨q,hq⟩:∃ q,q=nameB s:=⟨_,rfl⟩
 rw [←hq] at h89 ⊢
 clear hq
 refine y2Y ⟨rfl,by decide⟩ fun O hO V hV=>?_
 subst hV
 conv=>cbv
 refine ⟨_,h89,?_⟩
 cases q<;>(conv=>cbv)<;>trivial
theorem ylwY (R:Ans) (l:List Str) (h121:∀ b:Bool,(b=true↔∃ y∈l,(!nameB y)=true)->R.v 182 [.sl 1 false (l.map mkS),.fn 183 [] []] (.bool b)):AnsF R c134 [.sl 1 false (l.map mkS)] (.bool (l.all nameB)):=by
 obtain ⟨q,hq⟩:∃ q,q=!l.all nameB:=⟨_,rfl⟩
 have k:=h121 q (by rw [hq];simp)
 rw [show l.all nameB=!q by rw [hq];simp]
 clear hq h121
 obtain ⟨xs,hxs⟩:∃ xs,xs=l.map mkS:=⟨_,rfl⟩
 have hcx:CleanL xs:=y8Y yhY hxs
 rw [←hxs] at k ⊢
 refine y2Y ⟨rfl,by decide⟩ fun O hO V hV=>?_
 subst hV
 conv=>cbv
 refine ⟨hcx,_,k,?_⟩
 cases q<;>(conv=>cbv)<;>trivial
theorem ylxY (R:Ans) (o:OffV) (hf:FO o) (h110:∀ s,SL s->R.v 65 [mkS s] (.bool (nameB s))):AnsF R c176 [offD o] (.bool (nmB o)):=by
 obtain ⟨x,y,z⟩:=o
 have k1:=h110 x hf.t
 have k2:=h110 y hf.z
 have k3:=h110 z hf.k
 obtain ⟨r,hr⟩:∃ r,r=nmB ⟨x,y,z⟩:=⟨_,rfl⟩
 rw [←hr]
 unfold nmB at hr
 simp only at hr
 obtain ⟨q1,hq1⟩:∃ q,q=nameB x:=⟨_,rfl⟩
 obtain ⟨q2,hq2⟩:∃ q,q=nameB y:=⟨_,rfl⟩
 obtain ⟨q3,hq3⟩:∃ q,q=nameB z:=⟨_,rfl⟩
 rw [←hq1] at k1 hr
 rw [←hq2] at k2 hr
 rw [←hq3] at k3 hr
 clear hq1 hq2 hq3 h110
 unfold offD
 simp only
 refine y2Y ⟨rfl,by decide⟩ fun O hO V hV=>?_
 subst hV
 cases q1<;>cases q2<;>cases q3<;>(conv=>cbv)
 all_goals (repeat' (refine ⟨_,by assumption,?_⟩;(conv=>cbv)))
 all_goals (rw [hr];rfl)
theorem ylyY (R:Ans) (l:List TolV) (hl:l.length<4611686018427387904) (x:TolV):AnsF R c228 [.sl 3 false (l.map tolD),tolD x] (jI (idxI (fun y=>decide (x=y)) l)):=by
 obtain ⟨xs,hxs⟩:∃ xs,xs=l.map tolD:=⟨_,rfl⟩
 obtain ⟨r,hr⟩:∃ r,r=idxI (fun y=>decide (x=y)) l:=⟨_,rfl⟩
 rw [←hxs,←hr]
 refine y2Y ⟨rfl,by decide⟩ fun O hO V hV=>?_
 subst hV
 have hlen:O .len xs=l.length:=by rw [o_len hO,hxs];simp
 conv=>cbv
 refine y4Y (fun n d=>∃ (i:Int) (k:Nat),d=⟨[(0,.sl 3 false xs),(3,.ptr 3 1 0),(7,jI (O .len xs)),(8,jI i)],[(3,⟨1,.rw,.var,[mkS x.k,mkS x.v,.bool x.y]⟩)],false⟩/\i=k/\k<=l.length/\n=l.length-k/\∀ j y,j<k->l[j]?=some y->decide (x=y)=false) ⟨_,_,⟨_,0,rfl,rfl,by omega,rfl,by simp⟩,⟨⟨rfl,rfl,rfl,rfl,trivial⟩,⟨rfl,trivial⟩,rfl⟩⟩ ?_
 rintro J up n d ⟨i,k,rfl,hi,hk,rfl,hno⟩
 conv=>cbv
 rintro (_|_) h1
 ·replace h1:=f_lss hO h1
  rw [hlen] at h1
  conv=>cbv
  rw [hr,y32Y fun y hy=>by
   obtain ⟨j,hj⟩:=List.mem_iff_getElem?.1 hy
   exact hno j y (by have:=(List.getElem?_eq_some_iff.1 hj).1;omega) hj]
 ·replace h1:=t_lss hO h1
  rw [hlen] at h1
  obtain ⟨y,hy⟩:∃ y,l[k]?=some y:=⟨_,List.getElem?_eq_getElem (by omega)⟩
  conv=>cbv
  refine ⟨tolD y,y7Y hy hxs hi,?_⟩
  conv=>cbv
  intro t ht
  replace ht:=yexY hO ht
  cases t with
  | false =>
    conv=>cbv
    refine ⟨_,_,up _ _ ⟨_,k+1,rfl,?_,by omega,rfl,?_⟩,⟨⟨rfl,rfl,rfl,rfl,trivial⟩,⟨rfl,trivial⟩,rfl⟩,by omega⟩
    ·rw [y0Y hO (by omega) (by omega)];omega
    ·exact y1mY hno hy ht.symm
  | true =>
    conv=>cbv
    rw [hr,y33Y hy ht.symm hno,hi]
theorem ylzY (R:Ans) (l:List OffV) (hl:l.length<4611686018427387904) (x:OffV):AnsF R c263 [.sl 3 false (l.map offD),offD x] (jI (idxI (fun y=>decide (x=y)) l)):=by
 obtain ⟨xs,hxs⟩:∃ xs,xs=l.map offD:=⟨_,rfl⟩
 obtain ⟨r,hr⟩:∃ r,r=idxI (fun y=>decide (x=y)) l:=⟨_,rfl⟩
 rw [←hxs,←hr]
 refine y2Y ⟨rfl,by decide⟩ fun O hO V hV=>?_
 subst hV
 have hlen:O .len xs=l.length:=by rw [o_len hO,hxs];simp
 conv=>cbv
 refine y4Y (fun n d=>∃ (i:Int) (k:Nat),d=⟨[(0,.sl 3 false xs),(3,.ptr 3 1 0),(7,jI (O .len xs)),(8,jI i)],[(3,⟨1,.rw,.var,[mkS x.t,mkS x.z,mkS x.k]⟩)],false⟩/\i=k/\k<=l.length/\n=l.length-k/\∀ j y,j<k->l[j]?=some y->decide (x=y)=false) ⟨_,_,⟨_,0,rfl,rfl,by omega,rfl,by simp⟩,⟨⟨rfl,rfl,rfl,rfl,trivial⟩,⟨rfl,trivial⟩,rfl⟩⟩ ?_
 rintro J up n d ⟨i,k,rfl,hi,hk,rfl,hno⟩
 conv=>cbv
 rintro (_|_) h1
 ·replace h1:=f_lss hO h1
  rw [hlen] at h1
  conv=>cbv
  rw [hr,y32Y fun y hy=>by
   obtain ⟨j,hj⟩:=List.mem_iff_getElem?.1 hy
   exact hno j y (by have:=(List.getElem?_eq_some_iff.1 hj).1;omega) hj]
 ·replace h1:=t_lss hO h1
  rw [hlen] at h1
  obtain ⟨y,hy⟩:∃ y,l[k]?=some y:=⟨_,List.getElem?_eq_getElem (by omega)⟩
  conv=>cbv
  refine ⟨offD y,y7Y hy hxs hi,?_⟩
  conv=>cbv
  intro t ht
  replace ht:=yewY hO ht
  cases t with
  | false =>
    conv=>cbv
    refine ⟨_,_,up _ _ ⟨_,k+1,rfl,?_,by omega,rfl,?_⟩,⟨⟨rfl,rfl,rfl,rfl,trivial⟩,⟨rfl,trivial⟩,rfl⟩,by omega⟩
    ·rw [y0Y hO (by omega) (by omega)];omega
    ·exact y1mY hno hy ht.symm
  | true =>
    conv=>cbv
    rw [hr,y33Y hy ht.symm hno,hi]
theorem ym0Y (R:Ans) (l:List TolV) (x:TolV) (hI:R.v 228 [.sl 3 false (l.map tolD),tolD x] (jI (idxI (fun y=>decide (x=y)) l))):AnsF R c188 [.sl 3 false (l.map tolD),tolD x] (.bool (l.any fun y=>decide (x=y))):=by
 obtain ⟨xs,hxs⟩:∃ xs,xs=l.map tolD:=⟨_,rfl⟩
 have hcx:CleanL xs:=y8Y (fun _=>⟨rfl,rfl⟩) hxs
 obtain ⟨r,hr⟩:∃ r,r=l.any fun y=>decide (x=y):=⟨_,rfl⟩
 have hn:=y3mY (fun y=>decide (x=y)) l
 obtain ⟨n,hn'⟩:∃ n,n=idxI (fun y=>decide (x=y)) l:=⟨_,rfl⟩
 rw [←hn'] at hI hn
 rw [←hxs] at hI ⊢
 rw [←hr] at hn ⊢
 refine y2Y ⟨rfl,by decide⟩ fun O hO V hV=>?_
 subst hV
 conv=>cbv
 refine ⟨hcx,_,hI,?_⟩
 conv=>cbv
 rintro (_|_) h<;>replace h:=ci hO h<;>dsimp only [CmpI] at h<;>(conv=>cbv)
 all_goals (cases r<;>first|rfl|(simp at hn;omega))
theorem ym1Y (R:Ans) (l:List OffV) (x:OffV) (hI:R.v 263 [.sl 3 false (l.map offD),offD x] (jI (idxI (fun y=>decide (x=y)) l))):AnsF R c245 [.sl 3 false (l.map offD),offD x] (.bool (l.any fun y=>decide (x=y))):=by
 obtain ⟨xs,hxs⟩:∃ xs,xs=l.map offD:=⟨_,rfl⟩
 have hcx:CleanL xs:=y8Y (fun _=>⟨rfl,rfl⟩) hxs
 obtain ⟨r,hr⟩:∃ r,r=l.any fun y=>decide (x=y):=⟨_,rfl⟩
 have hn:=y3mY (fun y=>decide (x=y)) l
 obtain ⟨n,hn'⟩:∃ n,n=idxI (fun y=>decide (x=y)) l:=⟨_,rfl⟩
 rw [←hn'] at hI hn
 rw [←hxs] at hI ⊢
 rw [←hr] at hn ⊢
 refine y2Y ⟨rfl,by decide⟩ fun O hO V hV=>?_
 subst hV
 conv=>cbv
 refine ⟨hcx,_,hI,?_⟩
 conv=>cbv
 rintro (_|_) h<;>replace h:=ci hO h<;>dsimp only [CmpI] at h<;>(conv=>cbv)
 all_goals (cases r<;>first|rfl|(simp at hn;omega))
theorem yf7Y (R:Ans) (f:Nat) (p:LabV->Bool) (l:List LabV) (hl:l.length<4611686018427387904) (x:LabV) (hp:∀ y∈l,R.v f [labD y,.vptr (labD x) 0] (.bool (p y))):AnsF R c235 [.sl 2 false (l.map labD),.fn f [] [.vptr (labD x) 0]] (jI (idxI p l)):=by
 obtain ⟨xs,hxs⟩:∃ xs,xs=l.map labD:=⟨_,rfl⟩
 obtain ⟨r,hr⟩:∃ r,r=idxI p l:=⟨_,rfl⟩
 rw [←hxs,←hr]
 refine y2Y ⟨rfl,by decide⟩ fun O hO V hV=>?_
 subst hV
 have hlen:O .len xs=l.length:=by rw [o_len hO,hxs];simp
 conv=>cbv
 refine y4Y (fun n d=>∃ (i:Int) (k:Nat),d=⟨[(0,.sl 2 false xs),(1,.fn f [] [.vptr (labD x) 0]),(7,jI (O .len xs)),(8,jI i)],[],false⟩/\i=k/\k<=l.length/\n=l.length-k/\∀ j y,j<k->l[j]?=some y->p y=false) ⟨_,_,⟨_,0,rfl,rfl,by omega,rfl,by simp⟩,⟨⟨rfl,rfl,rfl,rfl,trivial⟩,trivial,rfl⟩⟩ ?_
 rintro J up n d ⟨i,k,rfl,hi,hk,rfl,hno⟩
 conv=>cbv
 rintro (_|_) h1
 ·replace h1:=f_lss hO h1
  rw [hlen] at h1
  conv=>cbv
  rw [hr,y32Y fun y hy=>by
   obtain ⟨j,hj⟩:=List.mem_iff_getElem?.1 hy
   exact hno j y (by have:=(List.getElem?_eq_some_iff.1 hj).1;omega) hj]
 ·replace h1:=t_lss hO h1
  rw [hlen] at h1
  obtain ⟨y,hy⟩:∃ y,l[k]?=some y:=⟨_,List.getElem?_eq_getElem (by omega)⟩
  have hc:=hp y (List.mem_of_getElem? hy)
  obtain ⟨q,hq⟩:∃ q,q=p y:=⟨_,rfl⟩
  rw [←hq] at hc
  conv=>cbv
  refine ⟨labD y,y7Y hy hxs hi,?_⟩
  conv=>cbv
  refine ⟨⟨rfl,rfl⟩,_,hc,?_⟩
  conv=>cbv
  cases q with
  | false =>
    conv=>cbv
    refine ⟨_,_,up _ _ ⟨_,k+1,rfl,?_,by omega,rfl,?_⟩,⟨⟨rfl,rfl,rfl,rfl,trivial⟩,trivial,rfl⟩,by omega⟩
    ·rw [y0Y hO (by omega) (by omega)];omega
    ·exact y1mY hno hy hq.symm
  | true =>
    conv=>cbv
    rw [hr,y33Y hy hq.symm hno,hi]
theorem yf8Y (R:Ans) (f:Nat) (p:LabV->Bool) (l:List LabV) (x:LabV) (hI:R.v 235 [.sl 2 false (l.map labD),.fn f [] [.vptr (labD x) 0]] (jI (idxI p l))):AnsF R c195 [.sl 2 false (l.map labD),.fn f [] [.vptr (labD x) 0]] (.bool (l.any p)):=by
 obtain ⟨xs,hxs⟩:∃ xs,xs=l.map labD:=⟨_,rfl⟩
 have hcx:CleanL xs:=y8Y (fun _=>⟨rfl,rfl⟩) hxs
 obtain ⟨r,hr⟩:∃ r,r=l.any p:=⟨_,rfl⟩
 have hn:=y3mY p l
 obtain ⟨n,hn'⟩:∃ n,n=idxI p l:=⟨_,rfl⟩
 rw [←hn'] at hI hn
 rw [←hxs] at hI ⊢
 rw [←hr] at hn ⊢
 refine y2Y ⟨rfl,by decide⟩ fun O hO V hV=>?_
 subst hV
 conv=>cbv
 refine ⟨hcx,⟨rfl,rfl⟩,_,hI,?_⟩
 conv=>cbv
 rintro (_|_) h<;>replace h:=ci hO h<;>dsimp only [CmpI] at h<;>(conv=>cbv)
 all_goals (cases r<;>first|rfl|(simp at hn;omega))
def iD (n:Int):D:=jI n
theorem ym2Y (R:Ans) (l:List Int) (hl:l.length<4611686018427387904):AnsF R c132 [.sl 1 false (l.map iD)] (jI (y3Y l)):=by
 obtain ⟨xs,hxs⟩:∃ xs,xs=l.map iD:=⟨_,rfl⟩
 obtain ⟨r,hr⟩:∃ r,r=y3Y l:=⟨_,rfl⟩
 rw [←hxs,←hr]
 refine y2Y ⟨rfl,by decide⟩ fun O hO V hV=>?_
 subst hV
 have hlen:O .len xs=l.length:=by rw [o_len hO,hxs];simp
 conv=>cbv
 refine y4Y (fun n d=>∃ (i:Int) (k:Nat),d=⟨[(5,.sl 1 false xs),(6,jI (O .len xs)),(7,jI i)],[],false⟩/\i=k/\k<=l.length/\n=l.length-k/\∀ (j:Nat) y,j<k->l[j]?=some y->y=0) ⟨_,_,⟨_,0,rfl,rfl,by omega,rfl,by simp⟩,⟨⟨rfl,rfl,rfl,trivial⟩,trivial,rfl⟩⟩ ?_
 rintro J up n d ⟨i,k,rfl,hi,hk,rfl,hno⟩
 conv=>cbv
 rintro (_|_) h1
 ·replace h1:=f_lss hO h1
  rw [hlen] at h1
  conv=>cbv
  rw [hr,y5aY fun y hy=>by
   obtain ⟨j,hj⟩:=List.mem_iff_getElem?.1 hy
   exact hno j y (by have:=(List.getElem?_eq_some_iff.1 hj).1;omega) hj]
 ·replace h1:=t_lss hO h1
  rw [hlen] at h1
  obtain ⟨y,hy⟩:∃ y,l[k]?=some y:=⟨_,List.getElem?_eq_getElem (by omega)⟩
  conv=>cbv
  refine ⟨iD y,y7Y hy hxs hi,?_⟩
  conv=>cbv
  rintro (_|_) h2
  ·replace h2:=f_neq hO h2
   conv=>cbv
   refine ⟨_,_,up _ _ ⟨_,k+1,rfl,?_,by omega,rfl,?_⟩,⟨⟨rfl,rfl,rfl,trivial⟩,trivial,rfl⟩,by omega⟩
   ·rw [y0Y hO (by omega) (by omega)];omega
   ·intro j z hj hz
    rcases Nat.lt_succ_iff_lt_or_eq.1 hj with h3|rfl
    ·exact hno j z h3 hz
    ·rw [hy] at hz;simp only [Option.some.injEq] at hz;rw [←hz,h2]
  ·replace h2:=t_neq hO h2
   conv=>cbv
   rw [hr,y7jY hy h2 hno]
theorem ym3Y (R:Ans) (a b:Int) (h62:∀ n,R.v 185 [jI n] (jI (amtE n))):AnsF R c135 [.agg [jI a,jI b]] (jI (amtsE a b)):=by
 obtain ⟨r,hr⟩:∃ r,r=amtsE a b:=⟨_,rfl⟩
 have k1:=h62 a
 have k2:=h62 b
 rw [←hr]
 unfold amtsE at hr
 obtain ⟨e1,he1⟩:∃ e,e=amtE a:=⟨_,rfl⟩
 obtain ⟨e2,he2⟩:∃ e,e=amtE b:=⟨_,rfl⟩
 rw [←he1] at k1 hr
 rw [←he2] at k2 hr
 refine y2Y ⟨rfl,by decide⟩ fun O hO V hV=>?_
 subst hV
 conv=>cbv
 refine y4Y (fun n d=>∃ (i:Int) (k:Nat),d=⟨[(6,.agg [jI a,jI b]),(7,jI i)],[],false⟩/\i=k/\k<=2/\n=2-k/\(1<=k->e1=0)/\(2<=k->e2=0)) ⟨_,_,⟨_,0,rfl,rfl,by omega,rfl,by omega,by omega⟩,⟨⟨rfl,rfl,trivial⟩,trivial,rfl⟩⟩ ?_
 rintro J up n d ⟨i,k,rfl,hi,hk,rfl,hn1,hn2⟩
 rcases (by omega:k=0∨k=1∨k=2) with rfl|rfl|rfl
 ·obtain rfl:i=0:=by omega
  conv=>cbv
  rintro (_|_) h1
  ·conv=>cbv
   exfalso;have:=f_lss hO h1;omega
  conv=>cbv
  refine ⟨_,k1,?_⟩
  conv=>cbv
  rintro (_|_) h2
  ·replace h2:=f_neq hO h2
   conv=>cbv
   refine ⟨_,_,up _ _ ⟨_,1,rfl,?_,by omega,rfl,fun _=>h2,fun h=>absurd h (by omega)⟩,⟨⟨rfl,rfl,trivial⟩,trivial,rfl⟩,by omega⟩
   rw [y0Y hO (by omega) (by omega)];omega
  ·replace h2:=t_neq hO h2
   conv=>cbv
   rw [hr,if_neg h2]
 ·obtain rfl:i=1:=by omega
  conv=>cbv
  rintro (_|_) h1
  ·conv=>cbv
   exfalso;have:=f_lss hO h1;omega
  conv=>cbv
  refine ⟨_,k2,?_⟩
  conv=>cbv
  rintro (_|_) h2
  ·replace h2:=f_neq hO h2
   conv=>cbv
   refine ⟨_,_,up _ _ ⟨_,2,rfl,?_,by omega,rfl,fun _=>hn1 (by omega),fun _=>h2⟩,⟨⟨rfl,rfl,trivial⟩,trivial,rfl⟩,by omega⟩
   rw [y0Y hO (by omega) (by omega)];omega
  ·replace h2:=t_neq hO h2
   conv=>cbv
   rw [hr,if_pos (hn1 (by omega))]
 ·obtain rfl:i=2:=by omega
  conv=>cbv
  rintro (_|_) h1
  ·conv=>cbv
   rw [hr,hn1 (by omega),hn2 (by omega)];rfl
  ·conv=>cbv
   exfalso;have:=t_lss hO h1;omega
noncomputable def setsL (most:Nat) (l:List ReqV):List SetV:=if reqsE most l=0 then l.map ofSet else []
theorem ym4Y (s:SetV):Clean (setD s):=by
 have:=y8Y yhY (l:=s.l) rfl
 exact ⟨by simp [setD,closed,closedL,this.c],by simp [setD,strip,stripL,this.s]⟩
theorem y3oY (r:ReqV):Clean (reqD r):=by
 have:=y8Y yhY (l:=r.l) rfl
 exact ⟨by simp [reqD,mkS,closed,closedL,this.c],by simp [reqD,mkS,strip,stripL,this.s]⟩
theorem ym5Y (R:Ans) (l:List ReqV) (hl:l.length<=8796093022208) (hF:∀ q∈l,FR q) (most:Nat) (hm:most<=16) (h180:∀ q,FR q->R.v 226 [reqD q] (.tup [setD (ofSet q),jI (ysY q)])) :
 AnsF R c186 [.sl 4 false (l.map reqD),jI most] (.tup [.sl 6 false ((setsL most l).map setD),jI (reqsE most l)]):=by
 obtain ⟨xs,hxs⟩:∃ xs,xs=l.map reqD:=⟨_,rfl⟩
 have hcx:CleanL xs:=y8Y y3oY hxs
 obtain ⟨rs,hrs⟩:∃ rs,rs=(setsL most l).map setD:=⟨_,rfl⟩
 obtain ⟨e,he⟩:∃ e,e=reqsE most l:=⟨_,rfl⟩
 unfold setsL at hrs
 rw [←he] at hrs
 rw [show (setsL most l).map setD=rs by rw [hrs,he];rfl,←hxs,←he]
 unfold reqsE tooE at he
 obtain ⟨mo,hmo⟩:∃ m:Int,m=most:=⟨_,rfl⟩
 rw [←hmo]
 refine y2Y ⟨rfl,by decide⟩ fun O hO V hV=>?_
 subst hV
 have hlen:O .len xs=l.length:=by rw [o_len hO,hxs];simp
 conv=>cbv
 rintro (_|_) h0
 ·replace h0:=f_gtr hO h0
  rw [hlen] at h0
  have hr:e=scanE (atE ysY l) l.length:=by rw [he,if_neg (by omega)]
  conv=>cbv
  refine y4Y (fun n d=>∃ (i:Int) (k g:Nat) (ac:List D),d=⟨[(6,.own 99 g),(15,.sl 4 false xs),(16,jI (O .len xs)),(17,jI i)],[(99,⟨g,.rw,.arr 6 192,ac⟩)],false⟩/\i=k/\k<=l.length/\n=l.length-k/\ac=((l.take k).map ofSet).map setD/\∀ j,j<k->atE ysY l j=0) ⟨_,_,⟨_,0,_,_,rfl,rfl,by omega,rfl,by simp,by simp⟩,⟨⟨rfl,rfl,rfl,rfl,trivial⟩,⟨rfl,trivial⟩,rfl⟩⟩ ?_
  rintro J up n d ⟨i,k,g,ac,rfl,hi,hk,rfl,hac,hno⟩
  have hca:CleanL ac:=y8Y ym4Y hac
  conv=>cbv
  rintro (_|_) h1
  ·replace h1:=f_lss hO h1
   rw [hlen] at h1
   conv=>cbv
   have e0:e=0:=by rw [hr,ywY (fun j hj=>hno j (by omega))]
   have:ac=rs:=by rw [hac,hrs,if_pos e0,List.take_of_length_le (by omega)]
   rw [this] at hca
   rw [this,e0]
   exact ⟨hca,rfl⟩
  ·replace h1:=t_lss hO h1
   rw [hlen] at h1
   conv=>cbv
   obtain ⟨y,hy⟩:∃ y,l[k]?=some y:=⟨_,List.getElem?_eq_getElem (by omega)⟩
   have hc:=h180 y (hF y (List.mem_of_getElem? hy))
   have hg:atE ysY l k=_:=y2pY hy
   obtain ⟨w,hw⟩:∃ w,w=ysY y:=⟨_,rfl⟩
   obtain ⟨S,hS⟩:∃ S,S=ofSet y:=⟨_,rfl⟩
   rw [←hw] at hc hg
   rw [←hS] at hc
   obtain ⟨ss,hss⟩:∃ ss,ss=S.l.map mkS:=⟨_,rfl⟩
   have hcs:CleanL ss:=y8Y yhY hss
   unfold setD at hc
   rw [←hss] at hc
   have hat:atX xs i (reqD y):=y7Y hy hxs hi
   have hst:setD S=.agg [.bool S.m,.bool S.n,.bool S.u,.sl 1 false ss,jI S.lo,jI S.hi]:=by rw [hss];rfl
   obtain ⟨sm,sn,su,sl,slo,shi⟩:=S
   simp only at hc hst
   obtain ⟨ykey,yop,yl,yn⟩:=y
   unfold reqD at hat hc
   simp only at hat hc
   obtain ⟨ys,hys⟩:∃ ss,ss=yl.map mkS:=⟨_,rfl⟩
   have hcy:CleanL ys:=y8Y yhY hys
   rw [←hys] at hat hc
   refine ⟨_,hat,?_⟩
   conv=>cbv
   intro g8
   conv=>cbv
   refine ⟨hcy,_,hc,?_⟩
   conv=>cbv
   intro g9
   conv=>cbv
   rintro (_|_) h2
   ·replace h2:=f_neq hO h2
    conv=>cbv
    intro g31
    conv=>cbv
    have hl1:O .len [D.agg [.bool sm,.bool sn,.bool su,.sl 1 false ss,jI slo,jI shi]]=1:=by rw [o_len hO];rfl
    have hla:O .len ac=k:=by rw [o_len hO,hac];simp;omega
    refine ⟨⟨by simp [closedL,closed,hcs.c]⟩,⟨by show (O .len ac+O .len [D.agg [.bool sm,.bool sn,.bool su,.sl 1 false ss,jI slo,jI shi]])*((48:Nat):Int)<=_;rw [hl1,hla];omega⟩,?_⟩
    exact ⟨_,_,up _ _ ⟨_,k+1,g+1,O .app ac [D.agg [.bool sm,.bool sn,.bool su,.sl 1 false ss,jI slo,jI shi]],rfl,by rw [y0Y hO (by omega) (by omega)];omega,by omega,rfl,by rw [o_app hO,hac,←hst,hS,List.take_add_one,hy];simp,yjY hno (by rw [hg,h2])⟩,⟨⟨rfl,rfl,rfl,rfl,trivial⟩,⟨rfl,trivial⟩,rfl⟩,by omega⟩
   ·replace h2:=t_neq hO h2
    conv=>cbv
    have e0:e=w:=by rw [hr];exact yfY (by omega) hno hg.symm h2
    have:rs=[]:=by rw [hrs,if_neg (by rw [e0];exact h2)];rfl
    rw [this,e0]
    exact ⟨⟨rfl,rfl⟩,rfl⟩
 ·replace h0:=t_gtr hO h0
  rw [hlen] at h0
  conv=>cbv
  have e3:e=3:=by rw [he,if_pos (by omega)]
  have:rs=[]:=by rw [hrs,if_neg (by omega)];rfl
  rw [this,e3]
  exact ⟨⟨rfl,rfl⟩,rfl⟩
theorem ym6Y (R:Ans) (l:List ReqV) (h84:R.v 186 [.sl 4 false (l.map reqD),jI 8] (.tup [.sl 6 false ((setsL 8 l).map setD),jI (reqsE 8 l)])):AnsF R c136 [.sl 4 false (l.map reqD)] (jI (reqsE 8 l)):=by
 obtain ⟨xs,hxs⟩:∃ xs,xs=l.map reqD:=⟨_,rfl⟩
 have hcx:CleanL xs:=y8Y y3oY hxs
 obtain ⟨rs,hrs⟩:∃ rs,rs=(setsL 8 l).map setD:=⟨_,rfl⟩
 obtain ⟨e,he⟩:∃ e,e=reqsE 8 l:=⟨_,rfl⟩
 rw [←hxs,←he]
 rw [←hxs,←he,←hrs] at h84
 refine y2Y ⟨rfl,by decide⟩ fun O hO V hV=>?_
 subst hV
 conv=>cbv
 refine ⟨hcx,_,h84,?_⟩
 conv=>cbv
 trivial
theorem ym7Y (R:Ans) (l:List ReqV) (hl:l.length<=8796093022208) (hF:∀ q∈l,FR q) (h93:∀ q,FR q->R.v 172 [reqD q] (.tup [setD (ofSet q),jI (ysY q)])) :
 AnsF R c117 [.sl 4 false (l.map reqD)] (jI (scanE (atE ysY l) l.length)):=by
 obtain ⟨xs,hxs⟩:∃ xs,xs=l.map reqD:=⟨_,rfl⟩
 have hcx:CleanL xs:=y8Y y3oY hxs
 obtain ⟨r,hr⟩:∃ e,e=scanE (atE ysY l) l.length:=⟨_,rfl⟩
 rw [←hxs,←hr]
 refine y2Y ⟨rfl,by decide⟩ fun O hO V hV=>?_
 subst hV
 have hlen:O .len xs=l.length:=by rw [o_len hO,hxs];simp
 conv=>cbv
 refine y4Y (fun n d=>∃ (i:Int) (k:Nat),d=⟨[(0,.sl 4 false xs),(3,jI i)],[],false⟩/\i=k/\k<=l.length/\n=l.length-k/\∀ j,j<k->atE ysY l j=0) ⟨_,_,⟨_,0,rfl,rfl,by omega,rfl,by simp⟩,⟨⟨rfl,rfl,trivial⟩,trivial,rfl⟩⟩ ?_
 rintro J up n d ⟨i,k,rfl,hi,hk,rfl,hno⟩
 conv=>cbv
 rintro (_|_) h1
 ·replace h1:=f_lss hO h1
  rw [hlen] at h1
  conv=>cbv
  rw [hr,ywY (fun j hj=>hno j (by omega))]
 ·replace h1:=t_lss hO h1
  rw [hlen] at h1
  obtain ⟨y,hy⟩:∃ y,l[k]?=some y:=⟨_,List.getElem?_eq_getElem (by omega)⟩
  have hc:=h93 y (hF y (List.mem_of_getElem? hy))
  have hg:atE ysY l k=_:=y2pY hy
  obtain ⟨w,hw⟩:∃ w,w=ysY y:=⟨_,rfl⟩
  obtain ⟨S,hS⟩:∃ S,S=ofSet y:=⟨_,rfl⟩
  rw [←hw] at hc hg
  rw [←hS] at hc
  obtain ⟨ss,hss⟩:∃ ss,ss=S.l.map mkS:=⟨_,rfl⟩
  unfold setD at hc
  rw [←hss] at hc
  have hat:atX xs i (reqD y):=y7Y hy hxs hi
  obtain ⟨ykey,yop,yl,yn⟩:=y
  unfold reqD at hat hc
  simp only at hat hc
  obtain ⟨ys,hys⟩:∃ ss,ss=yl.map mkS:=⟨_,rfl⟩
  have hcy:CleanL ys:=y8Y yhY hys
  rw [←hys] at hat hc
  conv=>cbv
  refine ⟨_,hat,?_⟩
  conv=>cbv
  refine ⟨hcy,_,hc,?_⟩
  conv=>cbv
  intro g9
  conv=>cbv
  rintro (_|_) h2
  ·replace h2:=f_neq hO h2
   conv=>cbv
   exact ⟨_,_,up _ _ ⟨_,k+1,rfl,by rw [y0Y hO (by omega) (by omega)];omega,by omega,rfl,yjY hno (by rw [hg,h2])⟩,⟨⟨rfl,rfl,trivial⟩,trivial,rfl⟩,by omega⟩
  ·replace h2:=t_neq hO h2
   conv=>cbv
   exact (by rw [hr];exact congrArg (D.int .i64) (yfY (by omega) hno hg.symm h2).symm)
theorem ym8Y (R:Ans) (l:List ReqV) (h91:R.v 117 [.sl 4 false (l.map reqD)] (jI (scanE (atE ysY l) l.length))):AnsF R c67 [.sl 4 false (l.map reqD)] (jI (reqsE 8 l)):=by
 obtain ⟨xs,hxs⟩:∃ xs,xs=l.map reqD:=⟨_,rfl⟩
 have hcx:CleanL xs:=y8Y y3oY hxs
 obtain ⟨e,he⟩:∃ e,e=reqsE 8 l:=⟨_,rfl⟩
 obtain ⟨r,hr⟩:∃ e,e=scanE (atE ysY l) l.length:=⟨_,rfl⟩
 rw [←hxs,←he]
 rw [←hxs,←hr] at h91
 unfold reqsE tooE at he
 rw [←hr] at he
 refine y2Y ⟨rfl,by decide⟩ fun O hO V hV=>?_
 subst hV
 have hlen:O .len xs=l.length:=by rw [o_len hO,hxs];simp
 conv=>cbv
 rintro (_|_) h0
 ·replace h0:=f_gtr hO h0
  rw [hlen] at h0
  conv=>cbv
  refine ⟨hcx,_,h91,?_⟩
  conv=>cbv
  rw [he,if_neg (by omega)]
 ·replace h0:=t_gtr hO h0
  rw [hlen] at h0
  conv=>cbv
  rw [he,if_pos (by omega)]
theorem ym9Y (R:Ans) (k a:Str) (ha:SL a) (h55:∀ l:List Str,FL l->R.v 134 [.sl 1 false (l.map mkS)] (.bool (l.all nameB))) (h54:∀ (b:Bool) (e:Int),R.v 133 [.bool b,jI e] (jI (wantI b e))) (h53:∀ l:List Int,l.length<4611686018427387904->R.v 132 [.sl 1 false (l.map iD)] (jI (y3Y l))) :
 AnsF R c189 [mkS k,mkS a] (jI (termE k a)):=by
 have hk1:=h55 [a] ⟨by simp,by simpa using ha⟩
 obtain ⟨q,hq⟩:∃ q,q=nameB a:=⟨_,rfl⟩
 rw [show [a].all nameB=q by rw [hq];simp] at hk1
 have w0:=h54 q 7
 have w1:=h54 true 1
 have w2:=h54 false 1
 have f1:=h53 [wantI true 1,wantI q 7] (by simp)
 have f2:=h53 [wantI false 1,wantI q 7] (by simp)
 obtain ⟨r,hr⟩:∃ r,r=termE k a:=⟨_,rfl⟩
 rw [←hr]
 unfold termE at hr
 rw [←hq] at hr
 clear hq h55 h54 h53
 refine y2Y ⟨rfl,by decide⟩ fun O hO V hV=>?_
 subst hV
 cases q<;>simp only [y1dY,y4dY,List.map] at w0 w1 w2 f1 f2 hk1<;>conv=>cbv
 all_goals (repeat' (first|(rintro (_|_) h<;>(first|replace h:=ci hO h|replace h:=cs hO h)<;>(dsimp only [CmpI,CmpS] at h)<;>(conv=>cbv))|(refine ⟨_,by assumption,?_⟩;(conv=>cbv))|(refine And.intro (by first|assumption|exact ⟨rfl⟩|exact ⟨rfl,rfl⟩) ?_)))
 all_goals (rw [hr];simp_all [zoneS,hostS,ycY])
theorem ymaY (R:Ans) (x y:LabV):AnsF R c244 [labD x,.vptr (labD y) 0] (.bool (decide (x.k=y.k))):=by
 obtain ⟨r,hr⟩:∃ r,r=decide (x.k=y.k):=⟨_,rfl⟩
 rw [←hr]
 refine y2Y ⟨rfl,by decide⟩ fun O hO V hV=>?_
 subst hV
 conv=>cbv
 rintro (_|_) h
 ·replace h:x.k≠y.k:=y3iY hO h
  conv=>cbv
  rw [hr];simp [h]
 ·replace h:x.k=y.k:=y3hY hO h
  conv=>cbv
  rw [hr];simp [h]
theorem ymbY (R:Ans) (l:List Int) (hl:l.length<4611686018427387904):AnsF R c208 [.sl 1 false (l.map iD)] (jI (y3Y l)):=by
 obtain ⟨xs,hxs⟩:∃ xs,xs=l.map iD:=⟨_,rfl⟩
 obtain ⟨r,hr⟩:∃ r,r=y3Y l:=⟨_,rfl⟩
 rw [←hxs,←hr]
 refine y2Y ⟨rfl,by decide⟩ fun O hO V hV=>?_
 subst hV
 have hlen:O .len xs=l.length:=by rw [o_len hO,hxs];simp
 conv=>cbv
 refine y4Y (fun n d=>∃ (i:Int) (k:Nat),d=⟨[(3,jI 0),(6,.sl 1 false xs),(7,jI (O .len xs)),(8,jI i)],[],false⟩/\i=k/\k<=l.length/\n=l.length-k/\∀ (j:Nat) y,j<k->l[j]?=some y->y=0) ⟨_,_,⟨_,0,rfl,rfl,by omega,rfl,by simp⟩,⟨⟨rfl,rfl,rfl,rfl,trivial⟩,trivial,rfl⟩⟩ ?_
 rintro J up n d ⟨i,k,rfl,hi,hk,rfl,hno⟩
 conv=>cbv
 rintro (_|_) h1
 ·replace h1:=f_lss hO h1
  rw [hlen] at h1
  conv=>cbv
  rw [hr,y5aY fun y hy=>by
   obtain ⟨j,hj⟩:=List.mem_iff_getElem?.1 hy
   exact hno j y (by have:=(List.getElem?_eq_some_iff.1 hj).1;omega) hj]
 ·replace h1:=t_lss hO h1
  rw [hlen] at h1
  obtain ⟨y,hy⟩:∃ y,l[k]?=some y:=⟨_,List.getElem?_eq_getElem (by omega)⟩
  conv=>cbv
  refine ⟨iD y,y7Y hy hxs hi,?_⟩
  conv=>cbv
  rintro (_|_) h2
  ·replace h2:=f_neq hO h2
   conv=>cbv
   refine ⟨_,_,up _ _ ⟨_,k+1,rfl,?_,by omega,rfl,?_⟩,⟨⟨rfl,rfl,rfl,rfl,trivial⟩,trivial,rfl⟩,by omega⟩
   ·rw [y0Y hO (by omega) (by omega)];omega
   ·intro j z hj hz
    rcases Nat.lt_succ_iff_lt_or_eq.1 hj with h3|rfl
    ·exact hno j z h3 hz
    ·rw [hy] at hz;simp only [Option.some.injEq] at hz;rw [←hz,h2]
  ·replace h2:=t_neq hO h2
   conv=>cbv
   rw [hr,y7jY hy h2 hno]
theorem ymcY (R:Ans) (p:PodV) (hf1:FLs FSpr p.spr) (hf2:FLs FLab p.near) (hf3:FLs FLab p.apart) (h1:p.spr.length<4611686018427387904) (h2:p.near.length<4611686018427387904) (h3:p.apart.length<4611686018427387904)
 (h124:∀ k a,SL a->R.v 189 [mkS k,mkS a] (jI (termE k a))) (h54:∀ (b:Bool) (e:Int),R.v 133 [.bool b,jI e] (jI (wantI b e))) (h53:∀ l:List Int,l.length<4611686018427387904->R.v 132 [.sl 1 false (l.map iD)] (jI (y3Y l))) :
 AnsF R c138 [podD p] (jI (allTE p.spr p.near p.apart)):=by
 unfold podD podC
 obtain ⟨rs,hrs⟩:∃ xs,xs=p.reqs.map reqD:=⟨_,rfl⟩
 obtain ⟨ts,hts⟩:∃ xs,xs=p.tols.map tolD:=⟨_,rfl⟩
 obtain ⟨ss,hss⟩:∃ xs,xs=p.spr.map sprD:=⟨_,rfl⟩
 obtain ⟨ns,hns⟩:∃ xs,xs=p.near.map labD:=⟨_,rfl⟩
 obtain ⟨aps,has⟩:∃ xs,xs=p.apart.map labD:=⟨_,rfl⟩
 rw [←hrs,←hts,←hss,←hns,←has]
 obtain ⟨r,hr0⟩:∃ r,r=allTE p.spr p.near p.apart:=⟨_,rfl⟩
 rw [←hr0]
 unfold allTE at hr0
 refine y2Y ⟨rfl,by decide⟩ fun O hO V hV=>?_
 subst hV
 have hl1:O .len ss=p.spr.length:=by rw [o_len hO,hss];simp
 have hl2:O .len ns=p.near.length:=by rw [o_len hO,hns];simp
 have hl3:O .len aps=p.apart.length:=by rw [o_len hO,has];simp
 conv=>cbv
 rintro (_|_) h0
 ·replace h0:=f_gtr hO h0
  rw [hl1,hl2,hl3,o_max hO,o_max hO] at h0
  have hr:r=y3Y [sprsE p.spr,y16Y p.near,y16Y p.apart]:=by rw [hr0,if_neg (by omega)]
  conv=>cbv
  refine y4Y (fun n d=>∃ (i:Int) (k:Nat),d=⟨[(1,.ptr 1 1 0),(23,.sl 3 false ss),(24,jI (O .len ss)),(25,jI i)],[(1,⟨1,.rw,.var,[mkS p.name,mkS p.app,jI p.n0,jI p.n1,jI p.prio,.sl 4 false rs,.sl 3 false ts,.sl 3 false ss,.sl 2 false ns,.sl 2 false aps,jI p.since,mkS p.on]⟩)],false⟩/\i=k/\k<=p.spr.length/\n=p.spr.length-k/\∀ j,j<k->atE sprE p.spr j=0) ⟨_,_,⟨_,0,rfl,rfl,by omega,rfl,by simp⟩,⟨⟨rfl,rfl,rfl,rfl,trivial⟩,⟨rfl,trivial⟩,rfl⟩⟩ ?_
  rintro J up n d ⟨i,k,rfl,hi,hk,rfl,hno⟩
  conv=>cbv
  rintro (_|_) h1
  ·replace h1:=f_lss hO h1
   rw [hl1] at h1
   have e1:sprsE p.spr=0:=by unfold sprsE;exact ywY (fun j hj=>hno j (by omega))
   rw [e1,ycY,if_pos rfl] at hr
   conv=>cbv
   intro g53
   conv=>cbv
   have hl53:O .len [D.sl 2 false ns,D.sl 2 false aps]=2:=by rw [o_len hO];rfl
   refine y4Y (fun n d=>∃ (i:Int) (k:Nat),d=⟨[(1,.ptr 1 1 0),(53,.own 53 g53),(54,jI (O .len [D.sl 2 false ns,D.sl 2 false aps])),(55,jI i)],[(1,⟨1,.rw,.var,[mkS p.name,mkS p.app,jI p.n0,jI p.n1,jI p.prio,.sl 4 false rs,.sl 3 false ts,.sl 3 false ss,.sl 2 false ns,.sl 2 false aps,jI p.since,mkS p.on]⟩),(53,⟨g53,.rw,.arr 1 57,[.sl 2 false ns,.sl 2 false aps]⟩)],false⟩/\i=k/\k<=2/\n=2-k/\(1<=k->y16Y p.near=0)/\(2<=k->y16Y p.apart=0)) ?_ ?_
   ·refine ⟨_,_,⟨_,0,rfl,rfl,by omega,rfl,by omega,by omega⟩,?_⟩
    exact ⟨⟨rfl,rfl,rfl,rfl,trivial⟩,⟨rfl,rfl,trivial⟩,rfl⟩
   clear up hno
   rintro J2 up2 n2 d2 ⟨i2,k2,rfl,hi2,hk2,rfl,hn1,hn2⟩
   rcases (by omega:k2=0∨k2=1∨k2=2) with rfl|rfl|rfl
   ·obtain rfl:i2=0:=by omega
    conv=>cbv
    rintro (_|_) h1
    ·conv=>cbv
     exfalso;have:=f_lss hO h1;rw [hl53] at this;omega
    conv=>cbv
    have hnat:O .nat 0=0:=by rw [o_nat hO];rfl
    refine ⟨⟨by omega⟩,⟨by show (0:Int)<O .len [D.sl 2 false ns,D.sl 2 false aps];rw [hl53];omega⟩,?_⟩
    rw [hnat]
    refine ⟨_,rfl,?_⟩
    conv=>cbv
    refine y4Y (fun n d=>∃ (i:Int) (k:Nat),d=⟨[(1,.ptr 1 1 0),(53,.own 53 g53),(54,jI (O .len [D.sl 2 false ns,D.sl 2 false aps])),(55,jI 0),(59,.sl 2 false ns),(60,jI (O .len ns)),(61,jI i)],[(1,⟨1,.rw,.var,[mkS p.name,mkS p.app,jI p.n0,jI p.n1,jI p.prio,.sl 4 false rs,.sl 3 false ts,.sl 3 false ss,.sl 2 false ns,.sl 2 false aps,jI p.since,mkS p.on]⟩),(53,⟨g53,.rw,.arr 1 57,[.sl 2 false ns,.sl 2 false aps]⟩)],false⟩/\i=k/\k<=p.near.length/\n=p.near.length-k/\∀ j,j<k->atE (fun x=>termE x.k x.v) p.near j=0) ⟨_,_,⟨_,0,rfl,rfl,by omega,rfl,by simp⟩,⟨⟨rfl,rfl,rfl,rfl,rfl,rfl,rfl,trivial⟩,⟨rfl,rfl,trivial⟩,rfl⟩⟩ ?_
    rintro J up n d ⟨i,k,rfl,hi,hk,rfl,hno⟩
    conv=>cbv
    rintro (_|_) h1
    ·replace h1:=f_lss hO h1
     rw [hl2] at h1
     conv=>cbv
     have e1:y16Y p.near=0:=by unfold y16Y;exact ywY (fun j hj=>hno j (by omega))
     exact ⟨_,_,up2 _ _ ⟨_,1,rfl,by rw [y0Y hO (by omega) (by omega)];omega,by omega,rfl,fun _=>e1,fun h=>absurd h (by omega)⟩,⟨⟨rfl,rfl,rfl,rfl,trivial⟩,⟨rfl,rfl,trivial⟩,rfl⟩,by omega⟩
    ·replace h1:=t_lss hO h1
     rw [hl2] at h1
     obtain ⟨y,hy⟩:∃ y,p.near[k]?=some y:=⟨_,List.getElem?_eq_getElem (by omega)⟩
     have hat:atX ns i (labD y):=y7Y hy hns hi
     have hg:atE (fun x=>termE x.k x.v) p.near k=_:=y2pY hy
     have hk1:=h124 y.k y.v (hf2.all y (List.mem_of_getElem? hy)).v
     obtain ⟨e,he⟩:∃ e,e=termE y.k y.v:=⟨_,rfl⟩
     rw [←he] at hk1
     replace hg:atE (fun x=>termE x.k x.v) p.near k=e:=hg.trans he.symm
     clear he
     obtain ⟨y1,y2⟩:=y
     conv=>cbv
     refine ⟨_,hat,?_⟩
     conv=>cbv
     intro g9
     conv=>cbv
     refine ⟨_,hk1,?_⟩
     conv=>cbv
     rintro (_|_) h
     ·replace h:=f_neq hO h
      conv=>cbv
      exact ⟨_,_,up _ _ ⟨_,k+1,rfl,by rw [y0Y hO (by omega) (by omega)];omega,by omega,rfl,yjY hno (hg.trans h)⟩,⟨⟨rfl,rfl,rfl,rfl,rfl,rfl,rfl,trivial⟩,⟨rfl,rfl,trivial⟩,rfl⟩,by omega⟩
     ·replace h:=t_neq hO h
      conv=>cbv
      have e1:y16Y p.near=e:=by unfold y16Y;exact yfY (by omega) hno hg.symm h
      rw [hr,e1,ycY,if_neg h]
   ·obtain rfl:i2=1:=by omega
    conv=>cbv
    rintro (_|_) h1
    ·conv=>cbv
     exfalso;have:=f_lss hO h1;rw [hl53] at this;omega
    conv=>cbv
    have hnat:O .nat 1=1:=by rw [o_nat hO];rfl
    refine ⟨⟨by omega⟩,⟨by show (1:Int)<O .len [D.sl 2 false ns,D.sl 2 false aps];rw [hl53];omega⟩,?_⟩
    rw [hnat]
    refine ⟨_,rfl,?_⟩
    conv=>cbv
    refine y4Y (fun n d=>∃ (i:Int) (k:Nat),d=⟨[(1,.ptr 1 1 0),(53,.own 53 g53),(54,jI (O .len [D.sl 2 false ns,D.sl 2 false aps])),(55,jI 1),(59,.sl 2 false aps),(60,jI (O .len aps)),(61,jI i)],[(1,⟨1,.rw,.var,[mkS p.name,mkS p.app,jI p.n0,jI p.n1,jI p.prio,.sl 4 false rs,.sl 3 false ts,.sl 3 false ss,.sl 2 false ns,.sl 2 false aps,jI p.since,mkS p.on]⟩),(53,⟨g53,.rw,.arr 1 57,[.sl 2 false ns,.sl 2 false aps]⟩)],false⟩/\i=k/\k<=p.apart.length/\n=p.apart.length-k/\∀ j,j<k->atE (fun x=>termE x.k x.v) p.apart j=0) ⟨_,_,⟨_,0,rfl,rfl,by omega,rfl,by simp⟩,⟨⟨rfl,rfl,rfl,rfl,rfl,rfl,rfl,trivial⟩,⟨rfl,rfl,trivial⟩,rfl⟩⟩ ?_
    rintro J up n d ⟨i,k,rfl,hi,hk,rfl,hno⟩
    conv=>cbv
    rintro (_|_) h1
    ·replace h1:=f_lss hO h1
     rw [hl3] at h1
     conv=>cbv
     have e1:y16Y p.apart=0:=by unfold y16Y;exact ywY (fun j hj=>hno j (by omega))
     exact ⟨_,_,up2 _ _ ⟨_,2,rfl,by rw [y0Y hO (by omega) (by omega)];omega,by omega,rfl,fun _=>hn1 (by omega),fun _=>e1⟩,⟨⟨rfl,rfl,rfl,rfl,trivial⟩,⟨rfl,rfl,trivial⟩,rfl⟩,by omega⟩
    ·replace h1:=t_lss hO h1
     rw [hl3] at h1
     obtain ⟨y,hy⟩:∃ y,p.apart[k]?=some y:=⟨_,List.getElem?_eq_getElem (by omega)⟩
     have hat:atX aps i (labD y):=y7Y hy has hi
     have hg:atE (fun x=>termE x.k x.v) p.apart k=_:=y2pY hy
     have hk1:=h124 y.k y.v (hf3.all y (List.mem_of_getElem? hy)).v
     obtain ⟨e,he⟩:∃ e,e=termE y.k y.v:=⟨_,rfl⟩
     rw [←he] at hk1
     replace hg:atE (fun x=>termE x.k x.v) p.apart k=e:=hg.trans he.symm
     clear he
     obtain ⟨y1,y2⟩:=y
     conv=>cbv
     refine ⟨_,hat,?_⟩
     conv=>cbv
     intro g9
     conv=>cbv
     refine ⟨_,hk1,?_⟩
     conv=>cbv
     rintro (_|_) h
     ·replace h:=f_neq hO h
      conv=>cbv
      exact ⟨_,_,up _ _ ⟨_,k+1,rfl,by rw [y0Y hO (by omega) (by omega)];omega,by omega,rfl,yjY hno (hg.trans h)⟩,⟨⟨rfl,rfl,rfl,rfl,rfl,rfl,rfl,trivial⟩,⟨rfl,rfl,trivial⟩,rfl⟩,by omega⟩
     ·replace h:=t_neq hO h
      conv=>cbv
      have e1:y16Y p.apart=e:=by unfold y16Y;exact yfY (by omega) hno hg.symm h
      rw [hr,hn1 (by omega),e1,ycY,if_pos rfl,ycY,if_neg h]
   ·obtain rfl:i2=2:=by omega
    conv=>cbv
    rintro (_|_) h1
    ·conv=>cbv
     rw [hr,hn1 (by omega),hn2 (by omega)];rfl
    ·conv=>cbv
     exfalso;have:=t_lss hO h1;rw [hl53] at this;omega
  ·replace h1:=t_lss hO h1
   rw [hl1] at h1
   obtain ⟨y,hy⟩:∃ y,p.spr[k]?=some y:=⟨_,List.getElem?_eq_getElem (by omega)⟩
   have hat:atX ss i (sprD y):=y7Y hy hss hi
   have hg:atE sprE p.spr k=_:=y2pY hy
   obtain ⟨e,he⟩:∃ e,e=sprE y:=⟨_,rfl⟩
   rw [←he] at hg
   have hk1:=h124 y.k y.a (hf1.all y (List.mem_of_getElem? hy)).a
   obtain ⟨w,hw⟩:∃ w,w=termE y.k y.a:=⟨_,rfl⟩
   unfold sprE btw at he
   rw [←hw] at hk1 he
   have w1:=h54 true 1
   have w2:=h54 false 1
   have f1:=h53 [w,wantI true 1] (by simp)
   have f2:=h53 [w,wantI false 1] (by simp)
   simp only [y1dY,y4dY,List.map] at w1 w2 f1 f2
   obtain ⟨v1,hv1⟩:∃ v,v=y3Y [w,0]:=⟨_,rfl⟩
   obtain ⟨v2,hv2⟩:∃ v,v=y3Y [w,1]:=⟨_,rfl⟩
   rw [←hv1] at f1
   rw [←hv2] at f2
   simp only [ycY,y59Y] at hv1 hv2
   clear hw
   obtain ⟨y1,y2,y3⟩:=y
   simp only at he hk1
   have hr1:∀ x:Int,x=e->x≠0->r=x:=fun x h1 h2=>by
    rw [hr,ycY,if_neg]
    ·unfold sprsE;exact yfY (by omega) hno (by rw [hg];exact h1) h2
    ·rw [show sprsE p.spr=x by unfold sprsE;exact yfY (by omega) hno (by rw [hg];exact h1) h2];exact h2
   conv=>cbv
   refine ⟨_,hat,?_⟩
   conv=>cbv
   intro g4
   rcases Classical.em (w=0) with hw0|hw0
   all_goals simp [hw0] at hv1 hv2 he
   all_goals subst hv1 hv2
   all_goals conv=>cbv
   all_goals (repeat' (first|(rintro (_|_) h<;>(first|replace h:=ci hO h|replace h:=cs hO h)<;>(dsimp only [CmpI,CmpS] at h)<;>(try simp [h] at he)<;>(conv=>cbv))|(refine ⟨_,by assumption,?_⟩;(conv=>cbv))|(refine And.intro (by first|assumption|exact ⟨by omega⟩|exact ⟨rfl⟩|exact ⟨rfl,rfl⟩) ?_)))
   all_goals (try first|rw [if_pos (by omega)] at he|rw [if_neg (by omega)] at he)
   all_goals first
    | (exfalso;omega)
    | exact ⟨_,_,up _ _ ⟨_,k+1,rfl,by rw [y0Y hO (by omega) (by omega)];omega,by omega,rfl,yjY hno (hg.trans he)⟩,⟨⟨rfl,rfl,rfl,rfl,trivial⟩,⟨rfl,trivial⟩,rfl⟩,by omega⟩
    | exact congrArg (D.int .i64) (hr1 _ he.symm (by first|decide|exact h|exact hw0)).symm
 ·replace h0:=t_gtr hO h0
  rw [hl1,hl2,hl3,o_max hO,o_max hO] at h0
  conv=>cbv
  rw [hr0,if_pos (by omega)]
structure CO (R:Ans):Prop where
 named:∀ l:List Str,FL l->R.v 134 [.sl 1 false (l.map mkS)] (.bool (l.all nameB))
 want:∀ (b:Bool) (e:Int),R.v 133 [.bool b,jI e] (jI (wantI b e))
 first:∀ l:List Int,l.length<4611686018427387904->R.v 132 [.sl 1 false (l.map iD)] (jI (y3Y l))
 btw:∀ n lo hi,R.v 139 [jI n,jI lo,jI hi] (.bool (btw n lo hi))
 none:∀ s,SL s->R.v 140 [mkS s] (.bool (noneB s))
 amt:∀ n,R.v 185 [jI n] (jI (amtE n))
 amts:∀ a b,R.v 135 [.agg [jI a,jI b]] (jI (amtsE a b))
 offs:∀ l:List OffV,FLs FO l->R.v 202 [.sl 3 false (l.map offD)] (jI (offsE l))
theorem ymdY (R:Ans) (h:CO R) (p:PodV) (hF:FPod p) (h36:R.v 136 [.sl 4 false (p.reqs.map reqD)] (jI (reqsE 8 p.reqs))) (h57:R.v 137 [.sl 3 false (p.tols.map tolD)] (jI (tolsE p.tols))) (h58:R.v 138 [podD p] (jI (allTE p.spr p.near p.apart))) :
 AnsF R c82 [podD p] (jI (podE p)):=by
 have k1:=h.named [p.name,p.app] ⟨by simp,by simpa using ⟨hF.name,hF.app⟩⟩
 have k2:=h.amts p.n0 p.n1
 have k3:=h.btw p.since 0 1099511627776
 have k4:=h.none p.on hF.on
 obtain ⟨r,hr⟩:∃ r,r=podE p:=⟨_,rfl⟩
 rw [←hr]
 unfold podE at hr
 obtain ⟨q1,hq1⟩:∃ q,q=(nameB p.name&&nameB p.app):=⟨_,rfl⟩
 obtain ⟨q3,hq3⟩:∃ q,q=btw p.since 0 1099511627776:=⟨_,rfl⟩
 obtain ⟨q4,hq4⟩:∃ q,q=noneB p.on:=⟨_,rfl⟩
 obtain ⟨q5,hq5⟩:∃ q,q=btw p.prio (-1000) 1000:=⟨_,rfl⟩
 rw [show [p.name,p.app].all nameB=q1 by rw [hq1];simp] at k1
 rw [←hq1,←hq3,←hq4,←hq5] at hr
 rw [←hq3] at k3
 rw [←hq4] at k4
 obtain ⟨e1,he1⟩:∃ e,e=amtsE p.n0 p.n1:=⟨_,rfl⟩
 obtain ⟨e2,he2⟩:∃ e,e=reqsE 8 p.reqs:=⟨_,rfl⟩
 obtain ⟨e3,he3⟩:∃ e,e=tolsE p.tols:=⟨_,rfl⟩
 obtain ⟨e4,he4⟩:∃ e,e=allTE p.spr p.near p.apart:=⟨_,rfl⟩
 rw [←he1] at k2 hr
 rw [←he2] at h36 hr
 rw [←he3] at h57 hr
 rw [←he4] at h58 hr
 have w1:=h.want q1 7
 have w2:=h.want q5 1
 have w3:=h.want q3 1
 have w4:=h.want q4 7
 have f:=h.first [wantI q1 7,e1,wantI q5 1,e2,e3,e4,wantI q3 1,wantI q4 7] (by simp)
 rw [←hr] at f
 obtain ⟨v1,hv1⟩:∃ v,v=wantI q1 7:=⟨_,rfl⟩
 obtain ⟨v2,hv2⟩:∃ v,v=wantI q5 1:=⟨_,rfl⟩
 obtain ⟨v3,hv3⟩:∃ v,v=wantI q3 1:=⟨_,rfl⟩
 obtain ⟨v4,hv4⟩:∃ v,v=wantI q4 7:=⟨_,rfl⟩
 rw [←hv1] at w1 f
 rw [←hv2] at w2 f
 rw [←hv3] at w3 f
 rw [←hv4] at w4 f
 clear h hr hq1 hq3 hq4 he1 he2 he3 he4 hv1 hv2 hv3 hv4
 unfold podD podC at h58 ⊢
 simp only [List.map] at f k1
 obtain ⟨rs,hrs⟩:∃ xs,xs=p.reqs.map reqD:=⟨_,rfl⟩
 obtain ⟨ts,hts⟩:∃ xs,xs=p.tols.map tolD:=⟨_,rfl⟩
 obtain ⟨ss,hss⟩:∃ xs,xs=p.spr.map sprD:=⟨_,rfl⟩
 obtain ⟨ns,hns⟩:∃ xs,xs=p.near.map labD:=⟨_,rfl⟩
 obtain ⟨aps,has⟩:∃ xs,xs=p.apart.map labD:=⟨_,rfl⟩
 have c1:CleanL rs:=y8Y y3oY hrs
 have c2:CleanL ts:=y8Y (fun _=>⟨rfl,rfl⟩) hts
 have c3:CleanL ss:=y8Y (fun _=>⟨rfl,rfl⟩) hss
 have c4:CleanL ns:=y8Y (fun _=>⟨rfl,rfl⟩) hns
 have c5:CleanL aps:=y8Y (fun _=>⟨rfl,rfl⟩) has
 rw [←hrs] at h36
 rw [←hts] at h57
 rw [←hrs,←hts,←hss,←hns,←has] at h58 ⊢
 obtain ⟨pr,hpr⟩:∃ x,x=p.prio:=⟨_,rfl⟩
 rw [←hpr] at hq5 h58 ⊢
 refine y2Y ⟨rfl,by decide⟩ fun O hO V hV=>?_
 subst hV
 cases q5<;>simp [btw] at hq5<;>conv=>cbv
 all_goals (repeat' (first|(rintro (_|_) h<;>(first|replace h:=ci hO h|replace h:=cs hO h)<;>(dsimp only [CmpI,CmpS] at h)<;>first|(exfalso;omega)|(conv=>cbv))|(refine ⟨_,by assumption,?_⟩;(conv=>cbv))|(refine And.intro (by first|assumption|exact ⟨rfl⟩|exact ⟨rfl,rfl⟩) ?_)))
 all_goals first|trivial|(exfalso;omega)
theorem ymeY (R:Ans) (h:CO R) (p:PoolV) (hF:FPool p) (h36:R.v 136 [.sl 4 false (p.reqs.map reqD)] (jI (reqsE 8 p.reqs))) (h61:R.v 201 [.sl 2 false (p.taints.map labD)] (jI (tntsE p.taints))) :
 AnsF R c160 [poolD p] (jI (poolE p)):=by
 have k1:=h.named [p.name] ⟨by simp,by simpa using hF.name⟩
 have k2:=h.amts p.l0 p.l1
 have k3:=h.btw p.gen 0 1099511627776
 have k4:=h.btw p.expire 0 1073741824
 obtain ⟨r,hr⟩:∃ r,r=poolE p:=⟨_,rfl⟩
 rw [←hr]
 unfold poolE at hr
 obtain ⟨q1,hq1⟩:∃ q,q=nameB p.name:=⟨_,rfl⟩
 obtain ⟨q2,hq2⟩:∃ q,q=btw p.weight 0 100:=⟨_,rfl⟩
 obtain ⟨q3,hq3⟩:∃ q,q=btw p.gen 0 1099511627776:=⟨_,rfl⟩
 obtain ⟨q4,hq4⟩:∃ q,q=btw p.expire 0 1073741824:=⟨_,rfl⟩
 obtain ⟨q5,hq5⟩:∃ q,q=btw p.budget 0 16:=⟨_,rfl⟩
 obtain ⟨q6,hq6⟩:∃ q,q=btw p.merge 0 2:=⟨_,rfl⟩
 rw [show [p.name].all nameB=q1 by rw [hq1];simp] at k1
 rw [←hq1,←hq2,←hq3,←hq4,←hq5,←hq6] at hr
 rw [←hq3] at k3
 rw [←hq4] at k4
 obtain ⟨e1,he1⟩:∃ e,e=amtsE p.l0 p.l1:=⟨_,rfl⟩
 obtain ⟨e2,he2⟩:∃ e,e=reqsE 8 p.reqs:=⟨_,rfl⟩
 obtain ⟨e3,he3⟩:∃ e,e=tntsE p.taints:=⟨_,rfl⟩
 rw [←he1] at k2 hr
 rw [←he2] at h36 hr
 rw [←he3] at h61 hr
 obtain ⟨q7,hq7⟩:∃ q,q=(q3&&(q4&&(q5&&q6))):=⟨_,rfl⟩
 rw [←hq7] at hr
 have w1:=h.want q1 7
 have w2:=h.want q2 1
 have w3:=h.want q7 1
 have f:=h.first [wantI q1 7,wantI q2 1,e1,e2,e3,wantI q7 1] (by simp)
 rw [←hr] at f
 clear h hr hq1 hq3 hq4 he1 he2 he3
 unfold poolD poolC
 simp only [List.map] at f k1
 obtain ⟨rs,hrs⟩:∃ xs,xs=p.reqs.map reqD:=⟨_,rfl⟩
 obtain ⟨ts,hts⟩:∃ xs,xs=p.taints.map labD:=⟨_,rfl⟩
 have c1:CleanL rs:=y8Y y3oY hrs
 have c2:CleanL ts:=y8Y (fun _=>⟨rfl,rfl⟩) hts
 rw [←hrs] at h36 ⊢
 rw [←hts] at h61 ⊢
 obtain ⟨z1,hz1⟩:∃ x,x=p.weight:=⟨_,rfl⟩
 obtain ⟨z2,hz2⟩:∃ x,x=p.budget:=⟨_,rfl⟩
 obtain ⟨z3,hz3⟩:∃ x,x=p.merge:=⟨_,rfl⟩
 rw [←hz1] at hq2 ⊢
 rw [←hz2] at hq5 ⊢
 rw [←hz3] at hq6 ⊢
 refine y2Y ⟨rfl,by decide⟩ fun O hO V hV=>?_
 subst hV
 subst hq5 hq6
 obtain ⟨v1,hv1⟩:∃ v,v=wantI q1 7:=⟨_,rfl⟩
 rw [←hv1] at w1 f
 clear hv1
 cases q2<;>simp [btw] at hq2<;>cases q3<;>cases q4<;>cases q7<;>simp [btw] at hq7<;>simp only [y1dY,y4dY] at w2 w3 f<;>conv=>cbv
 all_goals (repeat' (first|(rintro (_|_) h<;>(first|replace h:=ci hO h|replace h:=cs hO h)<;>(dsimp only [CmpI,CmpS] at h)<;>first|(exfalso;omega)|(conv=>cbv))|(refine ⟨_,by assumption,?_⟩;(conv=>cbv))|(refine And.intro (by first|assumption|exact ⟨rfl⟩|exact ⟨rfl,rfl⟩) ?_)))
 all_goals first|trivial|(exfalso;omega)
end Go.Proofs.AM
