/- Part 24 of the lemmas: AKa, AKc. -/
import Derived.Test.YtnbdmjbpgaeacaaGreatDoorC14
import Derived.Test.YtnbdmjbpgaeacaaGreatDoorC23
import Derived.Test.YtnbdmjbpgaeacaaGreatDoorC06
set_option maxRecDepth 100000
set_option maxHeartbeats 8000000
set_option linter.all false
namespace Go.Proofs.AM
open Go Go.Lib Cd
def bothE (a0 a1 b0 b1:Int):Int:=if amtsE a0 a1=0 then amtsE b0 b1 else amtsE a0 a1
def amD (a b:Int):D:=.agg [jI a,jI b]
theorem y7rY {O:Ops} (hO:O=Ops.std) {neg t:Bool} {a b c d:Int} (h:t=O .eqc neg [(0,.int .i64),(1,.int .i64)] [jI a,jI b] [jI c,jI d]):t=(decide (a=c/\b=d) != neg):=by
 rw [o_eqc hO] at h
 rw [h]
 have hb:∀ x y:Int,(x == y)=decide (x=y):=fun x y=>by rw [Bool.eq_iff_iff];simp
 simp [ylY,y13Y,hb]
theorem y7sY {a0 a1 b0 b1:Int}:bothE a0 a1 b0 b1=0↔amtsE a0 a1=0/\amtsE b0 b1=0:=by
 unfold bothE
 by_cases h:amtsE a0 a1=0
 ·simp [h]
 ·simp [h]
theorem ynkY (R:Ans) (a0 a1 b0 b1:Int) (h135:∀ a b,R.v 135 [amD a b] (jI (amtsE a b))):AnsF R c229 [amD a0 a1,amD b0 b1] (jI (bothE a0 a1 b0 b1)):=by
 obtain ⟨r,hr⟩:∃ r,r=bothE a0 a1 b0 b1:=⟨_,rfl⟩
 have k1:=h135 a0 a1
 have k2:=h135 b0 b1
 rw [←hr]
 unfold bothE at hr
 obtain ⟨e1,he1⟩:∃ e,e=amtsE a0 a1:=⟨_,rfl⟩
 obtain ⟨e2,he2⟩:∃ e,e=amtsE b0 b1:=⟨_,rfl⟩
 rw [←he1] at k1 hr
 rw [←he2] at k2 hr
 clear he1 he2 h135
 unfold amD at *
 refine y2Y ⟨rfl,by decide⟩ fun O hO V hV=>?_
 subst hV
 conv=>cbv
 repeat' (first|(rintro (_|_) h<;>(first|replace h:=ci hO h|replace h:=cs hO h)<;>(dsimp only [CmpI,CmpS] at h)<;>(conv=>cbv))|(refine ⟨_,by assumption,?_⟩;(conv=>cbv)))
 all_goals (rw [hr];simp [h];done)
theorem ynlY (R:Ans) (a0 a1 b0 b1:Int) (h66:∀ a b,R.v 66 [amD a b] (jI (amtsE a b))):AnsF R c151 [amD a0 a1,amD b0 b1] (jI (bothE a0 a1 b0 b1)):=by
 obtain ⟨r,hr⟩:∃ r,r=bothE a0 a1 b0 b1:=⟨_,rfl⟩
 have k1:=h66 a0 a1
 have k2:=h66 b0 b1
 rw [←hr]
 unfold bothE at hr
 obtain ⟨e1,he1⟩:∃ e,e=amtsE a0 a1:=⟨_,rfl⟩
 obtain ⟨e2,he2⟩:∃ e,e=amtsE b0 b1:=⟨_,rfl⟩
 rw [←he1] at k1 hr
 rw [←he2] at k2 hr
 clear he1 he2 h66
 unfold amD at *
 refine y2Y ⟨rfl,by decide⟩ fun O hO V hV=>?_
 subst hV
 conv=>cbv
 repeat' (first|(rintro (_|_) h<;>(first|replace h:=ci hO h|replace h:=cs hO h)<;>(dsimp only [CmpI,CmpS] at h)<;>(conv=>cbv))|(refine ⟨_,by assumption,?_⟩;(conv=>cbv)))
 all_goals (rw [hr];simp [h];done)
theorem ynmY (R:Ans) (a0 a1 b0 b1:Int):AnsF R c230 [amD a0 a1,amD b0 b1] (amD (min a0 b0) (min a1 b1)):=by
 unfold amD
 obtain ⟨r0,hr0⟩:∃ m,m=min a0 b0:=⟨_,rfl⟩
 obtain ⟨r1,hr1⟩:∃ m,m=min a1 b1:=⟨_,rfl⟩
 rw [←hr0,←hr1]
 refine y2Y ⟨rfl,by decide⟩ fun O hO V hV=>?_
 subst hV
 have hm0:O .mx false a0 b0=r0:=(o_min hO a0 b0).trans hr0.symm
 have hm1:O .mx false a1 b1=r1:=(o_min hO a1 b1).trans hr1.symm
 clear hr0 hr1
 have ha1:O .iop .add .i64 0 1=1:=y0Y hO (by omega) (by omega)
 have ha2:O .iop .add .i64 1 1=2:=y0Y hO (by omega) (by omega)
 conv=>cbv
 refine y4Y (fun n d=>∃ (i:Int) (k:Nat) (x0 x1:Int),d=⟨[(2,.ptr 2 1 0),(3,.ptr 3 1 0),(4,.ptr 4 1 0),(6,jI i)],[(2,⟨1,.rw,.var,[jI x0,jI x1]⟩),(3,⟨1,.rw,.var,[jI b0,jI b1]⟩),(4,⟨1,.rw,.var,[jI 0,jI 0]⟩)],false⟩/\i=k/\k<=2/\n=2-k/\(x0=if 1<=k then r0 else a0)/\(x1=if 2<=k then r1 else a1)) ⟨_,_,⟨_,0,_,_,rfl,rfl,by omega,rfl,rfl,rfl⟩,⟨⟨rfl,rfl,rfl,rfl,trivial⟩,⟨rfl,rfl,rfl,trivial⟩,rfl⟩⟩ ?_
 rintro J up n d ⟨i,k,x0,x1,rfl,hi,hk,rfl,hx0,hx1⟩
 rcases (by omega:k=0∨k=1∨k=2) with rfl|rfl|rfl
 ·obtain rfl:i=0:=by omega
  conv=>cbv
  rintro (_|_) h1
  ·conv=>cbv
   exfalso;have:=f_lss hO h1;omega
  conv=>cbv
  rw [ha1]
  exact ⟨_,_,up _ _ ⟨1,1,_,_,rfl,rfl,by omega,rfl,by rw [hx0];exact hm0,hx1⟩,⟨⟨rfl,rfl,rfl,rfl,trivial⟩,⟨rfl,rfl,rfl,trivial⟩,rfl⟩,by omega⟩
 ·obtain rfl:i=1:=by omega
  conv=>cbv
  rintro (_|_) h1
  ·conv=>cbv
   exfalso;have:=f_lss hO h1;omega
  conv=>cbv
  rw [ha2]
  exact ⟨_,_,up _ _ ⟨2,2,_,_,rfl,rfl,by omega,rfl,hx0,by rw [hx1];exact hm1⟩,⟨⟨rfl,rfl,rfl,rfl,trivial⟩,⟨rfl,rfl,rfl,trivial⟩,rfl⟩,by omega⟩
 ·obtain rfl:i=2:=by omega
  conv=>cbv
  rintro (_|_) h1
  ·conv=>cbv
   rw [hx0,hx1];rfl
  ·conv=>cbv
   exfalso;have:=t_lss hO h1;omega
theorem ynnY (R:Ans) (a0 a1 b0 b1 x y e:Int) (hs:subE a0 a1 b0 b1=(x,y,e)) (h229:R.v 229 [amD a0 a1,amD b0 b1] (jI (bothE a0 a1 b0 b1))) (h230:R.v 230 [amD a0 a1,amD b0 b1] (amD (min a0 b0) (min a1 b1))):AnsF R c203 [amD a0 a1,amD b0 b1] (.tup [amD x y,jI e]):=by
 have hz:=y7sY (a0:=a0) (a1:=a1) (b0:=b0) (b1:=b1)
 have hs1:bothE a0 a1 b0 b1≠0->(x,y,e)=(0,0,bothE a0 a1 b0 b1):=fun h=>by
  rw [←hs]
  unfold subE bothE at *
  by_cases h1:amtsE a0 a1=0
  ·simp only [h1,if_true] at h ⊢
   rw [if_neg (by simp),if_pos h]
  ·simp only [h1,if_false]
   rw [if_pos h1]
 have hs2:bothE a0 a1 b0 b1=0->(x,y,e)=if b0<=a0/\b1<=a1 then (a0-b0,a1-b1,0) else (0,0,11):=fun h=>by
  rw [←hs]
  unfold subE
  rw [if_neg (by simp [(hz.1 h).1]),if_neg (by simp [(hz.1 h).2])]
 have hr:bothE a0 a1 b0 b1=0->(0<=a0/\a0<=1125899906842624)/\(0<=a1/\a1<=1125899906842624)/\(0<=b0/\b0<=1125899906842624)/\(0<=b1/\b1<=1125899906842624):=fun h=>⟨(amts_zero.1 (hz.1 h).1).1,(amts_zero.1 (hz.1 h).1).2,(amts_zero.1 (hz.1 h).2).1,(amts_zero.1 (hz.1 h).2).2⟩
 obtain ⟨q,hq⟩:∃ q,q=bothE a0 a1 b0 b1:=⟨_,rfl⟩
 obtain ⟨m0,hm0⟩:∃ m,m=min a0 b0:=⟨_,rfl⟩
 obtain ⟨m1,hm1⟩:∃ m,m=min a1 b1:=⟨_,rfl⟩
 rw [←hm0,←hm1] at h230
 rw [←hq] at h229 hs1 hs2 hr
 clear hz hq hs
 unfold amD at *
 refine y2Y ⟨rfl,by decide⟩ fun O hO V hV=>?_
 subst hV
 have ha1:O .iop .add .i64 0 1=1:=y0Y hO (by omega) (by omega)
 have ha2:O .iop .add .i64 1 1=2:=y0Y hO (by omega) (by omega)
 conv=>cbv
 refine ⟨_,h229,?_⟩
 conv=>cbv
 rintro (_|_) h<;>replace h:=ci hO h<;>dsimp only [CmpI] at h
 case true =>
  conv=>cbv
  have:=hs1 h
  simp only [Prod.mk.injEq] at this
  obtain ⟨rfl,rfl,rfl⟩:=this
  rfl
 replace hs2:=hs2 h
 replace hr:=hr h
 clear hs1
 subst h
 conv=>cbv
 refine ⟨_,h230,?_⟩
 conv=>cbv
 intro t ht
 replace ht:=y7rY hO ht
 have hle:(m0=b0/\m1=b1)↔(b0<=a0/\b1<=a1):=by omega
 have ht2:t=!decide (b0<=a0/\b1<=a1):=by rw [ht,decide_eq_decide.2 hle];cases decide (b0<=a0/\b1<=a1)<;>rfl
 clear ht hle
 cases t with
 | true =>
   have hn:¬(b0<=a0/\b1<=a1):=by simp at ht2;omega
   rw [if_neg hn] at hs2
   simp only [Prod.mk.injEq] at hs2
   obtain ⟨rfl,rfl,rfl⟩:=hs2
   conv=>cbv
   try rfl
 | false =>
   have hn:b0<=a0/\b1<=a1:=by simpa using ht2
   rw [if_pos hn] at hs2
   simp only [Prod.mk.injEq] at hs2
   obtain ⟨rfl,rfl,rfl⟩:=hs2
   clear ht2
   conv=>cbv
   refine y4Y (fun n d=>∃ (i:Int) (k:Nat) (x0 x1:Int),d=⟨[(2,.ptr 2 1 0),(3,.ptr 3 1 0),(4,.ptr 4 1 0),(21,jI i)],[(2,⟨1,.rw,.var,[jI x0,jI x1]⟩),(3,⟨1,.rw,.var,[jI b0,jI b1]⟩),(4,⟨1,.rw,.var,[jI 0,jI 0]⟩)],false⟩/\i=k/\k<=2/\n=2-k/\x0=(if 1<=k then a0-b0 else a0)/\x1=(if 2<=k then a1-b1 else a1)) ⟨_,_,⟨_,0,_,_,rfl,rfl,by omega,rfl,rfl,rfl⟩,⟨⟨rfl,rfl,rfl,rfl,trivial⟩,⟨rfl,rfl,rfl,trivial⟩,rfl⟩⟩ ?_
   rintro J up n d ⟨i,k,x0,x1,rfl,hi,hk,rfl,hx0,hx1⟩
   rcases (by omega:k=0∨k=1∨k=2) with rfl|rfl|rfl
   ·obtain rfl:i=0:=by omega
    conv=>cbv
    rintro (_|_) h1
    ·conv=>cbv
     exfalso;have:=f_lss hO h1;omega
    conv=>cbv
    rw [ha1]
    exact ⟨_,_,up _ _ ⟨1,1,_,_,rfl,rfl,by omega,rfl,by simp at hx0;rw [hx0,y15Y hO (by omega) (by omega)];rfl,hx1⟩,⟨⟨rfl,rfl,rfl,rfl,trivial⟩,⟨rfl,rfl,rfl,trivial⟩,rfl⟩,by omega⟩
   ·obtain rfl:i=1:=by omega
    conv=>cbv
    rintro (_|_) h1
    ·conv=>cbv
     exfalso;have:=f_lss hO h1;omega
    conv=>cbv
    rw [ha2]
    exact ⟨_,_,up _ _ ⟨2,2,_,_,rfl,rfl,by omega,rfl,hx0,by simp at hx1;rw [hx1,y15Y hO (by omega) (by omega)];rfl⟩,⟨⟨rfl,rfl,rfl,rfl,trivial⟩,⟨rfl,rfl,rfl,trivial⟩,rfl⟩,by omega⟩
   ·obtain rfl:i=2:=by omega
    conv=>cbv
    rintro (_|_) h1
    ·conv=>cbv
     rw [hx0,hx1];rfl
    ·conv=>cbv
     exfalso;have:=t_lss hO h1;omega
theorem ynoY (R:Ans) (a0 a1 b0 b1:Int) (h229:R.v 229 [amD a0 a1,amD b0 b1] (jI (bothE a0 a1 b0 b1))) (h230:R.v 230 [amD a0 a1,amD b0 b1] (amD (min a0 b0) (min a1 b1))):AnsF R c191 [amD a0 a1,amD b0 b1] (.bool (fitsB a0 a1 b0 b1)):=by
 have hz:=y7sY (a0:=a0) (a1:=a1) (b0:=b0) (b1:=b1)
 have hf:fitsB a0 a1 b0 b1=(decide (bothE a0 a1 b0 b1=0)&&decide (min a0 b0=a0/\min a1 b1=a1)):=by
  rw [Bool.eq_iff_iff,fits_iff,Bool.and_eq_true,decide_eq_true_eq,decide_eq_true_eq,hz]
  omega
 rw [hf]
 obtain ⟨q,hq⟩:∃ q,q=bothE a0 a1 b0 b1:=⟨_,rfl⟩
 obtain ⟨m0,hm0⟩:∃ m,m=min a0 b0:=⟨_,rfl⟩
 obtain ⟨m1,hm1⟩:∃ m,m=min a1 b1:=⟨_,rfl⟩
 rw [←hm0,←hm1] at h230 ⊢
 rw [←hq] at h229 ⊢
 obtain ⟨r,hr⟩:∃ r,r=(decide (q=0)&&decide (m0=a0/\m1=a1)):=⟨_,rfl⟩
 rw [←hr]
 clear hz hf hq hm0 hm1
 unfold amD at *
 refine y2Y ⟨rfl,by decide⟩ fun O hO V hV=>?_
 subst hV
 conv=>cbv
 refine ⟨_,h229,?_⟩
 conv=>cbv
 rintro (_|_) h<;>replace h:=ci hO h<;>dsimp only [CmpI] at h
 ·conv=>cbv
  rw [hr];simp [h]
 subst h
 conv=>cbv
 refine ⟨_,h230,?_⟩
 conv=>cbv
 intro t ht
 replace ht:=y7rY hO ht
 conv=>cbv
 rw [hr,ht]
 simp
theorem ynpY (R:Ans) (a0 a1 b0 b1:Int) (h151:R.v 151 [amD a0 a1,amD b0 b1] (jI (bothE a0 a1 b0 b1))):AnsF R c91 [amD a0 a1,amD b0 b1] (.bool (fitsB a0 a1 b0 b1)):=by
 have hz:=y7sY (a0:=a0) (a1:=a1) (b0:=b0) (b1:=b1)
 have hf:fitsB a0 a1 b0 b1=(decide (bothE a0 a1 b0 b1=0)&&(decide (a0<=b0)&&decide (a1<=b1))):=by
  rw [Bool.eq_iff_iff,fits_iff,Bool.and_eq_true,decide_eq_true_eq,hz]
  simp [and_assoc]
 rw [hf]
 obtain ⟨q,hq⟩:∃ q,q=bothE a0 a1 b0 b1:=⟨_,rfl⟩
 rw [←hq] at h151 ⊢
 obtain ⟨r,hr⟩:∃ r,r=(decide (q=0)&&(decide (a0<=b0)&&decide (a1<=b1))):=⟨_,rfl⟩
 rw [←hr]
 clear hz hf hq
 unfold amD at *
 refine y2Y ⟨rfl,by decide⟩ fun O hO V hV=>?_
 subst hV
 conv=>cbv
 refine ⟨_,h151,?_⟩
 conv=>cbv
 rintro (_|_) h<;>replace h:=ci hO h<;>dsimp only [CmpI] at h
 ·conv=>cbv
  rw [hr];simp [h]
 subst h
 conv=>cbv
 rintro (_|_) h<;>replace h:=ci hO h<;>dsimp only [CmpI] at h
 ·conv=>cbv
  have:¬a0<=b0:=by omega
  rw [hr];simp [this]
 conv=>cbv
 rintro (_|_) h2<;>replace h2:=ci hO h2<;>dsimp only [CmpI] at h2
 ·conv=>cbv
  have:¬a1<=b1:=by omega
  rw [hr];simp [this]
 ·conv=>cbv
  rw [hr];simp [h,h2]
theorem ynqY (R:Ans) (a0 a1 b0 b1 x y e:Int) (hs:subE a0 a1 b0 b1=(x,y,e)) (h151:R.v 151 [amD a0 a1,amD b0 b1] (jI (bothE a0 a1 b0 b1))):AnsF R c178 [amD a0 a1,amD b0 b1] (.tup [amD x y,jI e]):=by
 have hz:=y7sY (a0:=a0) (a1:=a1) (b0:=b0) (b1:=b1)
 have hs1:bothE a0 a1 b0 b1≠0->(x,y,e)=(0,0,bothE a0 a1 b0 b1):=fun h=>by
  rw [←hs]
  unfold subE bothE at *
  by_cases h1:amtsE a0 a1=0
  ·simp only [h1,if_true] at h ⊢
   rw [if_neg (by simp),if_pos h]
  ·simp only [h1,if_false]
   rw [if_pos h1]
 have hs2:bothE a0 a1 b0 b1=0->(x,y,e)=if b0<=a0/\b1<=a1 then (a0-b0,a1-b1,0) else (0,0,11):=fun h=>by
  rw [←hs]
  unfold subE
  rw [if_neg (by simp [(hz.1 h).1]),if_neg (by simp [(hz.1 h).2])]
 have hr:bothE a0 a1 b0 b1=0->(0<=a0/\a0<=1125899906842624)/\(0<=a1/\a1<=1125899906842624)/\(0<=b0/\b0<=1125899906842624)/\(0<=b1/\b1<=1125899906842624):=fun h=>⟨(amts_zero.1 (hz.1 h).1).1,(amts_zero.1 (hz.1 h).1).2,(amts_zero.1 (hz.1 h).2).1,(amts_zero.1 (hz.1 h).2).2⟩
 obtain ⟨q,hq⟩:∃ q,q=bothE a0 a1 b0 b1:=⟨_,rfl⟩
 rw [←hq] at h151 hs1 hs2 hr
 clear hz hq hs
 unfold amD at *
 refine y2Y ⟨rfl,by decide⟩ fun O hO V hV=>?_
 subst hV
 conv=>cbv
 refine ⟨_,h151,?_⟩
 conv=>cbv
 rintro (_|_) h<;>replace h:=ci hO h<;>dsimp only [CmpI] at h
 case true =>
  conv=>cbv
  have:=hs1 h
  simp only [Prod.mk.injEq] at this
  obtain ⟨rfl,rfl,rfl⟩:=this
  rfl
 replace hs2:=hs2 h
 replace hr:=hr h
 clear hs1
 subst h
 conv=>cbv
 rintro (_|_) h<;>replace h:=ci hO h<;>dsimp only [CmpI] at h
 case true =>
  conv=>cbv
  rw [if_neg (by omega)] at hs2
  simp only [Prod.mk.injEq] at hs2
  obtain ⟨rfl,rfl,rfl⟩:=hs2
  rfl
 conv=>cbv
 rintro (_|_) h2<;>replace h2:=ci hO h2<;>dsimp only [CmpI] at h2
 case true =>
  conv=>cbv
  rw [if_neg (by omega)] at hs2
  simp only [Prod.mk.injEq] at hs2
  obtain ⟨rfl,rfl,rfl⟩:=hs2
  rfl
 rw [if_pos (by omega)] at hs2
 simp only [Prod.mk.injEq] at hs2
 obtain ⟨rfl,rfl,rfl⟩:=hs2
 have e0:O .iop .sub .i64 a0 b0=a0-b0:=y15Y hO (by omega) (by omega)
 have e1:O .iop .sub .i64 a1 b1=a1-b1:=y15Y hO (by omega) (by omega)
 conv=>cbv
 rw [e0,e1];rfl
theorem ynrY (R:Ans) (l:List LabV) (hf:FLs FLab l) (h184:∀ s,SL s->R.v 184 [mkS s] (.bool (nameB s))) (h187:∀ s,SL s->R.v 187 [mkS s] (.bool (yiY s))) (h52:∀ x,R.v 52 [.sl 1 false (fiveL.map mkS),mkS x] (.bool (decide (x∈fiveL)))) (h195:∀ (l:List LabV) (x:LabV),l.length<4611686018427387904->R.v 195 [.sl 2 false (l.map labD),.fn 241 [] [.vptr (labD x) 0]] (.bool (l.any fun y=>decide (y.k=x.k)))):AnsF R c198 [.sl 2 false (l.map labD)] (jI (y22Y l)):=by
 have hl:=hf.lt
 obtain ⟨xs,hxs⟩:∃ xs,xs=l.map labD:=⟨_,rfl⟩
 obtain ⟨r,hr0⟩:∃ r,r=y22Y l:=⟨_,rfl⟩
 have hcx:CleanL xs:=by rw [hxs];exact yeY _
 rw [←hxs,←hr0]
 unfold y22Y tooE at hr0
 refine y2Y ⟨rfl,by decide⟩ fun O hO V hV=>?_
 subst hV
 have hlen:O .len xs=l.length:=by rw [o_len hO,hxs];simp
 conv=>cbv
 rintro (_|_) h0
 ·replace h0:=f_gtr hO h0
  rw [hlen] at h0
  have hr:r=scanE (upE clabE l) l.length:=by rw [hr0,if_neg (by omega)]
  conv=>cbv
  refine y4Y (fun n d=>∃ (i:Int) (k:Nat),d=⟨[(0,.sl 2 false xs),(8,.sl 2 false xs),(9,jI (O .len xs)),(10,jI i)],[],false⟩/\i=k/\k<=l.length/\n=l.length-k/\∀ j,j<k->upE clabE l j=0) ⟨_,_,⟨_,0,rfl,rfl,by omega,rfl,by simp⟩,⟨⟨rfl,rfl,rfl,rfl,trivial⟩,trivial,rfl⟩⟩ ?_
  rintro J up n d ⟨i,k,rfl,hi,hk,rfl,hno⟩
  conv=>cbv
  rintro (_|_) h1
  ·replace h1:=f_lss hO h1
   rw [hlen] at h1
   conv=>cbv
   rw [hr,ywY (fun j hj=>hno j (by omega))]
  ·replace h1:=t_lss hO h1
   rw [hlen] at h1
   obtain ⟨y,hy⟩:∃ y,l[k]?=some y:=⟨_,List.getElem?_eq_getElem (by omega)⟩
   have hat:atX xs i (labD y):=y7Y hy hxs hi
   have hg:upE clabE l k=_:=y14Y hy
   obtain ⟨e,he⟩:∃ e,e=upE clabE l k:=⟨_,rfl⟩
   rw [hg] at he
   rw [←he] at hg
   have hF:=hf.all y (List.mem_of_getElem? hy)
   have hk1:=h184 y.k hF.k
   have hk2:=h187 y.v hF.v
   have hk3:=h52 y.k
   have hk9:=h195 (l.take k) y (by simp;omega)
   obtain ⟨q1,hq1⟩:∃ q,q=nameB y.k:=⟨_,rfl⟩
   obtain ⟨q2,hq2⟩:∃ q,q=yiY y.v:=⟨_,rfl⟩
   obtain ⟨q3,hq3⟩:∃ q,q=decide (y.k∈fiveL):=⟨_,rfl⟩
   obtain ⟨q4,hq4⟩:∃ q,q=(l.take k).any fun z=>decide (z.k=y.k):=⟨_,rfl⟩
   unfold clabE at he
   rw [←hq1,←hq2,←hq3,←hq4] at he
   rw [←hq1] at hk1
   rw [←hq2] at hk2
   rw [←hq3] at hk3
   rw [←hq4] at hk9
   have htk:O .subL xs 0 i=(l.take k).map labD:=by rw [y20Y hO,hxs,hi,←List.map_take];simp
   have hct:CleanL (O .subL xs 0 i):=by rw [htk];exact yeY _
   rw [←htk] at hk9
   clear hq1 hq2 hq3 hq4 hF h184 h187 h52 h195
   obtain ⟨yk,yv⟩:=y
   simp only at hk1 hk2 hk3
   conv at hk3=>cbv
   conv=>cbv
   refine ⟨_,hat,?_⟩
   conv=>cbv
   intro g4
   cases q1<;>cases q2<;>cases q3<;>cases q4<;>(conv=>cbv)
   all_goals (repeat' (first|(intro (g:Nat);(conv=>cbv))|(rintro (_|_) h<;>(first|replace h:=ci hO h|replace h:=cs hO h)<;>(dsimp only [CmpI,CmpS] at h)<;>(conv=>cbv))|(refine ⟨_,by assumption,?_⟩;(conv=>cbv))|(refine ⟨_,hat,?_⟩;(conv=>cbv))|(refine And.intro (by first|assumption|exact ⟨by omega⟩|exact ⟨by rw [hlen];omega⟩|exact ⟨rfl⟩|exact ⟨rfl,rfl⟩) ?_)))
   all_goals first
    | (exfalso;omega)
    | exact ⟨_,_,up _ _ ⟨_,k+1,rfl,by rw [y0Y hO (by omega) (by omega)];omega,by omega,rfl,yjY hno (by rw [hg];first|exact he|exact he.symm|(rw [he];rfl)|(rw [he];simp [h];done)|exact h)⟩,⟨⟨rfl,rfl,rfl,rfl,trivial⟩,trivial,rfl⟩,by omega⟩
    | exact (by rw [hr];exact congrArg (D.int .i64) (yfY (by omega) hno (by rw [hg];first|exact he|exact he.symm|(rw [he];rfl)|(rw [he];simp [h];done)|rfl) (by first|decide|exact h)).symm)
 ·replace h0:=t_gtr hO h0
  rw [hlen] at h0
  conv=>cbv
  rw [hr0,if_pos (by omega)]
theorem ynsY (R:Ans) (l:List OfgV) (hf:FLs FOfg l) (h184:∀ s,SL s->R.v 184 [mkS s] (.bool (nameB s))) (h185:∀ n,R.v 185 [jI n] (jI (amtE n))) (h242:∀ (l:List OfgV) (x:OfgV),l.length<4611686018427387904->R.v 242 [.sl 4 false (l.map ofgD),.fn 243 [] [.vptr (ofgD x) 0]] (.bool (l.any fun y=>decide (y.z=x.z)&&decide (y.k=x.k)))):AnsF R c199 [.sl 4 false (l.map ofgD)] (jI (ofgsE l)):=by
 have hl:=hf.lt
 obtain ⟨xs,hxs⟩:∃ xs,xs=l.map ofgD:=⟨_,rfl⟩
 obtain ⟨r,hr0⟩:∃ r,r=ofgsE l:=⟨_,rfl⟩
 have hcx:CleanL xs:=by rw [hxs];exact y1kY _
 rw [←hxs,←hr0]
 unfold ofgsE tooE at hr0
 refine y2Y ⟨rfl,by decide⟩ fun O hO V hV=>?_
 subst hV
 have hlen:O .len xs=l.length:=by rw [o_len hO,hxs];simp
 conv=>cbv
 rintro (_|_) h0
 ·replace h0:=f_gtr hO h0
  rw [hlen] at h0
  have hr:r=scanE (upE ofgE l) l.length:=by rw [hr0,if_neg (by omega)]
  conv=>cbv
  refine y4Y (fun n d=>∃ (i:Int) (k:Nat),d=⟨[(0,.sl 4 false xs),(9,.sl 4 false xs),(10,jI (O .len xs)),(11,jI i)],[],false⟩/\i=k/\k<=l.length/\n=l.length-k/\∀ j,j<k->upE ofgE l j=0) ⟨_,_,⟨_,0,rfl,rfl,by omega,rfl,by simp⟩,⟨⟨rfl,rfl,rfl,rfl,trivial⟩,trivial,rfl⟩⟩ ?_
  rintro J up n d ⟨i,k,rfl,hi,hk,rfl,hno⟩
  conv=>cbv
  rintro (_|_) h1
  ·replace h1:=f_lss hO h1
   rw [hlen] at h1
   conv=>cbv
   rw [hr,ywY (fun j hj=>hno j (by omega))]
  ·replace h1:=t_lss hO h1
   rw [hlen] at h1
   obtain ⟨y,hy⟩:∃ y,l[k]?=some y:=⟨_,List.getElem?_eq_getElem (by omega)⟩
   have hat:atX xs i (ofgD y):=y7Y hy hxs hi
   have hg:upE ofgE l k=_:=y14Y hy
   obtain ⟨e,he⟩:∃ e,e=upE ofgE l k:=⟨_,rfl⟩
   rw [hg] at he
   rw [←he] at hg
   have hF:=hf.all y (List.mem_of_getElem? hy)
   have hk1:=h184 y.z hF.z
   have hk2:=h184 y.k hF.k
   have hk3:=h185 y.p
   have hk9:=h242 (l.take k) y (by simp;omega)
   obtain ⟨q1,hq1⟩:∃ q,q=nameB y.z:=⟨_,rfl⟩
   obtain ⟨q2,hq2⟩:∃ q,q=nameB y.k:=⟨_,rfl⟩
   obtain ⟨w,hw⟩:∃ w,w=amtE y.p:=⟨_,rfl⟩
   obtain ⟨q4,hq4⟩:∃ q,q=(l.take k).any fun z=>decide (z.z=y.z)&&decide (z.k=y.k):=⟨_,rfl⟩
   unfold ofgE at he
   rw [←hq1,←hq2,←hw,←hq4] at he
   rw [←hq1] at hk1
   rw [←hq2] at hk2
   rw [←hw] at hk3
   rw [←hq4] at hk9
   have htk:O .subL xs 0 i=(l.take k).map ofgD:=by rw [y20Y hO,hxs,hi,←List.map_take];simp
   have hct:CleanL (O .subL xs 0 i):=by rw [htk];exact y1kY _
   rw [←htk] at hk9
   clear hq1 hq2 hw hq4 hF h184 h185 h242
   obtain ⟨yz,yk,yp,yo⟩:=y
   simp only at hk1 hk2 hk3
   conv=>cbv
   refine ⟨_,hat,?_⟩
   conv=>cbv
   intro g4
   cases q1<;>cases q2<;>cases q4<;>(conv=>cbv)
   all_goals (repeat' (first|(intro (g:Nat);(conv=>cbv))|(rintro (_|_) h<;>(first|replace h:=ci hO h|replace h:=cs hO h)<;>(dsimp only [CmpI,CmpS] at h)<;>(conv=>cbv))|(refine ⟨_,by assumption,?_⟩;(conv=>cbv))|(refine ⟨_,hat,?_⟩;(conv=>cbv))|(refine And.intro (by first|assumption|exact ⟨by omega⟩|exact ⟨by rw [hlen];omega⟩|exact ⟨rfl⟩|exact ⟨rfl,rfl⟩) ?_)))
   all_goals first
    | (exfalso;omega)
    | exact ⟨_,_,up _ _ ⟨_,k+1,rfl,by rw [y0Y hO (by omega) (by omega)];omega,by omega,rfl,yjY hno (by rw [hg];first|exact he|exact he.symm|(rw [he];rfl)|(rw [he];simp [h];done)|exact h)⟩,⟨⟨rfl,rfl,rfl,rfl,trivial⟩,trivial,rfl⟩,by omega⟩
    | exact (by rw [hr];exact congrArg (D.int .i64) (yfY (by omega) hno (by rw [hg];first|exact he|exact he.symm|(rw [he];rfl)|(rw [he];simp [h];done)|rfl) (by first|decide|exact h)).symm)
 ·replace h0:=t_gtr hO h0
  rw [hlen] at h0
  conv=>cbv
  rw [hr0,if_pos (by omega)]
theorem yntY (R:Ans) (l:List TypeV) (hf:FLs FType l) (h157:∀ t,FType t->R.v 157 [typeD t] (jI (typE t))) (h158:∀ (l:List TypeV) (x:TypeV),l.length<4611686018427387904->R.v 158 [.sl 7 false (l.map typeD),.fn 159 [] [.vptr (typeD x) 0]] (.bool (l.any fun y=>decide (y.name=x.name)))):AnsF R c98 [.sl 7 false (l.map typeD)] (jI (catE l)):=by
 have hl:=hf.lt
 obtain ⟨xs,hxs⟩:∃ xs,xs=l.map typeD:=⟨_,rfl⟩
 obtain ⟨r,hr0⟩:∃ r,r=catE l:=⟨_,rfl⟩
 have hcx:CleanL xs:=by rw [hxs];exact y2gY _
 rw [←hxs,←hr0]
 unfold catE tooE at hr0
 refine y2Y ⟨rfl,by decide⟩ fun O hO V hV=>?_
 subst hV
 have hlen:O .len xs=l.length:=by rw [o_len hO,hxs];simp
 conv=>cbv
 rintro (_|_) h0
 ·replace h0:=f_gtr hO h0
  rw [hlen] at h0
  have hr:r=scanE (upE ctypE l) l.length:=by rw [hr0,if_neg (by omega)]
  conv=>cbv
  refine y4Y (fun n d=>∃ (i:Int) (k:Nat),d=⟨[(0,.sl 7 false xs),(9,.sl 7 false xs),(10,jI (O .len xs)),(11,jI i)],[],false⟩/\i=k/\k<=l.length/\n=l.length-k/\∀ j,j<k->upE ctypE l j=0) ⟨_,_,⟨_,0,rfl,rfl,by omega,rfl,by simp⟩,⟨⟨rfl,rfl,rfl,rfl,trivial⟩,trivial,rfl⟩⟩ ?_
  rintro J up n d ⟨i,k,rfl,hi,hk,rfl,hno⟩
  conv=>cbv
  rintro (_|_) h1
  ·replace h1:=f_lss hO h1
   rw [hlen] at h1
   conv=>cbv
   rw [hr,ywY (fun j hj=>hno j (by omega))]
  ·replace h1:=t_lss hO h1
   rw [hlen] at h1
   obtain ⟨y,hy⟩:∃ y,l[k]?=some y:=⟨_,List.getElem?_eq_getElem (by omega)⟩
   have hat:atX xs i (typeD y):=y7Y hy hxs hi
   have hg:upE ctypE l k=_:=y14Y hy
   obtain ⟨e,he⟩:∃ e,e=upE ctypE l k:=⟨_,rfl⟩
   rw [hg] at he
   rw [←he] at hg
   have hF:=hf.all y (List.mem_of_getElem? hy)
   have hk3:=h157 y hF
   have hk9:=h158 (l.take k) y (by simp;omega)
   obtain ⟨w,hw⟩:∃ w,w=typE y:=⟨_,rfl⟩
   obtain ⟨q4,hq4⟩:∃ q,q=(l.take k).any fun z=>decide (z.name=y.name):=⟨_,rfl⟩
   unfold ctypE at he
   rw [←hw,←hq4] at he
   rw [←hw] at hk3
   rw [←hq4] at hk9
   have htk:O .subL xs 0 i=(l.take k).map typeD:=by rw [y20Y hO,hxs,hi,←List.map_take];simp
   have hct:CleanL (O .subL xs 0 i):=by rw [htk];exact y2gY _
   rw [←htk] at hk9
   clear hw hq4 hF h157 h158
   obtain ⟨ynm,yc0,yc1,yv0,yv1,yls,yos⟩:=y
   simp only [typeD,typeC] at hat hk3 hk9
   obtain ⟨xyls,hxyls⟩:∃ xs,xs=yls.map labD:=⟨_,rfl⟩
   have cxyls:CleanL xyls:=by rw [hxyls];exact yeY _
   simp only [←hxyls] at hat hk3 hk9
   obtain ⟨xyos,hxyos⟩:∃ xs,xs=yos.map ofgD:=⟨_,rfl⟩
   have cxyos:CleanL xyos:=by rw [hxyos];exact y1kY _
   simp only [←hxyos] at hat hk3 hk9
   conv=>cbv
   refine ⟨_,hat,?_⟩
   conv=>cbv
   intro g4
   cases q4<;>(conv=>cbv)
   all_goals (repeat' (first|(intro (g:Nat);(conv=>cbv))|(rintro (_|_) h<;>(first|replace h:=ci hO h|replace h:=cs hO h)<;>(dsimp only [CmpI,CmpS] at h)<;>(conv=>cbv))|(refine ⟨_,by assumption,?_⟩;(conv=>cbv))|(refine ⟨_,hat,?_⟩;(conv=>cbv))|(refine And.intro (by first|assumption|exact ⟨by omega⟩|exact ⟨by rw [hlen];omega⟩|exact ⟨rfl⟩|exact ⟨rfl,rfl⟩) ?_)))
   all_goals first
    | (exfalso;omega)
    | exact ⟨_,_,up _ _ ⟨_,k+1,rfl,by rw [y0Y hO (by omega) (by omega)];omega,by omega,rfl,yjY hno (by rw [hg];first|exact he|exact he.symm|(rw [he];rfl)|(rw [he];simp [h];done)|exact h)⟩,⟨⟨rfl,rfl,rfl,rfl,trivial⟩,trivial,rfl⟩,by omega⟩
    | exact (by rw [hr];exact congrArg (D.int .i64) (yfY (by omega) hno (by rw [hg];first|exact he|exact he.symm|(rw [he];rfl)|(rw [he];simp [h];done)|rfl) (by first|decide|exact h)).symm)
 ·replace h0:=t_gtr hO h0
  rw [hlen] at h0
  conv=>cbv
  rw [hr0,if_pos (by omega)]
theorem ynuY (R:Ans) (y x:LabV):AnsF R c241 [labD y,.vptr (labD x) 0] (.bool (decide (y.k=x.k))):=by
 obtain ⟨r,hr⟩:∃ r,r=(decide (y.k=x.k)):=⟨_,rfl⟩
 rw [←hr]
 obtain ⟨u,hu⟩:∃ u,u=labD y:=⟨_,rfl⟩
 obtain ⟨v,hv⟩:∃ u,u=labD x:=⟨_,rfl⟩
 rw [←hu,←hv]
 obtain ⟨yk,yv⟩:=y
 simp only [labD] at hr hu
 obtain ⟨xk,xv⟩:=x
 simp only [labD] at hr hv
 subst hu hv
 refine y2Y ⟨rfl,by decide⟩ fun O hO V hV=>?_
 subst hV
 conv=>cbv
 repeat' (rintro (_|_) h<;>(first|replace h:=ci hO h|replace h:=cs hO h)<;>(dsimp only [CmpI,CmpS] at h)<;>(conv=>cbv))
 all_goals (rw [hr];simp_all)
theorem ynvY (R:Ans) (y x:OfgV):AnsF R c243 [ofgD y,.vptr (ofgD x) 0] (.bool (decide (y.z=x.z)&&decide (y.k=x.k))):=by
 obtain ⟨r,hr⟩:∃ r,r=(decide (y.z=x.z)&&decide (y.k=x.k)):=⟨_,rfl⟩
 rw [←hr]
 obtain ⟨u,hu⟩:∃ u,u=ofgD y:=⟨_,rfl⟩
 obtain ⟨v,hv⟩:∃ u,u=ofgD x:=⟨_,rfl⟩
 rw [←hu,←hv]
 obtain ⟨yz,yk,yp,yo⟩:=y
 simp only [ofgD,ofgC] at hr hu
 obtain ⟨xz,xk,xp,xo⟩:=x
 simp only [ofgD,ofgC] at hr hv
 subst hu hv
 refine y2Y ⟨rfl,by decide⟩ fun O hO V hV=>?_
 subst hV
 conv=>cbv
 repeat' (rintro (_|_) h<;>(first|replace h:=ci hO h|replace h:=cs hO h)<;>(dsimp only [CmpI,CmpS] at h)<;>(conv=>cbv))
 all_goals (rw [hr];simp_all)
theorem ynwY (R:Ans) (y x:TypeV):AnsF R c159 [typeD y,.vptr (typeD x) 0] (.bool (decide (y.name=x.name))):=by
 obtain ⟨r,hr⟩:∃ r,r=(decide (y.name=x.name)):=⟨_,rfl⟩
 rw [←hr]
 obtain ⟨u,hu⟩:∃ u,u=typeD y:=⟨_,rfl⟩
 obtain ⟨v,hv⟩:∃ u,u=typeD x:=⟨_,rfl⟩
 rw [←hu,←hv]
 obtain ⟨ynm,yc0,yc1,yv0,yv1,yls,yos⟩:=y
 simp only [typeD,typeC] at hr hu
 obtain ⟨xyls,hxyls⟩:∃ xs,xs=yls.map labD:=⟨_,rfl⟩
 have cxyls:CleanL xyls:=by rw [hxyls];exact yeY _
 simp only [←hxyls] at hr hu
 obtain ⟨xyos,hxyos⟩:∃ xs,xs=yos.map ofgD:=⟨_,rfl⟩
 have cxyos:CleanL xyos:=by rw [hxyos];exact y1kY _
 simp only [←hxyos] at hr hu
 obtain ⟨xnm,xc0,xc1,xv0,xv1,xls,xos⟩:=x
 simp only [typeD,typeC] at hr hv
 obtain ⟨xxls,hxxls⟩:∃ xs,xs=xls.map labD:=⟨_,rfl⟩
 have cxxls:CleanL xxls:=by rw [hxxls];exact yeY _
 simp only [←hxxls] at hr hv
 obtain ⟨xxos,hxxos⟩:∃ xs,xs=xos.map ofgD:=⟨_,rfl⟩
 have cxxos:CleanL xxos:=by rw [hxxos];exact y1kY _
 simp only [←hxxos] at hr hv
 subst hu hv
 refine y2Y ⟨rfl,by decide⟩ fun O hO V hV=>?_
 subst hV
 conv=>cbv
 repeat' (rintro (_|_) h<;>(first|replace h:=ci hO h|replace h:=cs hO h)<;>(dsimp only [CmpI,CmpS] at h)<;>(conv=>cbv))
 all_goals (rw [hr];simp_all)
end Go.Proofs.AM
