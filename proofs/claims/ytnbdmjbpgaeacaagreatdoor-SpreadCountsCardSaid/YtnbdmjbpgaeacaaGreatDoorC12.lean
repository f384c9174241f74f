/- Part 12 of the lemmas: AVVq, AVVr. -/
import Derived.Test.YtnbdmjbpgaeacaaGreatDoorC11
import Derived.Test.YtnbdmjbpgaeacaaGreatDoorC06
set_option maxRecDepth 100000
set_option maxHeartbeats 8000000
set_option linter.all false
namespace Go.Proofs.AM
open Go Go.Lib Cd
theorem yl0Y (R:Ans) (s:Str) (h19:R.v 187 [mkS s] (.bool (yiY s))):AnsF R c265 [mkS s] (.bool (!yiY s)):=by
 obtain ⟨q,hq⟩:∃ q,q=yiY s:=⟨_,rfl⟩
 rw [←hq] at h19 ⊢
 refine y2Y ⟨rfl,by decide⟩ fun O hO V hV=>?_
 subst hV
 conv=>cbv
 refine ⟨_,h19,?_⟩
 cases q<;>(conv=>cbv)<;>trivial
theorem yepY (p:Str->Bool):∀ (l:List Str),(∀ y∈l,p y=false)∨∃ (k:Nat) (x:Str),l[k]?=some x/\p x=true/\∀ j y,j<k->l[j]?=some y->p y=false
 | []=>.inl (by simp)
 | x::r=>by
   cases hx:p x with
   | true=>exact .inr ⟨0,x,rfl,hx,fun j y hj=>by omega⟩
   | false =>
     rcases yepY p r with h|⟨k,y,h1,h2,h3⟩
     ·refine .inl fun y hy=>?_
      rcases List.mem_cons.1 hy with rfl|hy
      ·exact hx
      ·exact h y hy
     ·refine .inr ⟨k+1,y,by simpa using h1,h2,fun j z hj hz=>?_⟩
      cases j with
      | zero=>simp at hz;subst hz;exact hx
      | succ j=>exact h3 j z (by omega) (by simpa using hz)
theorem yeqY (R:Ans) (f:Nat) (p:Str->Bool) (l:List Str) (hl:l.length<=8796093022208) (hp:∀ y∈l,R.v f [mkS y] (.bool (p y))):∃ n:Int,AnsF R c225 [.sl 1 false (l.map mkS),.fn f [] []] (jI n)/\((∃ y∈l,p y=true)->0<=n)/\((∀ y∈l,p y=false)->n=-1):=by
 obtain ⟨xs,hxs⟩:∃ xs,xs=l.map mkS:=⟨_,rfl⟩
 obtain ⟨r,hr⟩:∃ r:Int,((∀ y∈l,p y=false)/\r=-1)∨∃ k:Nat,r=k/\(∃ x,l[k]?=some x/\p x=true)/\∀ j y,j<k->l[j]?=some y->p y=false:=by
  rcases yepY p l with h|⟨k,x,h1,h2,h3⟩
  ·exact ⟨-1,.inl ⟨h,rfl⟩⟩
  ·exact ⟨k,.inr ⟨k,rfl,⟨x,h1,h2⟩,h3⟩⟩
 refine ⟨r,?_,?_,?_⟩
 ·rw [←hxs]
  refine y2Y ⟨rfl,by decide⟩ fun O hO V hV=>?_
  subst hV
  have hlen:O .len xs=l.length:=by rw [o_len hO,hxs];simp
  conv=>cbv
  refine y4Y (fun n d=>∃ (i:Int) (k:Nat),d=⟨[(0,.sl 1 false xs),(1,.fn f [] []),(7,jI (O .len xs)),(8,jI i)],[],false⟩/\i=k/\k<=l.length/\n=l.length-k/\∀ j y,j<k->l[j]?=some y->p y=false) ⟨_,_,⟨_,0,rfl,rfl,by omega,rfl,by simp⟩,⟨⟨rfl,rfl,rfl,rfl,trivial⟩,trivial,rfl⟩⟩ ?_
  rintro J up n d ⟨i,k,rfl,hi,hk,rfl,hno⟩
  conv=>cbv
  rintro (_|_) h1
  ·replace h1:=f_lss hO h1
   rw [hlen] at h1
   conv=>cbv
   rcases hr with ⟨_,rfl⟩|⟨j,_,⟨x,hj,hpx⟩,_⟩
   ·rfl
   ·rw [hno j x (by have:=(List.getElem?_eq_some_iff.1 hj).1;omega) hj] at hpx
    simp at hpx
  ·replace h1:=t_lss hO h1
   rw [hlen] at h1
   conv=>cbv
   obtain ⟨y,hy⟩:∃ y,l[k]?=some y:=⟨_,List.getElem?_eq_getElem (by omega)⟩
   have hc:=hp y (List.mem_of_getElem? hy)
   obtain ⟨q,hq⟩:∃ q,q=p y:=⟨_,rfl⟩
   rw [←hq] at hc
   refine ⟨mkS y,y7Y hy hxs hi,?_⟩
   conv=>cbv
   refine ⟨_,hc,?_⟩
   cases q with
   | false =>
     conv=>cbv
     refine ⟨_,_,up _ _ ⟨_,k+1,rfl,?_,by omega,rfl,?_⟩,⟨⟨rfl,rfl,rfl,rfl,trivial⟩,trivial,rfl⟩,by omega⟩
     ·rw [y0Y hO (by omega) (by omega)];omega
     ·intro j z hj hz
      by_cases e:j=k
      ·subst e;rw [hy] at hz;simp only [Option.some.injEq] at hz;subst hz;exact hq.symm
      ·exact hno j z (by omega) hz
   | true =>
     conv=>cbv
     rcases hr with ⟨h,_⟩|⟨j,rfl,⟨x,hj,hpx⟩,hmin⟩
     ·rw [h y (List.mem_of_getElem? hy)] at hq
      simp at hq
     ·have:j=k:=by
       rcases Nat.lt_trichotomy j k with h|h|h
       ·rw [hno j x h hj] at hpx;simp at hpx
       ·exact h
       ·rw [hmin k y h hy] at hq;simp at hq
      rw [hi,this]
 ·rintro ⟨y,hy,hpy⟩
  rcases hr with ⟨h,_⟩|⟨k,rfl,_⟩
  ·rw [h y hy] at hpy;simp at hpy
  ·omega
 ·intro h
  rcases hr with ⟨_,h'⟩|⟨k,_,⟨x,hk,hpx⟩,_⟩
  ·exact h'
  ·rw [h x (List.mem_of_getElem? hk)] at hpx;simp at hpx
theorem yerY (R:Ans) (f:Nat) (p:Str->Bool) (l:List Str) (q:Bool) (hq:q=true↔∃ y∈l,p y=true) (h56:∃ n:Int,R.v 225 [.sl 1 false (l.map mkS),.fn f [] []] (jI n)/\((∃ y∈l,p y=true)->0<=n)/\((∀ y∈l,p y=false)->n=-1)):AnsF R c182 [.sl 1 false (l.map mkS),.fn f [] []] (.bool q):=by
 obtain ⟨n,hn,h1,h2⟩:=h56
 have hc:CleanL (l.map mkS):=y8Y yhY rfl
 obtain ⟨xs,hxs⟩:∃ xs,xs=l.map mkS:=⟨_,rfl⟩
 rw [←hxs] at hn hc ⊢
 refine y2Y ⟨rfl,by decide⟩ fun O hO V hV=>?_
 subst hV
 conv=>cbv
 refine ⟨hc,_,hn,?_⟩
 conv=>cbv
 rintro (_|_) h3
 ·replace h3:=f_geq hO h3
  conv=>cbv
  cases q with
  | false=>rfl
  | true=>have:=h1 (hq.1 rfl);omega
 ·replace h3:=t_geq hO h3
  conv=>cbv
  cases q with
  | true=>rfl
  | false =>
    have:∀ y∈l,p y=false:=fun y hy=>by
     cases hp:p y with
     | false=>rfl
     | true=>have:=hq.2 ⟨y,hy,hp⟩;simp at this
    have:=h2 this
    omega
theorem yl1Y (R:Ans) (q:ReqV) (hq:FR q) (h18:∀ s,SL s->R.v 184 [mkS s] (.bool (nameB s)))
 (h47:∀ b:Bool,(b=true↔∃ y∈q.l,(!yiY y)=true)->R.v 182 [.sl 1 false (q.l.map mkS),.fn 265 [] []] (.bool b))
 (h33:R.v 255 [.sl 1 false ([q.l].map lD)] (.mapv ((y1jY [q.l]).map ent))):AnsF R c253 [reqD q] (jI (ysY q)):=by
 obtain ⟨r,hr⟩:∃ r,r=ysY q:=⟨_,rfl⟩
 rw [←hr]
 unfold ysY at hr
 have hl1:=hq.l.len
 have hn:=h18 q.key hq.key
 obtain ⟨key,op,l,n⟩:=q
 unfold BadOp at hr
 simp only at hr hl1 hn h47 h33
 obtain ⟨b,hb⟩:∃ b,b=nameB key:=⟨_,rfl⟩
 rw [←hb] at hr hn
 unfold reqD
 simp only
 simp only [List.map_cons,List.map_nil,lD] at h33
 obtain ⟨xs,hxs⟩:∃ xs,xs=l.map mkS:=⟨_,rfl⟩
 have hcx:CleanL xs:=y8Y yhY hxs
 have hcy:CleanL [.sl 1 false xs]:=⟨by simp [closedL,closed,hcx.c],by simp [stripL,strip,hcx.s]⟩
 obtain ⟨es,hes⟩:∃ es,es=(y1jY [l]).map ent:=⟨_,rfl⟩
 rw [←hxs] at h47 h33 ⊢
 rw [←hes] at h33
 refine y2Y ⟨rfl,by decide⟩ fun O hO V hV=>?_
 subst hV
 have hlen:O .len xs=l.length:=by rw [o_len hO,hxs];simp
 have hlee:O .len es=(y1jY [l]).length:=by rw [o_len hO,hes];simp
 conv=>cbv
 refine y2dY (fun d=>∃ v:Bool,d=⟨[(1,.ptr 1 1 0),(3,.bool v)],[(1,⟨1,.rw,.var,[mkS key,jI op,.sl 1 false xs,jI n]⟩)],false⟩/\(v=true↔op=1∨op=2)) (fun M upm=>?_) ?_
 ·repeat' ((conv=>cbv);rintro (_|_) _)
  all_goals (conv=>cbv)
  all_goals simp only [o_eql hO,true_eq_decide_iff,false_eq_decide_iff] at *
  all_goals exact ⟨_,upm _ ⟨_,rfl,by simp [*]⟩,⟨⟨rfl,rfl,trivial⟩,⟨rfl,trivial⟩,rfl⟩⟩
 rintro d ⟨v,rfl,hv⟩
 conv=>cbv
 refine y2dY (fun d=>∃ w:Bool,d=⟨[(1,.ptr 1 1 0),(3,.bool v),(4,.bool w)],[(1,⟨1,.rw,.var,[mkS key,jI op,.sl 1 false xs,jI n]⟩)],false⟩/\(w=true↔op=5∨op=6)) (fun M upm=>?_) ?_
 ·repeat' ((conv=>cbv);rintro (_|_) _)
  all_goals (conv=>cbv)
  all_goals simp only [o_eql hO,true_eq_decide_iff,false_eq_decide_iff] at *
  all_goals exact ⟨_,upm _ ⟨_,rfl,by simp [*]⟩,⟨⟨rfl,rfl,rfl,trivial⟩,⟨rfl,trivial⟩,rfl⟩⟩
 rintro d ⟨w,rfl,hw⟩
 conv=>cbv
 refine ⟨_,hn,?_⟩
 cases b with
 | false =>
   conv=>cbv
   rw [hr]
   rfl
 | true =>
   simp only [Bool.true_eq_false,if_false] at hr
   conv=>cbv
   refine y2dY (fun d=>∃ bad:Bool,d=⟨[(1,.ptr 1 1 0),(26,.bool bad)],[(1,⟨1,.rw,.var,[mkS key,jI op,.sl 1 false xs,jI n]⟩)],false⟩/\(bad=true↔(op<1∨6<op∨((op=1∨op=2)/\l.length=0)∨(¬(op=1∨op=2)/\0<l.length)∨(¬(op=5∨op=6)/\n≠0)∨n < -2147483648∨2147483648<n))) (fun M upm=>?_) ?_
   ·cases v<;>cases w<;>simp only [Bool.false_eq_true,false_iff,true_iff] at hv hw
    all_goals repeat' ((conv=>cbv);rintro (_|_) _)
    all_goals (conv=>cbv)
    all_goals simp only [o_lss hO,o_gtr hO,o_neq hO,o_beq hO,hlen,true_eq_decide_iff,false_eq_decide_iff] at *
    all_goals first
     | (exfalso;omega)
     | (refine ⟨_,upm _ ⟨_,rfl,?_⟩,⟨⟨rfl,rfl,trivial⟩,⟨rfl,trivial⟩,rfl⟩⟩
        constructor<;>intro h<;>first|rfl|(simp at h;done)|(exfalso;omega)|omega)
     | (exfalso;simp at *;done)
   rintro d ⟨bad,rfl,hbad⟩
   cases bad with
   | true =>
     rw [if_pos (hbad.1 rfl)] at hr
     conv=>cbv
     rw [hr]
   | false =>
     rw [if_neg (fun h=>by have:=hbad.2 h;simp at this)] at hr
     conv=>cbv
     rintro (_|_) h1
     ·replace h1:=f_gtr hO h1
      rw [hlen] at h1
      rw [if_neg (by omega)] at hr
      conv=>cbv
      by_cases hval:∃ v∈l,yiY v=false
      ·rw [if_pos hval] at hr
       have hc:=h47 true (by
        obtain ⟨y,hy,hf⟩:=hval
        exact ⟨fun _=>⟨y,hy,by simp [hf]⟩,fun _=>rfl⟩)
       refine ⟨hcx,_,hc,?_⟩
       conv=>cbv
       rw [hr]
      ·rw [if_neg hval] at hr
       have hc:=h47 false (by
        constructor
        ·intro h;simp at h
        ·rintro ⟨y,hy,hf⟩
         exact absurd ⟨y,hy,by simpa using hf⟩ hval)
       refine ⟨hcx,_,hc,?_⟩
       conv=>cbv
       refine ⟨⟨hcy.c⟩,?_⟩
       conv=>cbv
       refine ⟨hcy,_,h33,?_⟩
       conv=>cbv
       rintro (_|_) h2
       ·replace h2:=f_lss hO h2
        rw [hlen,hlee] at h2
        conv=>cbv
        rw [hr,if_neg (fun h=>by have:=group_lt.2 h;omega)]
       ·replace h2:=t_lss hO h2
        rw [hlen,hlee] at h2
        conv=>cbv
        rw [hr,if_pos (group_lt.1 (by omega))]
     ·replace h1:=t_gtr hO h1
      rw [hlen] at h1
      rw [if_pos (by omega)] at hr
      conv=>cbv
      rw [hr]
end Go.Proofs.AM
