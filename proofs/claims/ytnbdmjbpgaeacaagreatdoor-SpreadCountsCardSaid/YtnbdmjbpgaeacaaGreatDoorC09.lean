/- Part 9 of the lemmas: AVVa, AVVb, AVVd, AVVe, AVVh, AVVi. -/
import Derived.Test.YtnbdmjbpgaeacaaGreatDoorC07
import Derived.Test.YtnbdmjbpgaeacaaGreatDoorC08
import Derived.Test.YtnbdmjbpgaeacaaGreatDoorC06
set_option maxRecDepth 100000
set_option maxHeartbeats 8000000
set_option linter.all false
namespace Go.Proofs.AM
open Go Go.Lib Cd
theorem ykcY (R:Ans) (s:Str) (hs:SL s):AnsF R c184 [mkS s] (.bool (nameB s)):=by
 obtain ⟨r,hr⟩:∃ r,r=nameB s:=⟨_,rfl⟩
 rw [←hr]
 unfold SL at hs
 refine y2Y ⟨rfl,by decide⟩ fun O hO V hV=>?_
 have hlen:O .len (O .bytes ⟨⟨s⟩⟩)=s.length:=by rw [o_len hO,ydtY hO];simp
 conv=>cbv
 refine y4Y (fun n d=>∃ (i:Int) (k:Nat),d=⟨[(0,mkS s),(7,.sl 1 false (O .bytes ⟨⟨s⟩⟩)),(8,jI (O .len (O .bytes ⟨⟨s⟩⟩))),(9,jI i)],[],false⟩/\i=k/\k<=s.length/\n=s.length-k/\∀ j c,j<k->s[j]?=some c->okc c/\(j=0->small c)) ⟨_,_,⟨_,0,rfl,rfl,by omega,rfl,by simp⟩,⟨⟨rfl,rfl,rfl,rfl,trivial⟩,trivial,rfl⟩⟩ ?_
 rintro J up n d ⟨i,k,rfl,hi,hk,rfl,hno⟩
 conv=>cbv
 rintro (_|_) h1
 ·replace h1:=f_lss hO h1
  rw [hlen] at h1
  have hall:∀ j c,s[j]?=some c->okc c/\(j=0->small c):=fun j c hc=>hno j c (by have:=(List.getElem?_eq_some_iff.1 hc).1;omega) hc
  conv=>cbv
  rintro (_|_) h2
  ·replace h2:s=[]:=y51Y hO h2
   conv=>cbv
   rw [hr,y7dY (by rw [h2];simp)]
  ·replace h2:s≠[]:=y50Y hO h2
   have h3:1<=s.length:=List.length_pos_iff.2 h2
   conv=>cbv
   rintro (_|_) h4
   ·replace h4:=f_leq hO h4
    rw [y18Y hO] at h4
    conv=>cbv
    rw [hr,y7dY (by omega)]
   ·replace h4:=t_leq hO h4
    rw [y18Y hO] at h4
    conv=>cbv
    rw [hr,ye4Y h3 (by omega) hall]
 ·replace h1:=t_lss hO h1
  rw [hlen] at h1
  obtain ⟨c,hc⟩:∃ c,s[k]?=some c:=⟨_,List.getElem?_eq_getElem (by omega)⟩
  obtain ⟨v,hv⟩:∃ v:Int,v=c.toNat:=⟨_,rfl⟩
  have hat:atX (O .bytes ⟨⟨s⟩⟩) i (.int .u8 v):=by rw [hv];exact y7Y hc (ydtY hO s) hi
  conv=>cbv
  refine ⟨_,hat,?_⟩
  repeat' ((conv=>cbv);rintro (_|_) _)
  all_goals (conv=>cbv)
  all_goals simp only [o_geq hO,o_leq hO,o_lss hO,o_gtr hO,o_eql hO,o_neq hO,true_eq_decide_iff,false_eq_decide_iff] at *
  all_goals first
   | (rw [hr,y7cY hc (by unfold okc small;omega)];done)
   | (refine ⟨_,_,up _ _ ⟨_,k+1,rfl,?_,by omega,rfl,?_⟩,⟨⟨rfl,rfl,rfl,rfl,trivial⟩,trivial,rfl⟩,by omega⟩
      ·rw [y0Y hO (by omega) (by omega)];omega
      ·intro j c' hj hc'
       by_cases e:j=k
       ·subst e
        rw [hc] at hc'
        simp only [Option.some.injEq] at hc'
        subst hc'
        unfold okc small
        omega
       ·exact hno j c' (by omega) hc')
theorem ykdY (R:Ans) (s:Str) (hs:SL s):AnsF R c65 [mkS s] (.bool (nameB s)):=by
 obtain ⟨r,hr⟩:∃ r,r=nameB s:=⟨_,rfl⟩
 rw [←hr]
 unfold SL at hs
 refine y2Y ⟨rfl,by decide⟩ fun O hO V hV=>?_
 conv=>cbv
 rintro (_|_) h1
 ·replace h1:=f_lss hO h1
  rw [y18Y hO] at h1
  conv=>cbv
  rintro (_|_) h2
  ·replace h2:=f_gtr hO h2
   rw [y18Y hO] at h2
   obtain ⟨c,hc⟩:∃ c,s[0]?=some c:=⟨_,List.getElem?_eq_getElem (by omega)⟩
   conv=>cbv
   refine ⟨c,⟨by decide⟩,hc,?_⟩
   obtain ⟨v,hv⟩:∃ v:Int,v=O .u8 c:=⟨_,rfl⟩
   rw [←hv]
   rw [o_u8 hO] at hv
   conv=>cbv
   rintro (_|_) h3
   ·replace h3:=f_lss hO h3
    conv=>cbv
    refine ⟨c,⟨by decide⟩,hc,?_⟩
    have hv2:O .u8 c=v:=by rw [o_u8 hO,hv]
    rw [hv2]
    conv=>cbv
    rintro (_|_) h4
    ·replace h4:=f_gtr hO h4
     conv=>cbv
     refine y4Y (fun n d=>∃ (i:Int) (k:Nat),d=⟨[(0,mkS s),(3,jI i)],[],false⟩/\i=k/\k<=s.length/\n=s.length-k/\∀ j c,j<k->s[j]?=some c->okc c/\(j=0->small c)) ⟨_,_,⟨_,0,rfl,rfl,by omega,rfl,by simp⟩,⟨⟨rfl,rfl,trivial⟩,trivial,rfl⟩⟩ ?_
     rintro J up n d ⟨i,k,rfl,hi,hk,rfl,hno⟩
     conv=>cbv
     rintro (_|_) h5
     ·replace h5:=f_lss hO h5
      rw [y18Y hO] at h5
      conv=>cbv
      rw [hr,ye4Y (by omega) (by omega) fun j c hc=>hno j c (by have:=(List.getElem?_eq_some_iff.1 hc).1;omega) hc]
     ·replace h5:=t_lss hO h5
      rw [y18Y hO] at h5
      obtain ⟨b,hb⟩:∃ b,s[k]?=some b:=⟨_,List.getElem?_eq_getElem (by omega)⟩
      obtain ⟨u,hu⟩:∃ u:Int,u=O .u8 b:=⟨_,rfl⟩
      have hu2:=hu
      rw [o_u8 hO] at hu2
      conv=>cbv
      refine ⟨b,⟨by omega⟩,by rw [hi];exact hb,?_⟩
      rw [←hu]
      have h0:k=0->c=b:=fun e=>by subst e;rw [hc] at hb;simpa using hb
      have h00:k=0->v=u:=fun e=>by rw [hv,hu2,h0 e]
      repeat' ((conv=>cbv);rintro (_|_) _)
      all_goals (conv=>cbv)
      all_goals simp only [o_lss hO,o_gtr hO,o_neq hO,true_eq_decide_iff,false_eq_decide_iff] at *
      all_goals first
       | (rw [hr,y7cY hb (by unfold okc small;omega)];done)
       | (refine ⟨_,_,up _ _ ⟨_,k+1,rfl,?_,by omega,rfl,?_⟩,⟨⟨rfl,rfl,trivial⟩,trivial,rfl⟩,by omega⟩
          ·rw [y0Y hO (by omega) (by omega)];omega
          ·intro j c' hj hc'
           by_cases e:j=k
           ·subst e
            rw [hb] at hc'
            simp only [Option.some.injEq] at hc'
            subst hc'
            unfold okc small
            omega
           ·exact hno j c' (by omega) hc')
    ·replace h4:=t_gtr hO h4
     conv=>cbv
     rw [hr,y7cY hc (by unfold okc small;omega)]
   ·replace h3:=t_lss hO h3
    conv=>cbv
    rw [hr,y7cY hc (by unfold okc small;omega)]
  ·replace h2:=t_gtr hO h2
   rw [y18Y hO] at h2
   conv=>cbv
   rw [hr,y7dY (by omega)]
 ·replace h1:=t_lss hO h1
  rw [y18Y hO] at h1
  conv=>cbv
  rw [hr,y7dY (by omega)]
theorem ykeY (R:Ans) (l:List Str) (hl:l.length<4611686018427387904) (x:Str):AnsF R c240 [.sl 1 false (l.map mkS),mkS x] (.bool (decide (x∈l))):=by
 obtain ⟨xs,hxs⟩:∃ xs,xs=l.map mkS:=⟨_,rfl⟩
 obtain ⟨r,hr⟩:∃ r,r=decide (x∈l):=⟨_,rfl⟩
 rw [←hxs,←hr]
 refine y2Y ⟨rfl,by decide⟩ fun O hO V hV=>?_
 have hlen:O .len xs=l.length:=by rw [o_len hO,hxs];simp
 conv=>cbv
 refine y4Y (fun n d=>∃ (i:Int) (k:Nat),d=⟨[(0,.sl 1 false xs),(1,mkS x),(5,jI i)],[],false⟩/\i=k/\k<=l.length/\n=l.length-k/\∀ j,j<k->l[j]?≠some x) ⟨_,_,⟨_,0,rfl,rfl,by omega,rfl,by simp⟩,⟨⟨rfl,rfl,rfl,trivial⟩,trivial,rfl⟩⟩ ?_
 rintro J up n d ⟨i,k,rfl,hi,hk,rfl,hno⟩
 conv=>cbv
 rintro (_|_) h1
 ·replace h1:=f_lss hO h1
  rw [hlen] at h1
  conv=>cbv
  rw [hr]
  simp
  intro hm
  obtain ⟨j,hj⟩:=List.getElem?_of_mem hm
  exact hno j (by have:=(List.getElem?_eq_some_iff.1 hj).1;omega) hj
 ·replace h1:=t_lss hO h1
  rw [hlen] at h1
  obtain ⟨y,hy⟩:∃ y,l[k]?=some y:=⟨_,List.getElem?_eq_getElem (by omega)⟩
  conv=>cbv
  refine ⟨mkS y,y7Y hy hxs hi,?_⟩
  conv=>cbv
  rintro (_|_) h2
  ·replace h2:y≠x:=y3iY hO h2
   conv=>cbv
   refine ⟨_,_,up _ _ ⟨_,k+1,rfl,?_,by omega,rfl,?_⟩,⟨⟨rfl,rfl,rfl,trivial⟩,trivial,rfl⟩,by omega⟩
   ·rw [y0Y hO (by omega) (by omega)];omega
   ·intro j hj
    by_cases e:j=k
    ·subst e;rw [hy];simpa using h2
    ·exact hno j (by omega)
  ·replace h2:y=x:=y3hY hO h2
   conv=>cbv
   rw [hr]
   subst h2
   simp [List.mem_of_getElem? hy]
theorem yehY {x:Str}:∀ {l:List Str},x∈l->∃ k:Nat,l[k]?=some x/\∀ j,j<k->l[j]?≠some x
 | [],h=>by simp at h
 | y::r,h=>by
   by_cases e:y=x
   ·exact ⟨0,by simp [e],fun j hj=>by omega⟩
   ·have hm:x∈r:=by
     rcases List.mem_cons.1 h with h|h
     ·exact absurd h.symm e
     ·exact h
    obtain ⟨k,h1,h2⟩:=yehY hm
    refine ⟨k+1,by simpa using h1,fun j hj=>?_⟩
    cases j with
    | zero=>simpa using e
    | succ j=>simpa using h2 j (by omega)
theorem ykfY (R:Ans) (l:List Str) (hl:l.length<4611686018427387904) (x:Str):∃ n:Int,AnsF R c106 [.sl 1 false (l.map mkS),mkS x] (jI n)/\(x∈l->0<=n)/\(x∉l->n=-1):=by
 obtain ⟨xs,hxs⟩:∃ xs,xs=l.map mkS:=⟨_,rfl⟩
 obtain ⟨r,hr⟩:∃ r:Int,(x∉l/\r=-1)∨∃ k:Nat,r=k/\l[k]?=some x/\∀ j,j<k->l[j]?≠some x:=by
  by_cases hm:x∈l
  ·obtain ⟨k,hk,hmin⟩:=yehY hm
   exact ⟨k,.inr ⟨k,rfl,hk,hmin⟩⟩
  ·exact ⟨-1,.inl ⟨hm,rfl⟩⟩
 refine ⟨r,?_,?_,?_⟩
 ·rw [←hxs]
  refine y2Y ⟨rfl,by decide⟩ fun O hO V hV=>?_
  have hlen:O .len xs=l.length:=by rw [o_len hO,hxs];simp
  conv=>cbv
  refine y4Y (fun n d=>∃ (i:Int) (k:Nat),d=⟨[(0,.sl 1 false xs),(1,mkS x),(7,jI (O .len xs)),(8,jI i)],[],false⟩/\i=k/\k<=l.length/\n=l.length-k/\∀ j,j<k->l[j]?≠some x) ⟨_,_,⟨_,0,rfl,rfl,by omega,rfl,by simp⟩,⟨⟨rfl,rfl,rfl,rfl,trivial⟩,trivial,rfl⟩⟩ ?_
  rintro J up n d ⟨i,k,rfl,hi,hk,rfl,hno⟩
  conv=>cbv
  rintro (_|_) h1
  ·replace h1:=f_lss hO h1
   rw [hlen] at h1
   rcases hr with ⟨_,rfl⟩|⟨j,_,hj,_⟩
   ·conv=>cbv
    trivial
   ·exact absurd hj (hno j (by have:=(List.getElem?_eq_some_iff.1 hj).1;omega))
  ·replace h1:=t_lss hO h1
   rw [hlen] at h1
   obtain ⟨y,hy⟩:∃ y,l[k]?=some y:=⟨_,List.getElem?_eq_getElem (by omega)⟩
   conv=>cbv
   refine ⟨mkS y,y7Y hy hxs hi,?_⟩
   conv=>cbv
   rintro (_|_) h2
   ·replace h2:x≠y:=y3iY hO h2
    conv=>cbv
    refine ⟨_,_,up _ _ ⟨_,k+1,rfl,?_,by omega,rfl,?_⟩,⟨⟨rfl,rfl,rfl,rfl,trivial⟩,trivial,rfl⟩,by omega⟩
    ·rw [y0Y hO (by omega) (by omega)];omega
    ·intro j hj
     by_cases e:j=k
     ·subst e;rw [hy];simpa using Ne.symm h2
     ·exact hno j (by omega)
   ·replace h2:x=y:=y3hY hO h2
    conv=>cbv
    subst h2
    rcases hr with ⟨hm,_⟩|⟨j,rfl,hj,hmin⟩
    ·exact absurd (List.mem_of_getElem? hy) hm
    ·have:j=k:=by
      rcases Nat.lt_trichotomy j k with h|h|h
      ·exact absurd hj (hno j h)
      ·exact h
      ·exact absurd hy (hmin k h)
     rw [hi,this]
 ·intro hm
  rcases hr with ⟨h,_⟩|⟨k,rfl,_⟩
  ·exact absurd hm h
  ·omega
 ·intro hm
  rcases hr with ⟨_,h⟩|⟨k,_,hk,_⟩
  ·exact h
  ·exact absurd (List.mem_of_getElem? hk) hm
theorem ykgY (R:Ans) (l:List Str) (x:Str) (h69:∃ n:Int,R.v 106 [.sl 1 false (l.map mkS),mkS x] (jI n)/\(x∈l->0<=n)/\(x∉l->n=-1)):AnsF R c52 [.sl 1 false (l.map mkS),mkS x] (.bool (decide (x∈l))):=by
 obtain ⟨n,hn,h1,h2⟩:=h69
 have hc:CleanL (l.map mkS):=y8Y yhY rfl
 obtain ⟨xs,hxs⟩:∃ xs,xs=l.map mkS:=⟨_,rfl⟩
 obtain ⟨r,hr⟩:∃ r,r=decide (x∈l):=⟨_,rfl⟩
 rw [←hxs] at hn hc ⊢
 rw [←hr]
 refine y2Y ⟨rfl,by decide⟩ fun O hO V hV=>?_
 subst hV
 conv=>cbv
 refine ⟨hc,_,hn,?_⟩
 conv=>cbv
 rintro (_|_) h3
 ·replace h3:=f_geq hO h3
  conv=>cbv
  by_cases hm:x∈l
  ·have:=h1 hm;omega
  ·rw [hr];simp [hm]
 ·replace h3:=t_geq hO h3
  conv=>cbv
  by_cases hm:x∈l
  ·rw [hr];simp [hm]
  ·have:=h2 hm;omega
theorem ykhY (R:Ans) (l:List Str) (hl:l.length<8796093022208) (x:Str):AnsF R c247 [.sl 1 false (l.map mkS),mkS x] (.sl 1 false ((putS x l).map mkS)):=by
 obtain ⟨xs,hxs⟩:∃ xs,xs=l.map mkS:=⟨_,rfl⟩
 have hcx:CleanL xs:=y8Y yhY hxs
 obtain ⟨rs,hrs⟩:∃ rs,rs=(putS x l).map mkS:=⟨_,rfl⟩
 have hcr:CleanL rs:=y8Y yhY hrs
 rw [←hxs,←hrs]
 refine y2Y ⟨rfl,by decide⟩ fun O hO V hV=>?_
 have hlen:O .len xs=l.length:=by rw [o_len hO,hxs];simp
 conv=>cbv
 refine y4Y (fun n d=>∃ (i:Int) (k:Nat),d=⟨[(0,.sl 1 false xs),(1,mkS x),(5,jI i)],[],false⟩/\i=k/\k<=l.length/\n=l.length-k/\∀ j y,j<k->l[j]?=some y->y<x) ⟨_,_,⟨_,0,rfl,rfl,by omega,rfl,by simp⟩,⟨⟨rfl,rfl,rfl,trivial⟩,trivial,rfl⟩⟩ ?_
 rintro J up n d ⟨i,k,rfl,hi,hk,rfl,hno⟩
 have lay:(∀ y,l[k]?=some y->¬y<x)->l[k]?≠some x->rs=O .app (O .app (O .subL xs 0 i) [mkS x]) (O .subL xs i (O .len xs))/\CleanL (O .subL xs 0 i)/\CleanL (O .subL xs i (O .len xs))/\O .len (O .subL xs 0 i)=k/\O .len [mkS x]=1/\O .len (O .app (O .subL xs 0 i) [mkS x])=k+1/\O .len (O .subL xs i (O .len xs))=l.length-k:=by
  intro h1 h2
  obtain ⟨_,hp⟩:=y4bY x l k hk hno h1
  have e1:O .subL xs 0 i=(l.take k).map mkS:=by rw [y20Y hO,hxs,hi,←List.map_take];simp
  have e2:O .subL xs i (O .len xs)=(l.drop k).map mkS:=by rw [y20Y hO,hlen,hxs,hi,List.take_of_length_le (by simp)];simp
  refine ⟨?_,y8Y yhY e1,y8Y yhY e2,?_,?_,?_,?_⟩
  ·rw [hrs,hp h2,e1,e2,o_app hO,o_app hO];simp
  ·rw [o_len hO,e1];simp;omega
  ·rw [o_len hO];rfl
  ·rw [o_len hO,o_app hO,e1];simp;omega
  ·rw [o_len hO,e2];simp;omega
 have h1x:CleanL [mkS x]:=⟨rfl,rfl⟩
 conv=>cbv
 rintro (_|_) h1
 ·replace h1:=f_lss hO h1
  rw [hlen] at h1
  conv=>cbv
  have hn:l[k]?=none:=List.getElem?_eq_none (by omega)
  obtain ⟨hr,hc1,hc2,g1,g2,g3,g4⟩:=lay (by rw [hn];simp) (by rw [hn];simp)
  obtain ⟨ys,hys⟩:∃ ys,ys=O .subL xs 0 i:=⟨_,rfl⟩
  obtain ⟨zs,hzs⟩:∃ zs,zs=O .subL xs i (O .len xs):=⟨_,rfl⟩
  obtain ⟨ws,hws⟩:∃ ws,ws=O .app ys [mkS x]:=⟨_,rfl⟩
  rw [←hys,←hzs,←hws] at hr
  rw [←hys] at hc1 g1
  rw [←hzs] at hc2 g4
  rw [←hys,←hws] at g3
  rintro (_|_) h2
  ·conv=>cbv
   refine ⟨⟨by omega⟩,⟨by omega⟩,⟨by omega⟩,?_⟩
   rw [←hys]
   conv=>cbv
   refine ⟨hc1.x,⟨by rw [g1];omega⟩,fun g=>?_⟩
   conv=>cbv
   intro g'
   conv=>cbv
   refine ⟨h1x.x,⟨by rw [g1];show ((k:Int)+O .len [mkS x])*_<=_;rw [g2];omega⟩,?_⟩
   conv=>cbv
   refine ⟨⟨by omega⟩,⟨by omega⟩,⟨by omega⟩,?_⟩
   rw [←hzs]
   conv=>cbv
   refine ⟨hc2.x,⟨?_⟩,?_⟩
   ·show (O .len (O .app ys [mkS x])+O .len zs)*_<=_
    rw [←hws,g3,g4];omega
   ·conv=>cbv
    have:O .app (O .app ys [D.str ⟨⟨x⟩⟩]) zs=rs:=by rw [hr,hws];rfl
    rw [this]
    refine ⟨hcr,?_⟩
    conv=>cbv
    trivial
  ·replace h2:=t_lss hO h2
   rw [hlen] at h2
   exfalso
   omega
 ·replace h1:=t_lss hO h1
  rw [hlen] at h1
  obtain ⟨y,hy⟩:∃ y,l[k]?=some y:=⟨_,List.getElem?_eq_getElem (by omega)⟩
  conv=>cbv
  refine ⟨mkS y,y7Y hy hxs hi,?_⟩
  conv=>cbv
  rintro (_|_) h2
  ·replace h2:¬y<x:=y77Y hO h2
   have hk1:∀ z,l[k]?=some z->¬z<x:=fun z hz=>by rw [hy] at hz;simp only [Option.some.injEq] at hz;subst hz;exact h2
   conv=>cbv
   rintro (_|_) h3
   ·replace h3:=f_lss hO h3
    rw [hlen] at h3
    exfalso
    omega
   ·conv=>cbv
    refine ⟨mkS y,y7Y hy hxs hi,?_⟩
    conv=>cbv
    rintro (_|_) h4
    ·replace h4:y≠x:=y3iY hO h4
     conv=>cbv
     obtain ⟨hr,hc1,hc2,g1,g2,g3,g4⟩:=lay hk1 (by rw [hy];simpa using h4)
     obtain ⟨ys,hys⟩:∃ ys,ys=O .subL xs 0 i:=⟨_,rfl⟩
     obtain ⟨zs,hzs⟩:∃ zs,zs=O .subL xs i (O .len xs):=⟨_,rfl⟩
     obtain ⟨ws,hws⟩:∃ ws,ws=O .app ys [mkS x]:=⟨_,rfl⟩
     rw [←hys,←hzs,←hws] at hr
     rw [←hys] at hc1 g1
     rw [←hzs] at hc2 g4
     rw [←hys,←hws] at g3
     refine ⟨⟨by omega⟩,⟨by omega⟩,⟨by omega⟩,?_⟩
     rw [←hys]
     conv=>cbv
     refine ⟨hc1.x,⟨by rw [g1];omega⟩,fun g=>?_⟩
     conv=>cbv
     intro g'
     conv=>cbv
     refine ⟨h1x.x,⟨by rw [g1];show ((k:Int)+O .len [mkS x])*_<=_;rw [g2];omega⟩,?_⟩
     conv=>cbv
     refine ⟨⟨by omega⟩,⟨by omega⟩,⟨by omega⟩,?_⟩
     rw [←hzs]
     conv=>cbv
     refine ⟨hc2.x,⟨?_⟩,?_⟩
     ·show (O .len (O .app ys [mkS x])+O .len zs)*_<=_
      rw [←hws,g3,g4];omega
     ·conv=>cbv
      have:O .app (O .app ys [D.str ⟨⟨x⟩⟩]) zs=rs:=by rw [hr,hws];rfl
      rw [this]
      refine ⟨hcr,?_⟩
      conv=>cbv
      trivial
    ·replace h4:y=x:=y3hY hO h4
     have hp:=(y4bY x l k hk hno hk1).1 (by rw [hy,h4])
     rw [hp,←hxs] at hrs
     conv=>cbv
     rw [hrs]
     refine ⟨hcx,?_⟩
     conv=>cbv
     trivial
  ·replace h2:y<x:=y76Y hO h2
   conv=>cbv
   refine ⟨_,_,up _ _ ⟨_,k+1,rfl,?_,by omega,rfl,?_⟩,⟨⟨rfl,rfl,rfl,trivial⟩,trivial,rfl⟩,by omega⟩
   ·rw [y0Y hO (by omega) (by omega)];omega
   ·intro j z hj hz
    by_cases e:j=k
    ·subst e;rw [hy] at hz;simp only [Option.some.injEq] at hz;subst hz;exact h2
    ·exact hno j z (by omega) hz
theorem ykiY {l:List Str} {k:Nat} {y:Str} (h:l[k]?=some y) (f:List Str->Str->List Str) (a:List Str):(l.take (k+1)).foldl f a=f ((l.take k).foldl f a) y:=by
 rw [List.take_add_one,h,List.foldl_append]
 rfl
theorem ykjY (R:Ans) (h54:∀ (l:List Str) (x:Str),l.length<8796093022208->R.v 247 [.sl 1 false (l.map mkS),mkS x] (.sl 1 false ((putS x l).map mkS))) (l:List Str) (hl:l.length<=8796093022208):AnsF R c210 [.sl 1 false (l.map mkS)] (.sl 1 false ((ydY l).map mkS)):=by
 obtain ⟨xs,hxs⟩:∃ xs,xs=l.map mkS:=⟨_,rfl⟩
 have hcx:CleanL xs:=y8Y yhY hxs
 obtain ⟨rs,hrs⟩:∃ rs,rs=(ydY l).map mkS:=⟨_,rfl⟩
 rw [←hxs,←hrs]
 refine y2Y ⟨rfl,by decide⟩ fun O hO V hV=>?_
 subst hV
 have hlen:O .len xs=l.length:=by rw [o_len hO,hxs];simp
 conv=>cbv
 refine y4Y (fun n d=>∃ (i:Int) (k:Nat) (nl:Bool) (ac:List D),d=⟨[(0,.sl 1 false xs),(3,.sl 1 nl ac),(4,jI i)],[],false⟩/\i=k/\k<=l.length/\n=l.length-k/\ac=((l.take k).foldl (fun a x=>putS x a) []).map mkS) ⟨_,_,⟨_,0,_,_,rfl,rfl,by omega,rfl,by simp⟩,⟨⟨rfl,rfl,rfl,trivial⟩,trivial,rfl⟩⟩ ?_
 rintro J up n d ⟨i,k,nl,ac,rfl,hi,hk,rfl,has⟩
 have hca:CleanL ac:=y8Y yhY has
 have hla:((l.take k).foldl (fun a x=>putS x a) []).length<=k:=by
  have:=(y7eY (l.take k) [] (by simp [Rises])).2.2
  simp at this
  omega
 conv=>cbv
 rintro (_|_) h1
 ·replace h1:=f_lss hO h1
  rw [hlen] at h1
  have:ac=rs:=by rw [has,hrs,List.take_of_length_le (by omega)];rfl
  conv=>cbv
  rw [this] at hca ⊢
  exact ⟨hca,rfl⟩
 ·replace h1:=t_lss hO h1
  rw [hlen] at h1
  conv=>cbv
  obtain ⟨y,hy⟩:∃ y,l[k]?=some y:=⟨_,List.getElem?_eq_getElem (by omega)⟩
  have hc:=h54 ((l.take k).foldl (fun a x=>putS x a) []) y (by omega)
  rw [←has] at hc
  obtain ⟨bs,hbs⟩:∃ bs,bs=(putS y ((l.take k).foldl (fun a x=>putS x a) [])).map mkS:=⟨_,rfl⟩
  rw [←hbs] at hc
  refine ⟨mkS y,y7Y hy hxs hi,?_⟩
  conv=>cbv
  refine ⟨hca,_,hc,?_⟩
  conv=>cbv
  refine ⟨_,_,up _ _ ⟨_,k+1,false,bs,rfl,?_,by omega,rfl,?_⟩,⟨⟨rfl,rfl,rfl,trivial⟩,trivial,rfl⟩,by omega⟩
  ·rw [y0Y hO (by omega) (by omega)];omega
  ·rw [hbs,ykiY hy]
end Go.Proofs.AM
