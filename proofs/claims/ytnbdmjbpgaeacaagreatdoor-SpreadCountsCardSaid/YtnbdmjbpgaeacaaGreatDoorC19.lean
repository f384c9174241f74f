/- Part 19 of the lemmas: AOj. -/
import Derived.Test.YtnbdmjbpgaeacaaGreatDoorC17
import Derived.Test.YtnbdmjbpgaeacaaGreatDoorC06
set_option maxRecDepth 100000
set_option maxHeartbeats 8000000
set_option linter.all false
namespace Go.Proofs.AM
open Go Go.Lib Cd
theorem ymgY (R:Ans) (h:CO R) (c:CmdV) (hF:FCmd c):AnsF R c166 [cmdD c] (jI (cmdE c)):=by
 obtain ⟨cause,nodes,stp,til,fresh,pool,opts,made⟩:=c
 have hfn:FL nodes:=hF.nodes
 have k3:=h.btw til 0 1099511627776
 have k4:=h.none fresh hF.fresh
 have k5:=h.none pool hF.pool
 have k6:=h.offs opts hF.opts
 have kn:∀ y∈nodes,R.v 134 [.sl 1 false [mkS y]] (.bool (nameB y)):=fun y hy=>by
  have:=h.named [y] ⟨by simp,by simpa using hfn.all y hy⟩
  simpa using this
 have hlt:nodes.length<4611686018427387904:=by have:=hfn.len;omega
 obtain ⟨r,hr0⟩:∃ r,r=cmdE ⟨cause,nodes,stp,til,fresh,pool,opts,made⟩:=⟨_,rfl⟩
 rw [←hr0]
 unfold cmdE at hr0
 simp only at hr0
 obtain ⟨q1,hq1⟩:∃ q,q=(btw cause 1 4&&btw stp 1 3):=⟨_,rfl⟩
 obtain ⟨q2,hq2⟩:∃ q,q=decide (nodes.length<=4):=⟨_,rfl⟩
 obtain ⟨q3,hq3⟩:∃ q,q=decide (0<nodes.length):=⟨_,rfl⟩
 obtain ⟨q4,hq4⟩:∃ q,q=btw til 0 1099511627776:=⟨_,rfl⟩
 obtain ⟨q5,hq5⟩:∃ q,q=noneB fresh:=⟨_,rfl⟩
 obtain ⟨q6,hq6⟩:∃ q,q=noneB pool:=⟨_,rfl⟩
 obtain ⟨e6,he6⟩:∃ e,e=offsE opts:=⟨_,rfl⟩
 rw [←hq1,←hq2,←hq3,←hq4,←hq5,←hq6,←he6] at hr0
 rw [←hq4] at k3
 rw [←hq5] at k4
 rw [←hq6] at k5
 rw [←he6] at k6
 have w1:=h.want q1 1
 have w2:=h.want q2 3
 have w3:=h.want q3 1
 have w4:=h.want q4 1
 have w5:=h.want (q5&&q6) 7
 obtain ⟨e0,he0⟩:∃ e,e=y3Y [wantI q1 1,wantI q2 3,wantI q3 1]:=⟨_,rfl⟩
 have f0:=h.first [wantI q1 1,wantI q2 3,wantI q3 1] (by simp)
 rw [←he0] at f0
 have hr:r=if e0=0 then y3Y [scanE (upE nodeE nodes) nodes.length,wantI q4 1,wantI (q5&&q6) 7,e6] else e0:=by
  rw [hr0,he0];exact ylcY [_,_,_] _
 clear hr0 he0
 obtain ⟨v4,hv4⟩:∃ v,v=wantI q4 1:=⟨_,rfl⟩
 obtain ⟨v5,hv5⟩:∃ v,v=wantI (q5&&q6) 7:=⟨_,rfl⟩
 rw [←hv4] at w4 hr
 rw [←hv5] at w5 hr
 have f4:∀ e,R.v 132 [.sl 1 false [jI e,jI v4,jI v5,jI e6]] (jI (y3Y [e,v4,v5,e6])):=fun e=>h.first [e,v4,v5,e6] (by simp)
 have kw:∀ (b:Bool) (e:Int),R.v 133 [.bool b,jI e] (jI (wantI b e)):=h.want
 have fw:∀ a b:Int,R.v 132 [.sl 1 false [jI a,jI b]] (jI (y3Y [a,b])):=fun a b=>h.first [a,b] (by simp)
 clear h hF hv4 hv5 he6 hq4 hq5 hq6
 obtain ⟨L,hL⟩:∃ L,L=nodes.length:=⟨_,rfl⟩
 rw [←hL] at hq2 hq3 hlt hr
 unfold cmdD cmdC
 simp only [List.map] at f0
 obtain ⟨ns,hns⟩:∃ xs,xs=nodes.map mkS:=⟨_,rfl⟩
 obtain ⟨os,hos⟩:∃ xs,xs=opts.map offD:=⟨_,rfl⟩
 have c1:CleanL ns:=y8Y yhY hns
 have c2:CleanL os:=y8Y (fun _=>⟨rfl,rfl⟩) hos
 rw [←hos] at k6
 simp only [←hns,←hos]
 clear hos
 refine y2Y ⟨rfl,by decide⟩ fun O hO V hV=>?_
 subst hV
 have hlen:O .len ns=L:=by rw [o_len hO,hns,hL];simp
 cases q1<;>simp [btw] at hq1<;>cases q2<;>simp at hq2<;>cases q3<;>simp at hq3<;>simp only [y1dY,y4dY] at w1 w2 w3 f0<;>conv=>cbv
 all_goals (repeat' (first|(rintro (_|_) h<;>(replace h:=ci hO h)<;>(dsimp only [CmpI,CmpS] at h)<;>(try rw [hlen] at h)<;>first|(exfalso;omega)|(conv=>cbv))|(refine ⟨_,by assumption,?_⟩;(conv=>cbv))|(refine And.intro (by first|assumption|exact ⟨rfl⟩|exact ⟨rfl,rfl⟩) ?_)))
 all_goals (try (exfalso;omega))
 all_goals
  clear hq1
  refine y4Y (fun n d=>∃ (i:Int) (k:Nat) (e:Int),d=⟨[(1,.ptr 1 1 0),(3,jI e),(38,.sl 1 false ns),(39,jI (O .len ns)),(40,jI i)],[(1,⟨1,.rw,.var,[jI cause,.sl 1 false ns,jI stp,jI til,mkS fresh,mkS pool,.sl 3 false os,.bool made]⟩)],false⟩/\i=k/\k<=L/\n=L-k/\stepE (upE nodeE nodes) e0 e k) ⟨_,_,⟨_,0,e0,rfl,rfl,by omega,rfl,yldY⟩,⟨⟨rfl,rfl,rfl,rfl,rfl,trivial⟩,⟨rfl,trivial⟩,rfl⟩⟩ ?_
  rintro J up n d ⟨i,k,e,rfl,hi,hk,rfl,hst⟩
  conv=>cbv
  rintro (_|_) h7
  ·replace h7:=f_lss hO h7
   rw [hlen] at h7
   obtain rfl:k=L:=by omega
   rw [ylfY hst] at hr
   have f5:=f4 e
   obtain ⟨z,hz⟩:∃ z,z=y3Y [e,v4,v5,e6]:=⟨_,rfl⟩
   rw [←hz] at hr f5
   clear up hst hz
   conv=>cbv
   refine ⟨_,k3,?_⟩
   conv=>cbv
   refine ⟨_,w4,?_⟩
   conv=>cbv
   cases q5<;>simp only [Bool.true_and,Bool.false_and] at w5
   ·refine ⟨_,k4,?_⟩
    conv=>cbv
    refine ⟨_,w5,?_⟩
    conv=>cbv
    refine ⟨c2,_,k6,?_⟩
    conv=>cbv
    repeat' (refine And.intro (by first|assumption|exact ⟨rfl⟩|exact ⟨rfl,rfl⟩) ?_)
    refine ⟨_,f5,?_⟩
    conv=>cbv
    rw [hr]
   refine ⟨_,k4,?_⟩
   conv=>cbv
   refine ⟨_,k5,?_⟩
   conv=>cbv
   refine ⟨_,w5,?_⟩
   conv=>cbv
   refine ⟨c2,_,k6,?_⟩
   conv=>cbv
   repeat' (refine And.intro (by first|assumption|exact ⟨rfl⟩|exact ⟨rfl,rfl⟩) ?_)
   refine ⟨_,f5,?_⟩
   conv=>cbv
   rw [hr]
  ·replace h7:=t_lss hO h7
   rw [hlen] at h7
   obtain ⟨y,hy⟩:∃ y,nodes[k]?=some y:=⟨_,List.getElem?_eq_getElem (by omega)⟩
   have hat:atX ns i (mkS y):=y7Y hy hns hi
   have hk1:=kn y (List.mem_of_getElem? hy)
   obtain ⟨gg,hgg⟩:∃ g,g=upE nodeE nodes k:=⟨_,rfl⟩
   have hg:gg=nodeE y (nodes.take k):=hgg.trans (y14Y hy)
   unfold nodeE at hg
   obtain ⟨q,hq⟩:∃ q,q=nameB y:=⟨_,rfl⟩
   rw [←hq] at hk1 hg
   clear hq
   have wq:=kw q 7
   obtain ⟨vq,hvq⟩:∃ v,v=wantI q 7:=⟨_,rfl⟩
   rw [←hvq] at wq
   have wt:=kw true 6
   have wf:=kw false 6
   rw [y1dY] at wt
   rw [y4dY] at wf
   have ft:=fw vq 0
   have ff:=fw vq 6
   obtain ⟨z1,hz1⟩:∃ z,z=y3Y [vq,0]:=⟨_,rfl⟩
   obtain ⟨z2,hz2⟩:∃ z,z=y3Y [vq,6]:=⟨_,rfl⟩
   rw [←hz1] at ft
   rw [←hz2] at ff
   have e1:k=0->z1=gg:=fun h=>by
    subst h
    rw [hz1,hvq,hg];cases q<;>rfl
   have e2:0<k->∃ p,nodes[k-1]?=some p/\(p<y->z1=gg)/\(¬p<y->z2=gg):=fun h=>by
    obtain ⟨p,hp⟩:∃ p,nodes[k-1]?=some p:=⟨_,List.getElem?_eq_getElem (by omega)⟩
    rw [y34Y h hp] at hg
    refine ⟨p,hp,fun h1=>?_,fun h1=>?_⟩
    ·rw [hz1,hvq,hg];cases q<;>simp [ycY,h1]
    ·rw [hz2,hvq,hg];cases q<;>simp [ycY,h1]
   clear hz1 hz2 hvq hg
   have hnext:∀ e',e=0->e'=gg->J (L-k-1) ⟨[(1,.ptr 1 1 0),(3,jI e'),(38,.sl 1 false ns),(39,jI (O .len ns)),(40,jI (O .iop .add .i64 i 1))],[(1,⟨1,.rw,.var,[jI cause,.sl 1 false ns,jI stp,jI til,mkS fresh,mkS pool,.sl 3 false os,.bool made]⟩)],false⟩:=fun e' h1 h2=>up _ _ ⟨_,k+1,e',rfl,by rw [y0Y hO (by omega) (by omega)];omega,by omega,by omega,yleY hst h1 (h2.trans hgg)⟩
   conv=>cbv
   refine ⟨_,hat,?_⟩
   conv=>cbv
   rintro (_|_) h8<;>replace h8:=ci hO h8<;>dsimp only [CmpI] at h8
   case true =>
    conv=>cbv
    rw [hr,yezY hst h8 (by omega)]
   conv=>cbv
   intro g49
   conv=>cbv
   repeat' (refine And.intro (by first|assumption|exact ⟨rfl⟩|exact ⟨rfl,rfl⟩) ?_)
   refine ⟨_,hk1,?_⟩
   conv=>cbv
   refine ⟨_,wq,?_⟩
   conv=>cbv
   rintro (_|_) h9<;>replace h9:=ci hO h9<;>dsimp only [CmpI] at h9
   case true =>
    conv=>cbv
    refine ⟨_,wt,?_⟩
    conv=>cbv
    intro g65
    conv=>cbv
    repeat' (refine And.intro (by first|assumption|exact ⟨rfl⟩|exact ⟨rfl,rfl⟩) ?_)
    refine ⟨_,ft,?_⟩
    conv=>cbv
    exact ⟨_,_,hnext _ h8 (e1 (by omega)),⟨⟨rfl,rfl,rfl,rfl,rfl,trivial⟩,⟨rfl,trivial⟩,rfl⟩,by omega⟩
   obtain ⟨p,hp,e3,e4⟩:=e2 (by omega)
   have hsub:O .iop .sub .i64 i 1=((k-1:Nat):Int):=by rw [y15Y hO (by omega) (by omega)];omega
   have hat2:atX ns (O .iop .sub .i64 i 1) (mkS p):=y7Y hp hns hsub
   conv=>cbv
   refine ⟨_,hat2,?_⟩
   conv=>cbv
   rintro (_|_) h10<;>replace h10:=cs hO h10<;>dsimp only [CmpS] at h10
   ·conv=>cbv
    refine ⟨_,wf,?_⟩
    conv=>cbv
    intro g65
    conv=>cbv
    repeat' (refine And.intro (by first|assumption|exact ⟨rfl⟩|exact ⟨rfl,rfl⟩) ?_)
    refine ⟨_,ff,?_⟩
    conv=>cbv
    exact ⟨_,_,hnext _ h8 (e4 h10),⟨⟨rfl,rfl,rfl,rfl,rfl,trivial⟩,⟨rfl,trivial⟩,rfl⟩,by omega⟩
   ·conv=>cbv
    refine ⟨_,wt,?_⟩
    conv=>cbv
    intro g65
    conv=>cbv
    repeat' (refine And.intro (by first|assumption|exact ⟨rfl⟩|exact ⟨rfl,rfl⟩) ?_)
    refine ⟨_,ft,?_⟩
    conv=>cbv
    exact ⟨_,_,hnext _ h8 (e3 h10),⟨⟨rfl,rfl,rfl,rfl,rfl,trivial⟩,⟨rfl,trivial⟩,rfl⟩,by omega⟩
end Go.Proofs.AM
