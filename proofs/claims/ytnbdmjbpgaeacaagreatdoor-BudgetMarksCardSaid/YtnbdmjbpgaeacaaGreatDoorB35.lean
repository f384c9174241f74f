/- Part 35 of the lemmas: AJe, AJf. -/
import Derived.Test.YtnbdmjbpgaeacaaGreatDoorB34
import Derived.Test.YtnbdmjbpgaeacaaGreatDoorB30
import Derived.Test.YtnbdmjbpgaeacaaGreatDoorB06
set_option maxRecDepth 100000
set_option maxHeartbeats 8000000
set_option linter.all false
namespace Go.Proofs.AM
open Go Go.Lib Cd
def Q43:D->List (Nat × Box)->Prop:=(fun r kn=>∃ g1 g2 g3 g4 g5,r=.agg [jI 9,jI 5,jI 20,jI 10,jI 60,jI 30,.own 211 g4,.sl 12 true [],.own 214 g5,.sl 15 true [],.sl 8 true [],.sl 4 true [],.sl 7 true [],.sl 1 true []]/\kn=[(200,⟨g1,.rw,.var,[jI 9,jI 5,jI 20,jI 10,jI 60,jI 30,.own 211 g4,.sl 12 true [],.own 214 g5,.sl 15 true [],.sl 8 true [],.sl 4 true [],.sl 7 true [],.sl 1 true []]⟩),(204,⟨g2,.ro,.arr 4 144,typeL.offs.map ofgD⟩),(209,⟨g3,.ro,.arr 4 144,typeT.offs.map ofgD⟩),(211,⟨g4,.rw,.arr 7 147,[typeD typeL,typeD typeT]⟩),(214,⟨g5,.rw,.arr 10 53,[poolD (poolN 2)]⟩)])
theorem yp3Y (R:Ans):∀ O:Ops,O=Ops.std->∀ V:Ans,V=R->wpS O V 200 c43 [] [] Q43:=by
 intro O hO V hV
 conv=>cbv
 intro g1
 conv=>cbv
 intro g2
 conv=>cbv
 intro g3
 conv=>cbv
 intro g4
 conv=>cbv
 intro g5
 conv=>cbv
 repeat' (first|(refine And.intro ⟨rfl,rfl⟩ ?_)|(intro (g:Nat);(conv=>cbv)))
 exact ⟨g1,g2,g3,g4,g5,rfl,rfl⟩
theorem yp4Y (R:Ans) (hb:SCall R 200 43 [] [] Q43) (h44:∀ n,R.v 44 [mkS n] (yaY (nodeV n tA))) (m1:R.v 24 [snapD (budS 1 false),.sl 1 false ([tC1].map mkS)] (.tup [.bool true,jI 0])) (m2:R.v 24 [snapD (budS 1 false),.sl 1 false ([tC1,tC2].map mkS)] (.tup [.bool false,jI 0])) (m3:R.v 24 [snapD (budS 1 true),.sl 1 false ([tC1].map mkS)] (.tup [.bool false,jI 0])) (m4:R.v 24 [snapD (budS 1 true),.sl 1 false ([tC2].map mkS)] (.tup [.bool true,jI 0])) (m5:R.v 22 [snapD (budS 1 true),mkS tP] (.tup [jI 1,jI 0])):AnsF R c21 [] (.bool true):=by
 have k1:=h44 tC1
 have k2:=h44 tC2
 clear h44
 conv at k1=>cbv
 conv at k2=>cbv
 conv at m1=>cbv
 conv at m2=>cbv
 conv at m3=>cbv
 conv at m4=>cbv
 conv at m5=>cbv
 refine y2Y ⟨rfl,by decide⟩ fun O hO V hV=>?_
 subst hV
 conv=>cbv
 refine yi4Y hb (by decide) trivial ?_
 rintro _ _ ⟨g1,g2,g3,g4,g5,rfl,rfl⟩
 have hz:O .nat 0=0:=o_nat hO 0
 have hz1:O .nat 1=1:=o_nat hO 1
 conv=>cbv
 repeat' (first|(refine And.intro (by first|assumption|exact ⟨rfl,rfl⟩|exact ⟨by decide⟩|exact ⟨by omega⟩|exact ⟨rfl⟩) ?_)|(intro (g:Nat);(conv=>cbv)))
 refine ⟨⟨by rw [o_len hO];simp⟩,?_⟩
 rw [hz]
 refine ⟨_,rfl,?_⟩
 conv=>cbv
 repeat' (first|(refine And.intro (by first|assumption|exact ⟨rfl,rfl⟩|exact ⟨by decide⟩|exact ⟨by omega⟩|exact ⟨rfl⟩) ?_)|(intro (g:Nat);(conv=>cbv)))
 refine ⟨_,k1,?_⟩
 conv=>cbv
 repeat' (first|(refine And.intro (by first|assumption|exact ⟨rfl,rfl⟩|exact ⟨by decide⟩|exact ⟨by omega⟩|exact ⟨rfl⟩) ?_)|(intro (g:Nat);(conv=>cbv)))
 refine ⟨_,k2,?_⟩
 conv=>cbv
 repeat' (first|(refine And.intro (by first|assumption|exact ⟨rfl,rfl⟩|exact ⟨by decide⟩|exact ⟨by omega⟩|exact ⟨rfl⟩) ?_)|(intro (g:Nat);(conv=>cbv)))
 rw [o_set hO]
 conv=>cbv
 repeat' (first|(refine And.intro (by first|assumption|exact ⟨rfl,rfl⟩|exact ⟨by decide⟩|exact ⟨by omega⟩|exact ⟨rfl⟩) ?_)|(intro (g:Nat);(conv=>cbv)))
 refine ⟨_,m1,?_⟩
 conv=>cbv
 repeat' (first|(refine And.intro (by first|assumption|exact ⟨rfl,rfl⟩|exact ⟨by decide⟩|exact ⟨by omega⟩|exact ⟨rfl⟩) ?_)|(intro (g:Nat);(conv=>cbv)))
 refine ⟨_,m2,?_⟩
 conv=>cbv
 repeat' (first|(refine And.intro (by first|assumption|exact ⟨rfl,rfl⟩|exact ⟨by decide⟩|exact ⟨by omega⟩|exact ⟨rfl⟩) ?_)|(intro (g:Nat);(conv=>cbv)))
 refine ⟨⟨by rw [o_len hO];simp⟩,?_⟩
 rw [hz1]
 refine ⟨_,rfl,?_⟩
 conv=>cbv
 repeat' (first|(refine And.intro (by first|assumption|exact ⟨rfl,rfl⟩|exact ⟨by decide⟩|exact ⟨by omega⟩|exact ⟨rfl⟩) ?_)|(intro (g:Nat);(conv=>cbv)))
 rw [o_set hO]
 conv=>cbv
 repeat' (first|(refine And.intro (by first|assumption|exact ⟨rfl,rfl⟩|exact ⟨by decide⟩|exact ⟨by omega⟩|exact ⟨rfl⟩) ?_)|(intro (g:Nat);(conv=>cbv)))
 refine ⟨_,m3,?_⟩
 conv=>cbv
 repeat' (first|(refine And.intro (by first|assumption|exact ⟨rfl,rfl⟩|exact ⟨by decide⟩|exact ⟨by omega⟩|exact ⟨rfl⟩) ?_)|(intro (g:Nat);(conv=>cbv)))
 refine ⟨_,m4,?_⟩
 conv=>cbv
 repeat' (first|(refine And.intro (by first|assumption|exact ⟨rfl,rfl⟩|exact ⟨by decide⟩|exact ⟨by omega⟩|exact ⟨rfl⟩) ?_)|(intro (g:Nat);(conv=>cbv)))
 refine ⟨_,m5,?_⟩
 conv=>cbv
 rintro (_|_) h<;>replace h:=ci hO h<;>dsimp only [CmpI] at h<;>(conv=>cbv)
 case false=>exact absurd rfl h
 rintro (_|_) h<;>replace h:=ci hO h<;>dsimp only [CmpI] at h<;>(conv=>cbv)
 case false=>exact absurd rfl h
 rintro (_|_) h<;>replace h:=ci hO h<;>dsimp only [CmpI] at h<;>(conv=>cbv)
 case false=>exact absurd rfl h
 rintro (_|_) h<;>replace h:=ci hO h<;>dsimp only [CmpI] at h<;>(conv=>cbv)
 case false=>exact absurd rfl h
 rintro (_|_) h<;>replace h:=ci hO h<;>dsimp only [CmpI] at h<;>(conv=>cbv)
 case false=>exact absurd rfl h
 rintro (_|_) h<;>replace h:=ci hO h<;>dsimp only [CmpI] at h<;>(conv=>cbv)
 case false=>exact absurd rfl h
 all_goals (first|trivial|rfl)
theorem yp5Y (R:Ans) (s:SnapV) (pool:Str) (nodes:List Str) (h21:R.v 21 [] (.bool true)) (h22:R.v 22 [snapD s,mkS pool] (.tup [jI (yiY s pool).1,jI (yiY s pool).2])) (h23:R.v 23 [snapD s,mkS pool] (.tup [jI (yiY s pool).1,jI (yiY s pool).2])) (h24:R.v 24 [snapD s,.sl 1 false (nodes.map mkS)] (.tup [.bool (mayE s nodes).1,jI (mayE s nodes).2])) (h25:R.v 25 [snapD s,.sl 1 false (nodes.map mkS)] (.tup [.bool (mayE s nodes).1,jI (mayE s nodes).2])):AnsF R c3 [snapD s,mkS pool,.sl 1 false (nodes.map mkS)] (.bool true):=by
 obtain ⟨⟨a,e⟩,hr⟩:∃ r,r=yiY s pool:=⟨_,rfl⟩
 obtain ⟨⟨b,g⟩,hr2⟩:∃ r,r=mayE s nodes:=⟨_,rfl⟩
 rw [←hr] at h22 h23
 rw [←hr2] at h24 h25
 obtain ⟨ms,hms⟩:∃ xs,xs=nodes.map mkS:=⟨_,rfl⟩
 have cms:CleanL ms:=by rw [hms];exact y1rY _
 rw [←hms] at h24 h25 ⊢
 simp only at h22 h23 h24 h25
 clear hr hr2 hms
 obtain ⟨ty,po,pl,cl,cm,co,is,no,hce,hsn,cty,cpo,cpl,ccl,ccm,cco,cis,cno⟩:=y12Y s
 rw [hsn] at h22 h23 h24 h25 ⊢
 clear hce hsn
 refine y2Y ⟨rfl,by decide⟩ fun O hO V hV=>?_
 subst hV
 conv=>cbv
 repeat' (first|(refine And.intro (by first|assumption|exact ⟨by omega⟩|exact ⟨rfl⟩|exact ⟨rfl,rfl⟩) ?_)|(intro (g:Nat);(conv=>cbv)))
 refine ⟨_,h21,?_⟩
 conv=>cbv
 repeat' (first|(refine And.intro (by first|assumption|exact ⟨by omega⟩|exact ⟨rfl⟩|exact ⟨rfl,rfl⟩) ?_)|(intro (g:Nat);(conv=>cbv)))
 refine ⟨_,h22,?_⟩
 conv=>cbv
 repeat' (first|(refine And.intro (by first|assumption|exact ⟨by omega⟩|exact ⟨rfl⟩|exact ⟨rfl,rfl⟩) ?_)|(intro (g:Nat);(conv=>cbv)))
 refine ⟨_,h23,?_⟩
 conv=>cbv
 repeat' (first|(refine And.intro (by first|assumption|exact ⟨by omega⟩|exact ⟨rfl⟩|exact ⟨rfl,rfl⟩) ?_)|(intro (g:Nat);(conv=>cbv)))
 refine ⟨_,h24,?_⟩
 conv=>cbv
 repeat' (first|(refine And.intro (by first|assumption|exact ⟨by omega⟩|exact ⟨rfl⟩|exact ⟨rfl,rfl⟩) ?_)|(intro (g:Nat);(conv=>cbv)))
 refine ⟨_,h25,?_⟩
 conv=>cbv
 rintro (_|_) h1<;>replace h1:=ci hO h1<;>dsimp only [CmpI] at h1<;>(conv=>cbv)
 case false=>exact absurd rfl h1
 rintro (_|_) h2<;>replace h2:=ci hO h2<;>dsimp only [CmpI] at h2<;>(conv=>cbv)
 case false=>exact absurd rfl h2
 rintro t h3
 obtain rfl:t=true:=by rw [b_eq hO h3];simp
 conv=>cbv
 rintro (_|_) h4<;>replace h4:=ci hO h4<;>dsimp only [CmpI] at h4<;>(conv=>cbv)
 case false=>exact absurd rfl h4
 all_goals (first|trivial|rfl)
theorem yp6Y (R:Ans) (s:SnapV) (hF:FSnap s) (h21:R.v 21 [] (.bool true)) (h22:∀ n,R.v 22 [snapD s,mkS n] (.tup [jI (yiY s n).1,jI (yiY s n).2])) (h24:R.v 24 [snapD s,.sl 1 false []] (.tup [.bool (decide (snapE s=0)),jI (snapE s)])):AnsF R c6 [snapD s] (.bool true):=by
 have hlp:=hF.pools.lt
 have hlc:=hF.claims.lt
 have hcnt:snapE s=0->sumI (s.pools.map fun p=>goN s [] p.name)=((s.claims.filter fun c=>c.marked||decide (c.phase=4)).length:Int):=fun h=>ymcY h
 have hsz:snapE s=0->s.pools.length<=4/\s.claims.length<=16:=fun h=>by
  have:=(y6wY h).sizes
  unfold y2rY at this
  simp only [Bool.and_eq_true,decide_eq_true_eq] at this
  omega
 have hgp:∀ p∈s.pools,snapE s=0->yiY s p.name=(goN s [] p.name,0):=fun p hp h=>yomY h hp
 have hgb:∀ n,(yiY s n).2≠0->(yiY s n).1=0:=fun n h=>yonY h
 have hge:∀ n,(yiY s n).2=0->snapE s=0:=fun n h=>by
  unfold yiY at h
  split at h
  ·exact absurd h ‹_›
  ·omega
 have hgn:∀ n,0<=goN s [] n/\goN s [] n<=s.claims.length:=fun n=>by
  unfold goN
  have:=List.length_filter_le (fun c:ClaimV=>decide (c.pool=n)&&goesB [] c) s.claims
  omega
 obtain ⟨w,hw⟩:∃ w,w=snapE s:=⟨_,rfl⟩
 rw [←hw] at hcnt hsz hge h24
 have hgp:∀ p∈s.pools,w=0->yiY s p.name=(goN s [] p.name,0):=fun p hp h=>hgp p hp (hw.symm.trans h)
 obtain ⟨g,hg⟩:∃ g:PoolV->Int,g=fun p=>goN s [] p.name:=⟨_,rfl⟩
 have hgn:∀ p,0<=g p/\g p<=s.claims.length:=fun p=>by rw [hg];exact hgn p.name
 have hgp:∀ p∈s.pools,w=0->yiY s p.name=(g p,0):=fun p hp h=>by rw [hg];exact hgp p hp h
 rw [←hg] at hcnt
 obtain ⟨E,hE⟩:∃ E,E=yiY s:=⟨_,rfl⟩
 rw [←hE] at hgp hgb hge h22
 obtain ⟨P,hP⟩:∃ P,P=fun c:ClaimV=>c.marked||decide (c.phase=4):=⟨_,rfl⟩
 rw [←hP] at hcnt
 clear hw hg hE
 obtain ⟨ty,po,pl,cl,cm,co,is,no,hce,hsn,cty,cpo,cpl,ccl,ccm,cco,cis,cno⟩:=y12Y s
 rw [hsn] at h22 h24 ⊢
 have hxs:=hce.pl
 have hxc:=hce.cl
 obtain ⟨l,hl0⟩:∃ l,l=s.pools:=⟨_,rfl⟩
 obtain ⟨q,hq0⟩:∃ q,q=s.claims:=⟨_,rfl⟩
 rw [←hl0] at hlp hxs hcnt hsz hgp
 rw [←hq0] at hlc hxc hcnt hsz hgn
 clear hce hsn hl0 hq0 hF
 refine y2Y ⟨rfl,by decide⟩ fun O hO V hV=>?_
 subst hV
 have hlen:O .len pl=l.length:=by rw [o_len hO,hxs];simp
 have hlq:O .len cl=q.length:=by rw [o_len hO,hxc];simp
 have hsum:∀ k,w=0->0<=sumI ((l.take k).map g)/\sumI ((l.take k).map g)<=16*k:=fun k h=>by
  have h16:=(hsz h).2
  induction k with
  | zero=>simp [sumI]
  | succ k ih =>
    cases hy:l[k]? with
    | none=>rw [List.take_add_one,hy];simp only [Option.toList_none,List.append_nil];omega
    | some y =>
      rw [List.take_add_one,hy,List.map_append,yebY]
      have:=hgn y
      simp only [Option.toList_some,List.map_cons,List.map_nil,y41Y]
      have h0:sumI []=0:=rfl
      omega
 conv=>cbv
 refine ⟨_,h21,?_⟩
 conv=>cbv
 repeat' (first|(refine And.intro (by first|assumption|exact ⟨by omega⟩|exact ⟨by rw [hlen];omega⟩|exact ⟨rfl⟩|exact ⟨rfl,rfl⟩) ?_)|(intro (g:Nat);(conv=>cbv)))
 refine y4Y (fun n d=>∃ (i:Int) (k:Nat) (v:Int),d=⟨[(1,.ptr 1 1 0),(3,.bool true),(4,jI v),(15,.sl 10 false pl),(16,jI (O .len pl)),(17,jI i)],[(1,⟨1,.rw,.var,(sB s ty po pl cl cm co is no)⟩)],false⟩/\i=k/\k<=l.length/\n=l.length-k/\v=sumI ((l.take k).map g)/\(0<k->w=0)) ⟨_,_,⟨_,0,_,rfl,rfl,by omega,rfl,rfl,by simp⟩,⟨⟨rfl,rfl,rfl,rfl,rfl,rfl,trivial⟩,⟨rfl,trivial⟩,rfl⟩⟩ ?_
 rintro J up n d ⟨i,k,v,rfl,hi,hk,rfl,hv,hwk⟩
 conv=>cbv
 rintro (_|_) h1<;>(conv=>cbv)
 case true =>
  replace h1:=t_lss hO h1
  rw [hlen] at h1
  obtain ⟨y,hy⟩:∃ y,l[k]?=some y:=⟨_,List.getElem?_eq_getElem (by omega)⟩
  have hat:atX pl i (poolD y):=y6Y hy hxs hi
  have hk1:=h22 y.name
  have e1:=hgp y (List.mem_of_getElem? hy)
  have e2:=hgb y.name
  have e3:=hge y.name
  obtain ⟨⟨m,e⟩,hme⟩:∃ r,r=E y.name:=⟨_,rfl⟩
  rw [←hme] at hk1 e1 e2 e3
  simp only at hk1 e2 e3
  have hstep:sumI ((l.take (k+1)).map g)=v+g y:=by
   rw [List.take_add_one,hy,List.map_append,yebY,←hv]
   simp only [Option.toList_some,List.map_cons,List.map_nil,y41Y]
   have h0:sumI []=0:=rfl
   omega
  have hbnd:=hsum k
  have hbg:=hgn y
  have hlt:w=0->k<=4:=fun h=>by have:=(hsz h).1;omega
  have h16:=fun h=>(hsz h).2
  rw [←hv] at hbnd
  clear hme hy hv hsum hcnt hgn hgp hgb hge h22 h24
  obtain ⟨ynm,ywe,yl0,yl1,yrs,yts,yge,yex,ybu,yme⟩:=y
  simp only [poolD,poolC] at hat hk1
  obtain ⟨xyrs,hxyrs⟩:∃ xs,xs=yrs.map reqD:=⟨_,rfl⟩
  have cxyrs:CleanL xyrs:=by rw [hxyrs];exact y1iY _
  simp only [←hxyrs] at hat hk1 hstep hbg
  obtain ⟨xyts,hxyts⟩:∃ xs,xs=yts.map labD:=⟨_,rfl⟩
  have cxyts:CleanL xyts:=by rw [hxyts];exact ynY _
  simp only [←hxyts] at hat hk1 hstep hbg
  refine ⟨_,hat,?_⟩
  conv=>cbv
  repeat' (first|(refine And.intro (by first|assumption|exact ⟨by omega⟩|exact ⟨by rw [hlen];omega⟩|exact ⟨rfl⟩|exact ⟨rfl,rfl⟩) ?_)|(intro (g:Nat);(conv=>cbv)))
  refine ⟨_,hk1,?_⟩
  conv=>cbv
  rintro (_|_) h2<;>replace h2:=ci hO h2<;>dsimp only [CmpI] at h2<;>(conv=>cbv)
  case true =>
   obtain rfl:=e2 h2
   rintro (_|_) h3<;>replace h3:=ci hO h3<;>dsimp only [CmpI] at h3<;>(conv=>cbv)
   all_goals (first|exact absurd rfl h3|trivial|rfl)
  have hw0:=e3 h2
  obtain ⟨rfl,_⟩:=Prod.mk.inj (e1 hw0)
  have b1:=hbnd hw0
  have b2:=hlt hw0
  have b3:=h16 hw0
  exact ⟨_,_,up _ _ ⟨_,k+1,_,rfl,by rw [y0Y hO (by omega) (by omega)];omega,by omega,rfl,by rw [hstep];exact y0Y hO (by omega) (by omega),fun _=>hw0⟩,⟨⟨rfl,rfl,rfl,rfl,rfl,rfl,trivial⟩,⟨rfl,trivial⟩,rfl⟩,by omega⟩
 replace h1:=f_lss hO h1
 rw [hlen] at h1
 have hvb:0<=v/\v<=64:=by
  by_cases hw0:w=0
  ·have:=hsum k hw0
   have:=(hsz hw0).1
   rw [hv];omega
  ·have:k=0:=Nat.eq_zero_of_not_pos fun h=>hw0 (hwk h)
   subst this
   rw [hv]
   simp [sumI]
 rw [List.take_of_length_le (by omega)] at hv
 have hv2:w=0->v=((q.filter P).length:Int):=fun h=>by rw [hv];exact hcnt h
 clear hv hwk up hsum hcnt hsz hgn hgp hgb hge h22 h1
 repeat' (first|(refine And.intro (by first|assumption|exact ⟨by omega⟩|exact ⟨by rw [hlen];omega⟩|exact ⟨rfl⟩|exact ⟨rfl,rfl⟩) ?_)|(intro (g:Nat);(conv=>cbv)))
 obtain ⟨v0,hv0⟩:∃ v0,v0=v:=⟨_,rfl⟩
 rw [←hv0] at hvb hv2
 refine y4Y (fun n d=>∃ (i2:Int) (k2:Nat) (u:Int),d=⟨[(1,.ptr 1 1 0),(3,.bool true),(4,jI u),(40,.sl 15 false cl),(41,jI (O .len cl)),(42,jI i2)],[(1,⟨1,.rw,.var,(sB s ty po pl cl cm co is no)⟩)],false⟩/\i2=k2/\k2<=q.length/\n=q.length-k2/\u=v0-((q.take k2).filter P).length) ⟨_,_,⟨_,0,_,rfl,rfl,by omega,rfl,by rw [hv0];simp⟩,⟨⟨rfl,rfl,rfl,rfl,rfl,rfl,trivial⟩,⟨rfl,trivial⟩,rfl⟩⟩ ?_
 rintro J2 up n2 d2 ⟨i2,k2,u,rfl,hi2,hk2,rfl,hu⟩
 conv=>cbv
 rintro (_|_) h3<;>(conv=>cbv)
 ·replace h3:=f_lss hO h3
  rw [hlq] at h3
  rw [List.take_of_length_le (by omega)] at hu
  repeat' (first|(refine And.intro (by first|assumption|exact ⟨by omega⟩|exact ⟨by rw [hlen];omega⟩|exact ⟨rfl⟩|exact ⟨rfl,rfl⟩) ?_)|(intro (g:Nat);(conv=>cbv)))
  refine ⟨_,h24,?_⟩
  conv=>cbv
  rintro (_|_) h4<;>replace h4:=ci hO h4<;>dsimp only [CmpI] at h4<;>(conv=>cbv)
  case true=>first|trivial|rfl
  rintro (_|_) h5<;>replace h5:=ci hO h5<;>dsimp only [CmpI] at h5<;>(conv=>cbv)
  case true=>first|trivial|rfl
  exact absurd (by have:=hv2 (by omega);omega) h4
 replace h3:=t_lss hO h3
 rw [hlq] at h3
 obtain ⟨z,hz⟩:∃ z,q[k2]?=some z:=⟨_,List.getElem?_eq_getElem (by omega)⟩
 have hatz:atX cl i2 (yaY z):=y6Y hz hxc hi2
 have hfl:((q.take k2).filter P).length<=k2:=by have:=List.length_filter_le P (q.take k2);have:=List.length_take_le k2 q;omega
 have hn:P z=false->u=v0-((q.take (k2+1)).filter P).length:=fun h=>by rw [hu,List.take_add_one,hz,List.filter_append];simp [h]
 have hp:P z=true->u-1=v0-((q.take (k2+1)).filter P).length:=fun h=>by rw [hu,List.take_add_one,hz,List.filter_append];simp [h];omega
 have hPz:P z=(z.marked||decide (z.phase=4)):=by rw [hP]
 obtain ⟨w2,hw2⟩:∃ w,w=P z:=⟨_,rfl⟩
 rw [←hw2] at hn hp hPz
 clear hw2 hP hz
 obtain ⟨znm,zpo,zge,⟨zot,zoz,zok⟩,zpr,zc0,zc1,zos,ztr,zid,zph,zbo,zma⟩:=z
 simp only [yaY,y1cY] at hatz hPz
 obtain ⟨xzos,hxzos⟩:∃ xs,xs=zos.map offD:=⟨_,rfl⟩
 have cxzos:CleanL xzos:=by rw [hxzos];exact y19Y _
 simp only [←hxzos] at hatz hPz
 refine ⟨_,hatz,?_⟩
 conv=>cbv
 repeat' (first|(refine And.intro (by first|assumption|exact ⟨by omega⟩|exact ⟨by rw [hlen];omega⟩|exact ⟨rfl⟩|exact ⟨rfl,rfl⟩) ?_)|(intro (g:Nat);(conv=>cbv)))
 cases zma<;>(conv=>cbv)
 case true=>exact ⟨_,_,up _ _ ⟨_,k2+1,_,rfl,by rw [y0Y hO (by omega) (by omega)];omega,by omega,rfl,by rw [y1aY hO (by omega) (by omega)];exact hp (by rw [hPz];rfl)⟩,⟨⟨rfl,rfl,rfl,rfl,rfl,rfl,trivial⟩,⟨rfl,trivial⟩,rfl⟩,by omega⟩
 rintro (_|_) a2<;>replace a2:=ci hO a2<;>dsimp only [CmpI] at a2<;>(conv=>cbv)
 ·exact ⟨_,_,up _ _ ⟨_,k2+1,_,rfl,by rw [y0Y hO (by omega) (by omega)];omega,by omega,rfl,hn (by rw [hPz];simp [a2])⟩,⟨⟨rfl,rfl,rfl,rfl,rfl,rfl,trivial⟩,⟨rfl,trivial⟩,rfl⟩,by omega⟩
 ·exact ⟨_,_,up _ _ ⟨_,k2+1,_,rfl,by rw [y0Y hO (by omega) (by omega)];omega,by omega,rfl,by rw [y1aY hO (by omega) (by omega)];exact hp (by rw [hPz];simp [a2])⟩,⟨⟨rfl,rfl,rfl,rfl,rfl,rfl,trivial⟩,⟨rfl,trivial⟩,rfl⟩,by omega⟩
end Go.Proofs.AM
