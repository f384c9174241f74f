/- Part 34 of the lemmas: AJa, AJb, AJc, AJd. -/
import Derived.Test.YtnbdmjbpgaeacaaGreatDoorB32
import Derived.Test.YtnbdmjbpgaeacaaGreatDoorB29
import Derived.Test.YtnbdmjbpgaeacaaGreatDoorB33
import Derived.Test.YtnbdmjbpgaeacaaGreatDoorB30
import Derived.Test.YtnbdmjbpgaeacaaGreatDoorB06
set_option maxRecDepth 100000
set_option maxHeartbeats 8000000
set_option linter.all false
namespace Go.Proofs.AM
open Go Go.Lib Cd
theorem yotY (R:Ans) (y:PoolV) (n:Str):AnsF R c47 [poolD y,.vptr (.agg [mkS n]) 0] (.bool (decide (y.name=n))):=by
 obtain ⟨r,hr⟩:∃ r,r=decide (y.name=n):=⟨_,rfl⟩
 rw [←hr]
 obtain ⟨u,hu⟩:∃ u,u=poolD y:=⟨_,rfl⟩
 rw [←hu]
 obtain ⟨ynm,ywe,yl0,yl1,yrs,yts,yge,yex,ybu,yme⟩:=y
 simp only [poolD,poolC] at hr hu
 obtain ⟨xyrs,hxyrs⟩:∃ xs,xs=yrs.map reqD:=⟨_,rfl⟩
 have cxyrs:CleanL xyrs:=by rw [hxyrs];exact y1iY _
 simp only [←hxyrs] at hr hu
 obtain ⟨xyts,hxyts⟩:∃ xs,xs=yts.map labD:=⟨_,rfl⟩
 have cxyts:CleanL xyts:=by rw [hxyts];exact ynY _
 simp only [←hxyts] at hr hu
 subst hu
 refine y2Y ⟨rfl,by decide⟩ fun O hO V hV=>?_
 subst hV
 conv=>cbv
 repeat' (rintro (_|_) h<;>(first|replace h:=ci hO h|replace h:=cs hO h)<;>(dsimp only [CmpI,CmpS] at h)<;>(conv=>cbv))
 all_goals (rw [hr];simp_all)
theorem youY (R:Ans) (y:ClaimV) (n:Str):AnsF R c51 [yaY y,.vptr (.agg [mkS n]) 0] (.bool (decide (y.name=n))):=by
 obtain ⟨r,hr⟩:∃ r,r=decide (y.name=n):=⟨_,rfl⟩
 rw [←hr]
 obtain ⟨u,hu⟩:∃ u,u=yaY y:=⟨_,rfl⟩
 rw [←hu]
 obtain ⟨ynm,ypo,yge,⟨yot,yoz,yok⟩,ypr,yc0,yc1,yos,ytr,yid,yph,ybo,yma⟩:=y
 simp only [yaY,y1cY] at hr hu
 obtain ⟨xyos,hxyos⟩:∃ xs,xs=yos.map offD:=⟨_,rfl⟩
 have cxyos:CleanL xyos:=by rw [hxyos];exact y19Y _
 simp only [←hxyos] at hr hu
 subst hu
 refine y2Y ⟨rfl,by decide⟩ fun O hO V hV=>?_
 subst hV
 conv=>cbv
 repeat' (rintro (_|_) h<;>(first|replace h:=ci hO h|replace h:=cs hO h)<;>(dsimp only [CmpI,CmpS] at h)<;>(conv=>cbv))
 all_goals (rw [hr];simp_all)
theorem yovY (R:Ans) (n:Str):AnsF R c44 [mkS n] (yaY (nodeV n tA)):=by
 obtain ⟨r,hr⟩:∃ r,r=yaY (nodeV n tA):=⟨_,rfl⟩
 rw [←hr]
 conv at hr=>rhs;cbv
 refine y2Y ⟨rfl,by decide⟩ fun O hO V hV=>?_
 subst hV
 conv=>cbv
 repeat' (first|(refine And.intro (by first|assumption|exact ⟨by omega⟩|exact ⟨rfl⟩|exact ⟨rfl,rfl⟩) ?_)|(intro (g:Nat);(conv=>cbv)))
 exact hr.symm
theorem yowY (R:Ans) (l:List Str) (hl:l.length<4611686018427387904) (x:Str):AnsF R c26 [.sl 1 false (l.map mkS),mkS x] (.bool (decide (x∈l))):=by
 obtain ⟨r,hr⟩:∃ r,r=decide (x∈l):=⟨_,rfl⟩
 rw [←hr]
 obtain ⟨xs,hxs⟩:∃ xs,xs=l.map mkS:=⟨_,rfl⟩
 rw [←hxs]
 refine y2Y ⟨rfl,by decide⟩ fun O hO V hV=>?_
 subst hV
 have hlen:O .len xs=l.length:=by rw [o_len hO,hxs];simp
 conv=>cbv
 refine y4Y (fun n d=>∃ (i:Int) (k:Nat),d=⟨[(1,mkS x),(7,.sl 1 false xs),(8,jI (O .len xs)),(9,jI i)],[],false⟩/\i=k/\k<=l.length/\n=l.length-k/\x∉l.take k) ⟨_,_,⟨_,0,rfl,rfl,by omega,rfl,by simp⟩,⟨⟨rfl,rfl,rfl,rfl,trivial⟩,trivial,rfl⟩⟩ ?_
 rintro J up n d ⟨i,k,rfl,hi,hk,rfl,hno⟩
 conv=>cbv
 rintro (_|_) h1<;>(conv=>cbv)
 ·replace h1:=f_lss hO h1
  rw [hlen] at h1
  rw [List.take_of_length_le (by omega)] at hno
  rw [hr,decide_eq_false hno]
 replace h1:=t_lss hO h1
 rw [hlen] at h1
 obtain ⟨y,hy⟩:∃ y,l[k]?=some y:=⟨_,List.getElem?_eq_getElem (by omega)⟩
 have hat:atX xs i (mkS y):=y6Y hy hxs hi
 refine ⟨_,hat,?_⟩
 conv=>cbv
 repeat' (first|(refine And.intro (by first|assumption|exact ⟨by omega⟩|exact ⟨by rw [hlen];omega⟩|exact ⟨rfl⟩|exact ⟨rfl,rfl⟩) ?_)|(intro (g:Nat);(conv=>cbv)))
 rintro (_|_) h<;>replace h:=cs hO h<;>dsimp only [CmpS] at h<;>(conv=>cbv)
 ·exact ⟨_,_,up _ _ ⟨_,k+1,rfl,by rw [y0Y hO (by omega) (by omega)];omega,by omega,rfl,by rw [List.take_add_one,hy];simp [hno,Ne.symm h]⟩,⟨⟨rfl,rfl,rfl,rfl,trivial⟩,trivial,rfl⟩,by omega⟩
 ·rw [hr,decide_eq_true (by rw [←h];exact List.mem_of_getElem? hy)]
theorem yoxY (R:Ans) (s:SnapV) (l:List Str) (hl:l.length<4611686018427387904) (h76:∀ n,R.v 76 [snapD s,mkS n] (.tup [yaY ((s.claims.find? fun x=>decide (x.name=n)).getD zeroC),.bool (s.claims.find? fun x=>decide (x.name=n)).isSome])):AnsF R c53 [snapD s,.sl 1 false (l.map mkS)] (jI (y1dY s l)):=by
 obtain ⟨r,hr⟩:∃ r,r=y1dY s l:=⟨_,rfl⟩
 rw [←hr]
 unfold y1dY at hr
 obtain ⟨G,hG⟩:∃ G,G=upE (y31Y s) l:=⟨_,rfl⟩
 rw [←hG] at hr
 obtain ⟨xs,hxs⟩:∃ xs,xs=l.map mkS:=⟨_,rfl⟩
 have cx:CleanL xs:=by rw [hxs];exact y1rY _
 rw [←hxs]
 obtain ⟨ty,po,pl,cl,cm,co,is,no,hce,hsn,cty,cpo,cpl,ccl,ccm,cco,cis,cno⟩:=y12Y s
 rw [hsn] at h76 ⊢
 clear hsn
 refine y2Y ⟨rfl,by decide⟩ fun O hO V hV=>?_
 subst hV
 have hlen:O .len xs=l.length:=by rw [o_len hO,hxs];simp
 conv=>cbv
 refine y4Y (fun n d=>∃ (i:Int) (k:Nat),d=⟨[(1,.sl 1 false xs),(2,.ptr 2 1 0),(11,.sl 1 false xs),(12,jI (O .len xs)),(13,jI i)],[(2,⟨1,.rw,.var,(sB s ty po pl cl cm co is no)⟩)],false⟩/\i=k/\k<=l.length/\n=l.length-k/\∀ j,j<k->G j=0) ⟨_,_,⟨_,0,rfl,rfl,by omega,rfl,by simp⟩,⟨⟨rfl,rfl,rfl,rfl,rfl,trivial⟩,⟨rfl,trivial⟩,rfl⟩⟩ ?_
 rintro J up n d ⟨i,k,rfl,hi,hk,rfl,hno⟩
 conv=>cbv
 rintro (_|_) h1<;>(conv=>cbv)
 ·replace h1:=f_lss hO h1
  rw [hlen] at h1
  rw [hr,ysY (fun j hj=>hno j (by omega))]
 replace h1:=t_lss hO h1
 rw [hlen] at h1
 obtain ⟨y,hy⟩:∃ y,l[k]?=some y:=⟨_,List.getElem?_eq_getElem (by omega)⟩
 have hat:atX xs i (mkS y):=y6Y hy hxs hi
 obtain ⟨e,he⟩:∃ e,e=G k:=⟨_,rfl⟩
 have hend:∀ v,e=v->v≠0->v=r:=fun v h1 h2=>by rw [hr];exact (yfY (by omega) hno (h1.symm.trans he) h2).symm
 have hgo:e=0->∀ j,j<k+1->G j=0:=fun h=>yhY hno (he.symm.trans h)
 rw [hG,y10Y hy] at he
 unfold y31Y at he
 have hk1:=h76 y
 have hcl:(s.claims.find? fun x=>decide (x.name=y)).isSome=y14Y s y:=y5vY
 rw [hcl] at hk1
 obtain ⟨cx2,hcx⟩:∃ cx,cx=(s.claims.find? fun x=>decide (x.name=y)).getD zeroC:=⟨_,rfl⟩
 rw [←hcx] at hk1
 obtain ⟨q1,hq1⟩:∃ w,w=y14Y s y:=⟨_,rfl⟩
 rw [←hq1] at he hk1
 obtain ⟨P,hP⟩:∃ P:Str->Bool,P=fun z=>decide (y=z):=⟨_,rfl⟩
 rw [←hP] at he
 obtain ⟨q5,hq5⟩:∃ w,w=(l.take k).any P:=⟨_,rfl⟩
 rw [←hq5] at he
 obtain ⟨l2,hl2⟩:∃ l2,l2=l.take k:=⟨_,rfl⟩
 have hlen2:l2.length=k:=by rw [hl2];simp;omega
 obtain ⟨ys,hys⟩:∃ ys,ys=O .subL xs 0 i:=⟨_,rfl⟩
 have hyl:ys=l2.map mkS:=by rw [hys,y1vY hO,hxs,hi,hl2,←List.map_take];simp
 have hlys:O .len ys=k:=by rw [o_len hO,hyl];simp [hlen2]
 rw [←hl2] at hq5
 clear hq1 hcl hcx hy h76 hG
 obtain ⟨znm,zpo,zge,⟨zot,zoz,zok⟩,zpr,zc0,zc1,zos,ztr,zid,zph,zbo,zma⟩:=cx2
 simp only [yaY,y1cY] at hk1
 obtain ⟨xzos,hxzos⟩:∃ xs,xs=zos.map offD:=⟨_,rfl⟩
 have cxzos:CleanL xzos:=by rw [hxzos];exact y19Y _
 simp only [←hxzos] at hk1
 refine ⟨_,hat,?_⟩
 conv=>cbv
 repeat' (first|(refine And.intro (by first|assumption|exact ⟨by omega⟩|exact ⟨by rw [hlen];omega⟩|exact ⟨rfl⟩|exact ⟨rfl,rfl⟩) ?_)|(intro (g:Nat);(conv=>cbv)))
 refine ⟨_,hk1,?_⟩
 conv=>cbv
 repeat' (first|(refine And.intro (by first|assumption|exact ⟨by omega⟩|exact ⟨by rw [hlen];omega⟩|exact ⟨rfl⟩|exact ⟨rfl,rfl⟩) ?_)|(intro (g:Nat);(conv=>cbv)))
 cases q1<;>(conv=>cbv)
 case false=>exact congrArg (D.int .i64) (hend 5 (by rw [he];rfl) (by decide))
 repeat' (first|(refine And.intro (by first|assumption|exact ⟨by omega⟩|exact ⟨by rw [hlen];omega⟩|exact ⟨rfl⟩|exact ⟨rfl,rfl⟩) ?_)|(intro (g:Nat);(conv=>cbv)))
 repeat' (refine And.intro (by first|assumption|exact ⟨by omega⟩|exact ⟨by rw [hlen];omega⟩|exact ⟨rfl⟩) ?_)
 rw [←hys]
 conv=>cbv
 refine y4Y (fun n d=>∃ (i2:Int) (k2:Nat),d=⟨[(1,.sl 1 false xs),(2,.ptr 2 1 0),(6,mkS y),(11,.sl 1 false xs),(12,jI (O .len xs)),(13,jI i),(28,.sl 1 false ys),(29,jI (O .len ys)),(30,jI i2)],[(2,⟨1,.rw,.var,(sB s ty po pl cl cm co is no)⟩)],false⟩/\i2=k2/\k2<=k/\n=k-k2/\∀ (j:Nat) z,j<k2->l2[j]?=some z->P z=false) ⟨_,_,⟨_,0,rfl,rfl,by omega,rfl,by simp⟩,⟨⟨rfl,rfl,rfl,rfl,rfl,rfl,rfl,rfl,rfl,trivial⟩,⟨rfl,trivial⟩,rfl⟩⟩ ?_
 rintro J2 up2 n2 d2 ⟨i2,k2,rfl,hi2,hk2,rfl,hno2⟩
 conv=>cbv
 rintro (_|_) h2<;>(conv=>cbv)
 ·replace h2:=f_lss hO h2
  rw [hlys] at h2
  have hqf:q5=false:=by
   rw [hq5,List.any_eq_false]
   intro z hz
   obtain ⟨j,hj⟩:=List.mem_iff_getElem?.1 hz
   simpa using hno2 j z (by have:=(List.getElem?_eq_some_iff.1 hj).1;omega) hj
  rw [hqf] at he
  exact ⟨_,_,up _ _ ⟨_,k+1,rfl,by rw [y0Y hO (by omega) (by omega)];omega,by omega,rfl,hgo (by rw [he];rfl)⟩,⟨⟨rfl,rfl,rfl,rfl,rfl,trivial⟩,⟨rfl,trivial⟩,rfl⟩,by omega⟩
 replace h2:=t_lss hO h2
 rw [hlys] at h2
 obtain ⟨z,hz⟩:∃ z,l2[k2]?=some z:=⟨_,List.getElem?_eq_getElem (by omega)⟩
 have hatz:atX ys i2 (mkS z):=y6Y hz hyl hi2
 refine ⟨_,hatz,?_⟩
 conv=>cbv
 repeat' (first|(refine And.intro (by first|assumption|exact ⟨by omega⟩|exact ⟨by rw [hlen];omega⟩|exact ⟨rfl⟩|exact ⟨rfl,rfl⟩) ?_)|(intro (g:Nat);(conv=>cbv)))
 rintro (_|_) h3<;>replace h3:=cs hO h3<;>dsimp only [CmpS] at h3<;>(conv=>cbv)
 case true =>
  have hqt:q5=true:=by rw [hq5,List.any_eq_true];exact ⟨z,List.mem_of_getElem? hz,by rw [hP];simp [h3]⟩
  rw [hqt] at he
  exact congrArg (D.int .i64) (hend 6 (by rw [he];rfl) (by decide))
 exact ⟨_,_,up2 _ _ ⟨_,k2+1,rfl,by rw [y0Y hO (by omega) (by omega)];omega,by omega,rfl,fun j u hj hu=>by
  rcases Nat.lt_succ_iff_lt_or_eq.1 hj with h5|rfl
  ·exact hno2 j u h5 hu
  ·rw [hz] at hu;simp only [Option.some.injEq] at hu;rw [←hu,hP];simp [Ne.symm h3]⟩,⟨⟨rfl,rfl,rfl,rfl,rfl,rfl,rfl,rfl,rfl,trivial⟩,⟨rfl,trivial⟩,rfl⟩,by omega⟩
theorem yoyY (R:Ans) (s:SnapV) (hl:s.claims.length<4611686018427387904) (pool:Str) (h33:R.v 33 [snapD s] (jI (snapE s))) (h49:R.v 49 [snapD s,mkS pool] (.tup [poolD ((s.pools.find? fun x=>decide (x.name=pool)).getD y2sY),.bool (s.pools.find? fun x=>decide (x.name=pool)).isSome])):AnsF R c23 [snapD s,mkS pool] (.tup [jI (yiY s pool).1,jI (yiY s pool).2]):=by
 have hpl:(s.pools.find? fun x=>decide (x.name=pool)).isSome=yzY s pool:=y5vY
 rw [hpl] at h49
 obtain ⟨px,hpx⟩:∃ px,px=(s.pools.find? fun x=>decide (x.name=pool)).getD y2sY:=⟨_,rfl⟩
 rw [←hpx] at h49
 obtain ⟨⟨r1,r2⟩,hr⟩:∃ r,r=yiY s pool:=⟨_,rfl⟩
 rw [←hr]
 unfold yiY goN at hr
 obtain ⟨w,hw⟩:∃ w,w=snapE s:=⟨_,rfl⟩
 obtain ⟨q1,hq1⟩:∃ w,w=yzY s pool:=⟨_,rfl⟩
 obtain ⟨P,hP⟩:∃ P,P=fun c:ClaimV=>decide (c.pool=pool)&&goesB [] c:=⟨_,rfl⟩
 rw [←hw,←hq1,←hP] at hr
 rw [←hw] at h33
 rw [←hq1] at h49
 clear hpl hpx hw hq1
 obtain ⟨ty,po,pl,cl,cm,co,is,no,hce,hsn,cty,cpo,cpl,ccl,ccm,cco,cis,cno⟩:=y12Y s
 rw [hsn] at h33 h49 ⊢
 have hxs:=hce.cl
 obtain ⟨l,hl0⟩:∃ l,l=s.claims:=⟨_,rfl⟩
 rw [←hl0] at hl hr hxs
 clear hce hsn hl0
 obtain ⟨znm,zwe,zl0,zl1,zrs,zts,zge,zex,zbu,zme⟩:=px
 simp only [poolD,poolC] at h49
 obtain ⟨xzrs,hxzrs⟩:∃ xs,xs=zrs.map reqD:=⟨_,rfl⟩
 have cxzrs:CleanL xzrs:=by rw [hxzrs];exact y1iY _
 simp only [←hxzrs] at h49
 obtain ⟨xzts,hxzts⟩:∃ xs,xs=zts.map labD:=⟨_,rfl⟩
 have cxzts:CleanL xzts:=by rw [hxzts];exact ynY _
 simp only [←hxzts] at h49
 refine y2Y ⟨rfl,by decide⟩ fun O hO V hV=>?_
 subst hV
 have hlen:O .len cl=l.length:=by rw [o_len hO,hxs];simp
 conv=>cbv
 repeat' (first|(refine And.intro (by first|assumption|exact ⟨by omega⟩|exact ⟨by rw [hlen];omega⟩|exact ⟨rfl⟩|exact ⟨rfl,rfl⟩) ?_)|(intro (g:Nat);(conv=>cbv)))
 refine ⟨_,h33,?_⟩
 conv=>cbv
 rintro (_|_) h<;>replace h:=ci hO h<;>dsimp only [CmpI] at h<;>(conv=>cbv)
 case true =>
  rw [if_pos h] at hr
  obtain ⟨rfl,rfl⟩:=Prod.mk.inj hr
  rfl
 rw [if_neg (by omega)] at hr
 repeat' (first|(refine And.intro (by first|assumption|exact ⟨by omega⟩|exact ⟨by rw [hlen];omega⟩|exact ⟨rfl⟩|exact ⟨rfl,rfl⟩) ?_)|(intro (g:Nat);(conv=>cbv)))
 refine ⟨_,h49,?_⟩
 conv=>cbv
 repeat' (first|(refine And.intro (by first|assumption|exact ⟨by omega⟩|exact ⟨by rw [hlen];omega⟩|exact ⟨rfl⟩|exact ⟨rfl,rfl⟩) ?_)|(intro (g:Nat);(conv=>cbv)))
 cases q1<;>(conv=>cbv)
 case false =>
  obtain ⟨rfl,rfl⟩:=Prod.mk.inj hr
  rfl
 rw [if_pos rfl] at hr
 obtain ⟨hr1,rfl⟩:=Prod.mk.inj hr
 clear hr h33 h49
 refine y4Y (fun n d=>∃ (i:Int) (k:Nat) (v:Int),d=⟨[(1,mkS pool),(9,jI v),(26,.sl 15 false cl),(27,jI (O .len cl)),(28,jI i)],[],false⟩/\i=k/\k<=l.length/\n=l.length-k/\v=((l.take k).filter P).length) ⟨_,_,⟨_,0,_,rfl,rfl,by omega,rfl,by simp⟩,⟨⟨rfl,rfl,rfl,rfl,rfl,trivial⟩,trivial,rfl⟩⟩ ?_
 rintro J up n d ⟨i,k,v,rfl,hi,hk,rfl,hv⟩
 conv=>cbv
 rintro (_|_) h1<;>(conv=>cbv)
 ·replace h1:=f_lss hO h1
  rw [hlen] at h1
  rw [List.take_of_length_le (by omega)] at hv
  rw [hr1,←hv]
 replace h1:=t_lss hO h1
 rw [hlen] at h1
 obtain ⟨y,hy⟩:∃ y,l[k]?=some y:=⟨_,List.getElem?_eq_getElem (by omega)⟩
 have hat:atX cl i (yaY y):=y6Y hy hxs hi
 have hvb:v<=k:=by rw [hv];have:=List.length_filter_le P (l.take k);have:=List.length_take_le k l;omega
 have hn:P y=false->v=((l.take (k+1)).filter P).length:=fun h=>by rw [hv,List.take_add_one,hy,List.filter_append];simp [h]
 have hp:P y=true->v+1=((l.take (k+1)).filter P).length:=fun h=>by rw [hv,List.take_add_one,hy,List.filter_append];simp [h]
 have hPy:P y=(decide (y.pool=pool)&&(y.marked||(decide (y.phase=4)||false))):=by rw [hP];simp [goesB]
 obtain ⟨w2,hw2⟩:∃ w,w=P y:=⟨_,rfl⟩
 rw [←hw2] at hn hp hPy
 have hv0:0<=v:=by rw [hv];omega
 clear hw2 hP hv hy hr1
 obtain ⟨ynm,ypo,yge,⟨yot,yoz,yok⟩,ypr,yc0,yc1,yos,ytr,yid,yph,ybo,yma⟩:=y
 simp only [yaY,y1cY] at hat hPy
 obtain ⟨xyos,hxyos⟩:∃ xs,xs=yos.map offD:=⟨_,rfl⟩
 have cxyos:CleanL xyos:=by rw [hxyos];exact y19Y _
 simp only [←hxyos] at hat hPy
 refine ⟨_,hat,?_⟩
 conv=>cbv
 repeat' (first|(refine And.intro (by first|assumption|exact ⟨by omega⟩|exact ⟨by rw [hlen];omega⟩|exact ⟨rfl⟩|exact ⟨rfl,rfl⟩) ?_)|(intro (g:Nat);(conv=>cbv)))
 rintro (_|_) a1<;>replace a1:=cs hO a1<;>dsimp only [CmpS] at a1<;>(conv=>cbv)
 case false=>exact ⟨_,_,up _ _ ⟨_,k+1,_,rfl,by rw [y0Y hO (by omega) (by omega)];omega,by omega,rfl,hn (by rw [hPy];simp [a1])⟩,⟨⟨rfl,rfl,rfl,rfl,rfl,trivial⟩,trivial,rfl⟩,by omega⟩
 cases yma<;>(conv=>cbv)
 case true=>exact ⟨_,_,up _ _ ⟨_,k+1,_,rfl,by rw [y0Y hO (by omega) (by omega)];omega,by omega,rfl,by rw [y0Y hO (by omega) (by omega)];exact hp (by rw [hPy];simp [a1])⟩,⟨⟨rfl,rfl,rfl,rfl,rfl,trivial⟩,trivial,rfl⟩,by omega⟩
 rintro (_|_) a2<;>replace a2:=ci hO a2<;>dsimp only [CmpI] at a2<;>(conv=>cbv)
 case false=>exact ⟨_,_,up _ _ ⟨_,k+1,_,rfl,by rw [y0Y hO (by omega) (by omega)];omega,by omega,rfl,hn (by rw [hPy];simp [a1,a2])⟩,⟨⟨rfl,rfl,rfl,rfl,rfl,trivial⟩,trivial,rfl⟩,by omega⟩
 case true=>exact ⟨_,_,up _ _ ⟨_,k+1,_,rfl,by rw [y0Y hO (by omega) (by omega)];omega,by omega,rfl,by rw [y0Y hO (by omega) (by omega)];exact hp (by rw [hPy];simp [a1,a2])⟩,⟨⟨rfl,rfl,rfl,rfl,rfl,trivial⟩,trivial,rfl⟩,by omega⟩
theorem yozY (R:Ans) (s:SnapV) (hl:s.claims.length<4611686018427387904) (more:List Str) (h52:∀ x,R.v 52 [.sl 1 false (more.map mkS),mkS x] (.bool (decide (x∈more)))):AnsF R c48 [snapD s,.sl 1 false (more.map mkS)] (.mapv ((goM s more).map (entA mkS iD))):=by
 obtain ⟨rs,hrs⟩:∃ r,r=(goM s more).map (entA mkS iD):=⟨_,rfl⟩
 have crs:CleanL rs:=by rw [hrs];exact y6uY mkS iD ydY (fun v=>⟨rfl,rfl⟩) _
 rw [←hrs]
 replace hrs:rs=(goL more s.claims).map (entA mkS iD):=hrs
 have hbd:=yopY s more
 obtain ⟨ms,hms⟩:∃ xs,xs=more.map mkS:=⟨_,rfl⟩
 have cms:CleanL ms:=by rw [hms];exact y1rY _
 rw [←hms] at h52 ⊢
 obtain ⟨ty,po,pl,cl,cm,co,is,no,hce,hsn,cty,cpo,cpl,ccl,ccm,cco,cis,cno⟩:=y12Y s
 rw [hsn]
 have hxs:=hce.cl
 obtain ⟨l,hl0⟩:∃ l,l=s.claims:=⟨_,rfl⟩
 rw [←hl0] at hl hrs hxs
 clear hce hsn hl0 hms
 refine y2Y ⟨rfl,by decide⟩ fun O hO V hV=>?_
 subst hV
 have hlen:O .len cl=l.length:=by rw [o_len hO,hxs];simp
 conv=>cbv
 refine y4Y (fun n d=>∃ (i:Int) (k:Nat) (c:Int) (es:List D),d=⟨[(1,.sl 1 false ms),(5,.mapr 8 1),(10,.sl 15 false cl),(11,jI (O .len cl)),(12,jI i)],[(8,⟨1,.rw,.map,jI c::es⟩)],false⟩/\i=k/\k<=l.length/\n=l.length-k/\es=(goL more (l.take k)).map (entA mkS iD)) ⟨_,_,⟨_,0,_,[],rfl,rfl,by omega,rfl,rfl⟩,⟨⟨rfl,rfl,rfl,rfl,rfl,trivial⟩,⟨rfl,trivial⟩,rfl⟩⟩ ?_
 rintro J up n d ⟨i,k,c,es,rfl,hi,hk,rfl,hes⟩
 conv=>cbv
 rintro (_|_) h1<;>(conv=>cbv)
 ·replace h1:=f_lss hO h1
  rw [hlen] at h1
  rw [List.take_of_length_le (by omega),←hrs] at hes
  rw [hes]
  exact ⟨crs,by first|trivial|rfl⟩
 replace h1:=t_lss hO h1
 rw [hlen] at h1
 obtain ⟨y,hy⟩:∃ y,l[k]?=some y:=⟨_,List.getElem?_eq_getElem (by omega)⟩
 have hat:atX cl i (yaY y):=y6Y hy hxs hi
 have hk52:=h52 y.name
 obtain ⟨q,hq⟩:∃ q,q=decide (y.name∈more):=⟨_,rfl⟩
 rw [←hq] at hk52
 have hub:=hbd (l.take k) y.pool
 have hlt:=List.length_take_le k l
 have hsn2:=yooY more (l.take k) y
 have htk:l.take (k+1)=l.take k++[y]:=by rw [List.take_add_one,hy];rfl
 obtain ⟨M,hM⟩:∃ M,M=goL more (l.take k):=⟨_,rfl⟩
 rw [←hM] at hes hub hsn2
 obtain ⟨u,hu⟩:∃ u,u=(getA y.pool M).getD 0:=⟨_,rfl⟩
 rw [←hu] at hub hsn2
 rw [←htk] at hsn2
 obtain ⟨w,hw⟩:∃ w,w=goesB more y:=⟨_,rfl⟩
 rw [←hw] at hsn2
 have hPy:w=(y.marked||(decide (y.phase=4)||q)):=by rw [hw,hq];rfl
 have hn:w=false->es=(goL more (l.take (k+1))).map (entA mkS iD):=fun h=>by rw [hsn2,h,hes];rfl
 have hp:w=true->(putA y.pool (u+1) M).map (entA mkS iD)=(goL more (l.take (k+1))).map (entA mkS iD):=fun h=>by rw [hsn2,h];rfl
 have hlk:=y4vY kS mkS iD y2pY y.pool M
 rw [←hes] at hlk
 clear hw hq hsn2 htk hM hy h52 hbd
 obtain ⟨ynm,ypo,yge,⟨yot,yoz,yok⟩,ypr,yc0,yc1,yos,ytr,yid,yph,ybo,yma⟩:=y
 simp only [yaY,y1cY] at hat hk52 hPy hp hlk hu
 obtain ⟨xyos,hxyos⟩:∃ xs,xs=yos.map offD:=⟨_,rfl⟩
 have cxyos:CleanL xyos:=by rw [hxyos];exact y19Y _
 simp only [←hxyos] at hat hk52 hPy hp hlk hu
 refine ⟨_,hat,?_⟩
 conv=>cbv
 repeat' (first|(refine And.intro (by first|assumption|exact ⟨by omega⟩|exact ⟨by rw [hlen];omega⟩|exact ⟨rfl⟩|exact ⟨rfl,rfl⟩) ?_)|(intro (g:Nat);(conv=>cbv)))
 cases yma<;>(conv=>cbv)
 case true =>
  repeat' (first|(refine And.intro (by first|assumption|exact ⟨by omega⟩|exact ⟨by rw [hlen];omega⟩|exact ⟨rfl⟩|exact ⟨rfl,rfl⟩) ?_)|(intro (g:Nat);(conv=>cbv)))
  have hput:=y4wY kS mkS iD y2pY ypo (u+1) M
  rw [←hes] at hput
  obtain ⟨es3,hes3⟩:∃ e,e=(putA ypo (u+1) M).map (entA mkS iD):=⟨_,rfl⟩
  rw [←hes3] at hput
  have hput2:mputD (false,[(0,.str)]) (mkS ypo) (jI (O .iop .add .i64 u 1)) es=some es3:=by rw [y0Y hO (by omega) (by omega)];exact hput
  clear hput
  cases hgt:getA ypo M with
  | none =>
    rw [hgt] at hlk hu
    replace hu:u=0:=hu
    subst hu
    refine ⟨_,hlk,?_⟩
    conv=>cbv
    refine ⟨_,hput2,fun c3=>?_⟩
    conv=>cbv
    exact ⟨_,_,up _ _ ⟨_,k+1,_,_,rfl,by rw [y0Y hO (by omega) (by omega)];omega,by omega,rfl,by rw [hes3];exact hp (by rw [hPy];simp )⟩,⟨⟨rfl,rfl,rfl,rfl,rfl,trivial⟩,⟨rfl,trivial⟩,rfl⟩,by omega⟩
  | some u2 =>
    rw [hgt] at hlk hu
    replace hu:u=u2:=hu
    subst hu
    refine ⟨_,hlk,?_⟩
    conv=>cbv
    refine ⟨_,hput2,fun c3=>?_⟩
    conv=>cbv
    exact ⟨_,_,up _ _ ⟨_,k+1,_,_,rfl,by rw [y0Y hO (by omega) (by omega)];omega,by omega,rfl,by rw [hes3];exact hp (by rw [hPy];simp )⟩,⟨⟨rfl,rfl,rfl,rfl,rfl,trivial⟩,⟨rfl,trivial⟩,rfl⟩,by omega⟩
 rintro (_|_) a2<;>replace a2:=ci hO a2<;>dsimp only [CmpI] at a2<;>(conv=>cbv)
 case true =>
  repeat' (first|(refine And.intro (by first|assumption|exact ⟨by omega⟩|exact ⟨by rw [hlen];omega⟩|exact ⟨rfl⟩|exact ⟨rfl,rfl⟩) ?_)|(intro (g:Nat);(conv=>cbv)))
  have hput:=y4wY kS mkS iD y2pY ypo (u+1) M
  rw [←hes] at hput
  obtain ⟨es3,hes3⟩:∃ e,e=(putA ypo (u+1) M).map (entA mkS iD):=⟨_,rfl⟩
  rw [←hes3] at hput
  have hput2:mputD (false,[(0,.str)]) (mkS ypo) (jI (O .iop .add .i64 u 1)) es=some es3:=by rw [y0Y hO (by omega) (by omega)];exact hput
  clear hput
  cases hgt:getA ypo M with
  | none =>
    rw [hgt] at hlk hu
    replace hu:u=0:=hu
    subst hu
    refine ⟨_,hlk,?_⟩
    conv=>cbv
    refine ⟨_,hput2,fun c3=>?_⟩
    conv=>cbv
    exact ⟨_,_,up _ _ ⟨_,k+1,_,_,rfl,by rw [y0Y hO (by omega) (by omega)];omega,by omega,rfl,by rw [hes3];exact hp (by rw [hPy];simp [a2])⟩,⟨⟨rfl,rfl,rfl,rfl,rfl,trivial⟩,⟨rfl,trivial⟩,rfl⟩,by omega⟩
  | some u2 =>
    rw [hgt] at hlk hu
    replace hu:u=u2:=hu
    subst hu
    refine ⟨_,hlk,?_⟩
    conv=>cbv
    refine ⟨_,hput2,fun c3=>?_⟩
    conv=>cbv
    exact ⟨_,_,up _ _ ⟨_,k+1,_,_,rfl,by rw [y0Y hO (by omega) (by omega)];omega,by omega,rfl,by rw [hes3];exact hp (by rw [hPy];simp [a2])⟩,⟨⟨rfl,rfl,rfl,rfl,rfl,trivial⟩,⟨rfl,trivial⟩,rfl⟩,by omega⟩
 repeat' (first|(refine And.intro (by first|assumption|exact ⟨by omega⟩|exact ⟨by rw [hlen];omega⟩|exact ⟨rfl⟩|exact ⟨rfl,rfl⟩) ?_)|(intro (g:Nat);(conv=>cbv)))
 refine ⟨_,hk52,?_⟩
 cases q<;>(conv=>cbv)
 case false=>exact ⟨_,_,up _ _ ⟨_,k+1,_,_,rfl,by rw [y0Y hO (by omega) (by omega)];omega,by omega,rfl,hn (by rw [hPy];simp [a2])⟩,⟨⟨rfl,rfl,rfl,rfl,rfl,trivial⟩,⟨rfl,trivial⟩,rfl⟩,by omega⟩
 repeat' (first|(refine And.intro (by first|assumption|exact ⟨by omega⟩|exact ⟨by rw [hlen];omega⟩|exact ⟨rfl⟩|exact ⟨rfl,rfl⟩) ?_)|(intro (g:Nat);(conv=>cbv)))
 have hput:=y4wY kS mkS iD y2pY ypo (u+1) M
 rw [←hes] at hput
 obtain ⟨es3,hes3⟩:∃ e,e=(putA ypo (u+1) M).map (entA mkS iD):=⟨_,rfl⟩
 rw [←hes3] at hput
 have hput2:mputD (false,[(0,.str)]) (mkS ypo) (jI (O .iop .add .i64 u 1)) es=some es3:=by rw [y0Y hO (by omega) (by omega)];exact hput
 clear hput
 cases hgt:getA ypo M with
 | none =>
   rw [hgt] at hlk hu
   replace hu:u=0:=hu
   subst hu
   refine ⟨_,hlk,?_⟩
   conv=>cbv
   refine ⟨_,hput2,fun c3=>?_⟩
   conv=>cbv
   exact ⟨_,_,up _ _ ⟨_,k+1,_,_,rfl,by rw [y0Y hO (by omega) (by omega)];omega,by omega,rfl,by rw [hes3];exact hp (by rw [hPy];simp )⟩,⟨⟨rfl,rfl,rfl,rfl,rfl,trivial⟩,⟨rfl,trivial⟩,rfl⟩,by omega⟩
 | some u2 =>
   rw [hgt] at hlk hu
   replace hu:u=u2:=hu
   subst hu
   refine ⟨_,hlk,?_⟩
   conv=>cbv
   refine ⟨_,hput2,fun c3=>?_⟩
   conv=>cbv
   exact ⟨_,_,up _ _ ⟨_,k+1,_,_,rfl,by rw [y0Y hO (by omega) (by omega)];omega,by omega,rfl,by rw [hes3];exact hp (by rw [hPy];simp )⟩,⟨⟨rfl,rfl,rfl,rfl,rfl,trivial⟩,⟨rfl,trivial⟩,rfl⟩,by omega⟩
theorem yp0Y (R:Ans) (s:SnapV) (pool:Str) (h45:R.v 45 [snapD s] (jI (snapE s))) (h46:R.v 46 [.sl 10 false (s.pools.map poolD),.fn 47 [] [.vptr (.agg [mkS pool]) 0]] (.bool (yzY s pool))) (h48:R.v 48 [snapD s,.sl 1 false []] (.mapv ((goM s []).map (entA mkS iD)))):AnsF R c22 [snapD s,mkS pool] (.tup [jI (yiY s pool).1,jI (yiY s pool).2]):=by
 obtain ⟨⟨r1,r2⟩,hr⟩:∃ r,r=yiY s pool:=⟨_,rfl⟩
 rw [←hr]
 unfold yiY at hr
 rw [←y91Y] at hr
 have hlk:=y4vY kS mkS iD y2pY pool (goM s [])
 obtain ⟨M,hM⟩:∃ M,M=goM s []:=⟨_,rfl⟩
 rw [←hM] at hr hlk h48
 obtain ⟨es,hes⟩:∃ e,e=M.map (entA mkS iD):=⟨_,rfl⟩
 have ces:CleanL es:=by rw [hes];exact y6uY mkS iD ydY (fun v=>⟨rfl,rfl⟩) _
 rw [←hes] at hlk h48
 obtain ⟨w,hw⟩:∃ w,w=snapE s:=⟨_,rfl⟩
 obtain ⟨q1,hq1⟩:∃ w,w=yzY s pool:=⟨_,rfl⟩
 rw [←hw,←hq1] at hr
 rw [←hw] at h45
 rw [←hq1] at h46
 clear hM hes hw hq1
 obtain ⟨ty,po,pl,cl,cm,co,is,no,hce,hsn,cty,cpo,cpl,ccl,ccm,cco,cis,cno⟩:=y12Y s
 rw [hsn] at h45 h48 ⊢
 rw [←hce.pl] at h46
 clear hce hsn
 refine y2Y ⟨rfl,by decide⟩ fun O hO V hV=>?_
 subst hV
 conv=>cbv
 repeat' (first|(refine And.intro (by first|assumption|exact ⟨by omega⟩|exact ⟨rfl⟩|exact ⟨rfl,rfl⟩) ?_)|(intro (g:Nat);(conv=>cbv)))
 refine ⟨_,h45,?_⟩
 conv=>cbv
 rintro (_|_) h<;>replace h:=ci hO h<;>dsimp only [CmpI] at h<;>(conv=>cbv)
 case true =>
  rw [if_pos h] at hr
  obtain ⟨rfl,rfl⟩:=Prod.mk.inj hr
  rfl
 rw [if_neg (by omega)] at hr
 repeat' (first|(refine And.intro (by first|assumption|exact ⟨by omega⟩|exact ⟨rfl⟩|exact ⟨rfl,rfl⟩) ?_)|(intro (g:Nat);(conv=>cbv)))
 refine ⟨_,h46,?_⟩
 cases q1<;>(conv=>cbv)
 case false =>
  obtain ⟨rfl,rfl⟩:=Prod.mk.inj hr
  rfl
 rw [if_pos rfl] at hr
 obtain ⟨hr1,rfl⟩:=Prod.mk.inj hr
 repeat' (first|(refine And.intro (by first|assumption|exact ⟨by omega⟩|exact ⟨rfl⟩|exact ⟨rfl,rfl⟩) ?_)|(intro (g:Nat);(conv=>cbv)))
 refine ⟨_,h48,?_⟩
 conv=>cbv
 repeat' (first|(refine And.intro (by first|assumption|exact ⟨by omega⟩|exact ⟨rfl⟩|exact ⟨rfl,rfl⟩) ?_)|(intro (g:Nat);(conv=>cbv)))
 cases hgt:getA pool M with
 | none =>
   rw [hgt] at hlk hr1
   replace hr1:r1=0:=hr1
   subst hr1
   refine ⟨_,hlk,?_⟩
   conv=>cbv
   all_goals (first|trivial|rfl)
 | some u2 =>
   rw [hgt] at hlk hr1
   replace hr1:r1=u2:=hr1
   subst hr1
   refine ⟨_,hlk,?_⟩
   conv=>cbv
   all_goals (first|trivial|rfl)
theorem yp1Y (R:Ans) (s:SnapV) (hF:FSnap s) (nodes:List Str) (hn:nodes.length<4611686018427387904) (h45:R.v 45 [snapD s] (jI (snapE s))) (h50:∀ x,R.v 50 [.sl 15 false (s.claims.map yaY),.fn 51 [] [.vptr (.agg [mkS x]) 0]] (jI (idxI (fun y:ClaimV=>decide (y.name=x)) s.claims))) (h52:∀ (l:List Str) x,l.length<4611686018427387904->R.v 52 [.sl 1 false (l.map mkS),mkS x] (.bool (decide (x∈l)))) (h48:R.v 48 [snapD s,.sl 1 false (nodes.map mkS)] (.mapv ((goM s nodes).map (entA mkS iD)))):AnsF R c24 [snapD s,.sl 1 false (nodes.map mkS)] (.tup [.bool (mayE s nodes).1,jI (mayE s nodes).2]):=by
 obtain ⟨⟨r1,r2⟩,hr⟩:∃ r,r=mayE s nodes:=⟨_,rfl⟩
 rw [←hr]
 unfold mayE at hr
 obtain ⟨w,hw⟩:∃ w,w=snapE s:=⟨_,rfl⟩
 obtain ⟨N,hN⟩:∃ N,N=y1dY s nodes:=⟨_,rfl⟩
 have hov:w=0->N=0->∀ p:PoolV,overB s nodes p=((getA p.name (askL s nodes)).getD false&&decide (p.budget<(getA p.name (goM s nodes)).getD 0)):=fun h1 h2 p=>by
  rw [yosY (y6wY (hw.symm.trans h1)) (hN.symm.trans h2),y91Y]
  rfl
 rw [←hw,←hN] at hr
 rw [←hw] at h45
 unfold y1dY at hN
 obtain ⟨G,hG⟩:∃ G,G=upE (y31Y s) nodes:=⟨_,rfl⟩
 rw [←hG] at hN
 obtain ⟨M,hM⟩:∃ M,M=goM s nodes:=⟨_,rfl⟩
 rw [←hM] at h48 hov
 obtain ⟨gs,hgs⟩:∃ e,e=M.map (entA mkS iD):=⟨_,rfl⟩
 have cgs:CleanL gs:=by rw [hgs];exact y6uY mkS iD ydY (fun v=>⟨rfl,rfl⟩) _
 have hlkM:=fun p=>y4vY kS mkS iD y2pY p M
 rw [←hgs] at h48 hlkM
 obtain ⟨ms,hms⟩:∃ xs,xs=nodes.map mkS:=⟨_,rfl⟩
 have cms:CleanL ms:=by rw [hms];exact y1rY _
 rw [←hms] at h48 ⊢
 have hlp:=hF.pools.lt
 have hidx:=fun x=>yo5Y (fun y:ClaimV=>decide (y.name=x)) s.claims
 have hlc:=hF.claims.lt
 clear hw hM hgs hF
 obtain ⟨ty,po,pl,cl,cm,co,is,no,hce,hsn,cty,cpo,cpl,ccl,ccm,cco,cis,cno⟩:=y12Y s
 rw [hsn] at h45 h48 ⊢
 rw [←hce.cl] at h50
 have hcl:=hce.cl
 have hxs:=hce.pl
 obtain ⟨ov,hovd⟩:∃ ov,ov=overB s nodes:=⟨_,rfl⟩
 rw [←hovd] at hr hov
 obtain ⟨l,hl0⟩:∃ l,l=s.pools:=⟨_,rfl⟩
 rw [←hl0] at hlp hr hxs
 clear hce hsn hl0 hovd
 refine y2Y ⟨rfl,by decide⟩ fun O hO V hV=>?_
 subst hV
 have hlm:O .len ms=nodes.length:=by rw [o_len hO,hms];simp
 have hlen:O .len pl=l.length:=by rw [o_len hO,hxs];simp
 have hlcl:O .len cl=s.claims.length:=by rw [o_len hO,hcl];simp
 conv=>cbv
 repeat' (first|(refine And.intro (by first|assumption|exact ⟨by omega⟩|exact ⟨by rw [hlen];omega⟩|exact ⟨rfl⟩|exact ⟨rfl,rfl⟩) ?_)|(intro (g:Nat);(conv=>cbv)))
 refine ⟨_,h45,?_⟩
 conv=>cbv
 rintro (_|_) h<;>replace h:=ci hO h<;>dsimp only [CmpI] at h<;>(conv=>cbv)
 case true =>
  rw [if_pos h] at hr
  obtain ⟨rfl,rfl⟩:=Prod.mk.inj hr
  rfl
 rw [if_neg (by omega)] at hr
 replace hov:=hov h
 clear h45
 refine y4Y (fun n d=>∃ (i:Int) (k:Nat) (c:Int) (es:List D),d=⟨[(1,.sl 1 false ms),(2,.ptr 2 1 0),(7,.mapr 19 1),(20,.sl 1 false ms),(21,jI (O .len ms)),(22,jI i)],[(2,⟨1,.rw,.var,(sB s ty po pl cl cm co is no)⟩),(19,⟨1,.rw,.map,jI c::es⟩)],false⟩/\i=k/\k<=nodes.length/\n=nodes.length-k/\es=(askL s (nodes.take k)).map (entA mkS bD)/\∀ j,j<k->G j=0) ⟨_,_,⟨_,0,_,[],rfl,rfl,by omega,rfl,rfl,by simp⟩,⟨⟨rfl,rfl,rfl,rfl,rfl,rfl,trivial⟩,⟨rfl,rfl,trivial⟩,rfl⟩⟩ ?_
 rintro J up n d ⟨i,k,c,es,rfl,hi,hk,rfl,hes,hno⟩
 conv=>cbv
 rintro (_|_) h1<;>(conv=>cbv)
 case true =>
  replace h1:=t_lss hO h1
  rw [hlm] at h1
  obtain ⟨x,hx⟩:∃ x,nodes[k]?=some x:=⟨_,List.getElem?_eq_getElem (by omega)⟩
  have hat:atX ms i (mkS x):=y6Y hx hms hi
  obtain ⟨e,he⟩:∃ e,e=G k:=⟨_,rfl⟩
  have hend:∀ v,e=v->v≠0->D.tup [.bool false,jI v]=D.tup [.bool r1,jI r2]:=fun v h1 h2=>by
   have:N=v:=by rw [hN];exact yfY (by omega) hno (h1.symm.trans he) h2
   rw [this,if_pos h2] at hr
   obtain ⟨rfl,rfl⟩:=Prod.mk.inj hr
   rfl
  have hgo:e=0->∀ j,j<k+1->G j=0:=fun h=>yhY hno (he.symm.trans h)
  rw [hG,y10Y hx] at he
  have hk50:=h50 x
  have hic:=hidx x
  have hk52:=h52 (nodes.take k) x (by have:=List.length_take_le k nodes;omega)
  obtain ⟨ix,hix⟩:∃ w,w=idxI (fun y:ClaimV=>decide (y.name=x)) s.claims:=⟨_,rfl⟩
  rw [←hix] at hk50 hic
  have he1:y14Y s x=false->e=5:=fun h=>by rw [he];unfold y31Y;rw [h];rfl
  have hany:((nodes.take k).any fun y=>decide (x=y))=decide (x∈nodes.take k):=by
   rw [Bool.eq_iff_iff]
   simp [List.any_eq_true]
  obtain ⟨q5,hq5⟩:∃ w,w=decide (x∈nodes.take k):=⟨_,rfl⟩
  rw [←hq5] at hk52 hany
  have he2:y14Y s x=true->e=if q5 then 6 else 0:=fun h=>by rw [he];unfold y31Y;rw [h,if_pos rfl,hany]
  obtain ⟨ys,hys⟩:∃ ys,ys=O .subL ms 0 i:=⟨_,rfl⟩
  have hyl:ys=(nodes.take k).map mkS:=by rw [hys,y1vY hO,hms,hi,←List.map_take];simp
  have cys:CleanL ys:=by rw [hyl];exact y1rY _
  rw [←hyl] at hk52
  have hno2:ix<0->e=5:=fun h=>he1 (by
   rcases hic with ⟨_,h4⟩|⟨k',y,_,h4,_⟩
   ·rw [←yeaY];unfold y4yY;rw [h4];rfl
   ·omega)
  have hyes:0<=ix->∃ y:ClaimV,atX cl ix (yaY y)/\e=(if q5 then 6 else 0)/\(askL s (nodes.take (k+1)))=putA y.pool true (askL s (nodes.take k)):=fun h=>by
   rcases hic with ⟨h3,_⟩|⟨k',y,h3,h4,h5,h6⟩
   ·omega
   ·refine ⟨y,y6Y h5 hcl h4,he2 (by rw [←yeaY];unfold y4yY;rw [h6];rfl),?_⟩
    rw [List.take_add_one,hx]
    show askL s (nodes.take k++[x])=_
    rw [yoqY]
    have:y2lY s x=y.pool:=by unfold y2lY;rw [h6];rfl
    rw [this]
  clear hic hix he1 he2 he hany hq5 hx hidx h50 h52 hG hov hr
  refine ⟨_,hat,?_⟩
  conv=>cbv
  repeat' (first|(refine And.intro (by first|assumption|exact ⟨by omega⟩|exact ⟨by rw [hlen];omega⟩|exact ⟨rfl⟩|exact ⟨rfl,rfl⟩) ?_)|(intro (g:Nat);(conv=>cbv)))
  refine ⟨_,hk50,?_⟩
  conv=>cbv
  rintro (_|_) h2<;>replace h2:=ci hO h2<;>dsimp only [CmpI] at h2<;>(conv=>cbv)
  case true=>exact hend 5 (hno2 h2) (by decide)
  obtain ⟨y,haty,hee,hask⟩:=hyes (by omega)
  have hput:=y4wY kS mkS bD y2pY y.pool true (askL s (nodes.take k))
  rw [←hask,←hes] at hput
  obtain ⟨es3,hes3⟩:∃ e,e=(askL s (nodes.take (k+1))).map (entA mkS bD):=⟨_,rfl⟩
  rw [←hes3] at hput
  clear hyes hno2 hask hes
  obtain ⟨ynm,ypo,yge,⟨yot,yoz,yok⟩,ypr,yc0,yc1,yos,ytr,yid,yph,ybo,yma⟩:=y
  simp only [yaY,y1cY] at haty hput
  obtain ⟨xyos,hxyos⟩:∃ xs,xs=yos.map offD:=⟨_,rfl⟩
  have cxyos:CleanL xyos:=by rw [hxyos];exact y19Y _
  simp only [←hxyos] at haty hput
  repeat' (first|(refine And.intro (by first|assumption|exact ⟨by omega⟩|exact ⟨by rw [hlen];omega⟩|exact ⟨rfl⟩|exact ⟨rfl,rfl⟩) ?_)|(intro (g:Nat);(conv=>cbv)))
  repeat' (first|(refine And.intro (by first|assumption|exact ⟨by omega⟩|exact ⟨by rw [hlm];omega⟩|exact ⟨rfl⟩) ?_)|fail)
  rw [←hys]
  repeat' (first|(refine And.intro (by first|assumption|exact ⟨by omega⟩|exact ⟨by rw [hlen];omega⟩|exact ⟨rfl⟩|exact ⟨rfl,rfl⟩) ?_)|(intro (g:Nat);(conv=>cbv)))
  refine ⟨_,hk52,?_⟩
  cases q5<;>(conv=>cbv)
  case true=>exact hend 6 (by rw [hee];rfl) (by decide)
  repeat' (first|(refine And.intro (by first|assumption|exact ⟨by omega⟩|exact ⟨by rw [hlen];omega⟩|exact ⟨rfl⟩|exact ⟨rfl,rfl⟩) ?_)|(intro (g:Nat);(conv=>cbv)))
  refine ⟨_,haty,?_⟩
  conv=>cbv
  repeat' (first|(refine And.intro (by first|assumption|exact ⟨by omega⟩|exact ⟨by rw [hlen];omega⟩|exact ⟨rfl⟩|exact ⟨rfl,rfl⟩) ?_)|(intro (g:Nat);(conv=>cbv)))
  refine ⟨_,hput,fun c3=>?_⟩
  conv=>cbv
  exact ⟨_,_,up _ _ ⟨_,k+1,_,_,rfl,by rw [y0Y hO (by omega) (by omega)];omega,by omega,rfl,hes3,hgo (by rw [hee];rfl)⟩,⟨⟨rfl,rfl,rfl,rfl,rfl,rfl,trivial⟩,⟨rfl,rfl,trivial⟩,rfl⟩,by omega⟩
 replace h1:=f_lss hO h1
 rw [hlm] at h1
 have hN0:N=0:=by rw [hN];exact ysY (fun j hj=>hno j (by omega))
 rw [hN0,if_neg (by simp)] at hr
 obtain ⟨hr1,rfl⟩:=Prod.mk.inj hr
 replace hov:=hov hN0
 rw [List.take_of_length_le (by omega)] at hes
 obtain ⟨A,hA⟩:∃ A,A=askL s nodes:=⟨_,rfl⟩
 rw [←hA] at hov hes
 have hlkA:=fun p=>y4vY kS mkS bD y2pY p A
 rw [←hes] at hlkA
 clear hr hno hN hN0 hG up hi hk h1 hidx h50 h52 hes hA hcl hlcl
 repeat' (first|(refine And.intro (by first|assumption|exact ⟨by omega⟩|exact ⟨by rw [hlen];omega⟩|exact ⟨rfl⟩|exact ⟨rfl,rfl⟩) ?_)|(intro (g:Nat);(conv=>cbv)))
 refine ⟨_,h48,?_⟩
 conv=>cbv
 clear h48
 refine y4Y (fun n d=>∃ (i:Int) (k:Nat),d=⟨[(7,.mapr 19 1),(11,.mapv gs),(50,.sl 10 false pl),(51,jI (O .len pl)),(52,jI i)],[(19,⟨1,.rw,.map,jI c::es⟩)],false⟩/\i=k/\k<=l.length/\n=l.length-k/\∀ (j:Nat) z,j<k->l[j]?=some z->ov z=false) ⟨_,_,⟨_,0,rfl,rfl,by omega,rfl,by simp⟩,⟨⟨rfl,rfl,rfl,rfl,rfl,trivial⟩,⟨rfl,trivial⟩,rfl⟩⟩ ?_
 rintro J up n d ⟨i,k,rfl,hi,hk,rfl,hno⟩
 conv=>cbv
 rintro (_|_) h1<;>(conv=>cbv)
 ·replace h1:=f_lss hO h1
  rw [hlen] at h1
  have:l.any ov=false:=by
   rw [List.any_eq_false]
   intro z hz
   obtain ⟨j,hj⟩:=List.mem_iff_getElem?.1 hz
   rw [hno j z (by have:=(List.getElem?_eq_some_iff.1 hj).1;omega) hj]
   simp
  rw [hr1,this]
  rfl
 replace h1:=t_lss hO h1
 rw [hlen] at h1
 obtain ⟨y,hy⟩:∃ y,l[k]?=some y:=⟨_,List.getElem?_eq_getElem (by omega)⟩
 have hat:atX pl i (poolD y):=y6Y hy hxs hi
 have hka:=hlkA y.name
 have hkm:=hlkM y.name
 have hoy:=hov y
 obtain ⟨q0,hq0⟩:∃ q,q=ov y:=⟨_,rfl⟩
 rw [←hq0] at hoy
 have hst:q0=false->∀ (j:Nat) z,j<k+1->l[j]?=some z->ov z=false:=fun h=>y1hY hno hy (hq0.symm.trans h)
 have hht:q0=true->r1=false:=fun h=>by rw [hr1,List.any_eq_true.2 ⟨y,List.mem_of_getElem? hy,hq0.symm.trans h⟩];rfl
 clear hq0 hy hno hlkA hlkM hov hr1
 obtain ⟨ynm,ywe,yl0,yl1,yrs,yts,yge,yex,ybu,yme⟩:=y
 simp only [poolD,poolC] at hat hka hkm hoy
 obtain ⟨xyrs,hxyrs⟩:∃ xs,xs=yrs.map reqD:=⟨_,rfl⟩
 have cxyrs:CleanL xyrs:=by rw [hxyrs];exact y1iY _
 simp only [←hxyrs] at hat hka hkm hoy
 obtain ⟨xyts,hxyts⟩:∃ xs,xs=yts.map labD:=⟨_,rfl⟩
 have cxyts:CleanL xyts:=by rw [hxyts];exact ynY _
 simp only [←hxyts] at hat hka hkm hoy
 refine ⟨_,hat,?_⟩
 conv=>cbv
 repeat' (first|(refine And.intro (by first|assumption|exact ⟨by omega⟩|exact ⟨by rw [hlen];omega⟩|exact ⟨rfl⟩|exact ⟨rfl,rfl⟩) ?_)|(intro (g:Nat);(conv=>cbv)))
 cases hga:getA ynm A with
 | none =>
   rw [hga] at hka hoy
   refine ⟨_,hka,?_⟩
   conv=>cbv
   exact ⟨_,_,up _ _ ⟨_,k+1,rfl,by rw [y0Y hO (by omega) (by omega)];omega,by omega,rfl,hst (by rw [hoy];rfl)⟩,⟨⟨rfl,rfl,rfl,rfl,rfl,trivial⟩,⟨rfl,trivial⟩,rfl⟩,by omega⟩
 | some b =>
   rw [hga] at hka hoy
   refine ⟨_,hka,?_⟩
   cases b
   ·conv=>cbv
    exact ⟨_,_,up _ _ ⟨_,k+1,rfl,by rw [y0Y hO (by omega) (by omega)];omega,by omega,rfl,hst (by rw [hoy];rfl)⟩,⟨⟨rfl,rfl,rfl,rfl,rfl,trivial⟩,⟨rfl,trivial⟩,rfl⟩,by omega⟩
   conv=>cbv
   repeat' (first|(refine And.intro (by first|assumption|exact ⟨by omega⟩|exact ⟨by rw [hlen];omega⟩|exact ⟨rfl⟩|exact ⟨rfl,rfl⟩) ?_)|(intro (g:Nat);(conv=>cbv)))
   cases hgm:getA ynm M with
   | none =>
     rw [hgm] at hkm hoy
     refine ⟨_,hkm,?_⟩
     conv=>cbv
     rintro (_|_) h2<;>replace h2:=ci hO h2<;>dsimp only [CmpI] at h2<;>(conv=>cbv)
     ·exact ⟨_,_,up _ _ ⟨_,k+1,rfl,by rw [y0Y hO (by omega) (by omega)];omega,by omega,rfl,hst (by rw [hoy];simp;omega)⟩,⟨⟨rfl,rfl,rfl,rfl,rfl,trivial⟩,⟨rfl,trivial⟩,rfl⟩,by omega⟩
     ·rw [hht (by rw [hoy];simp;omega)]
   | some u =>
     rw [hgm] at hkm hoy
     refine ⟨_,hkm,?_⟩
     conv=>cbv
     rintro (_|_) h2<;>replace h2:=ci hO h2<;>dsimp only [CmpI] at h2<;>(conv=>cbv)
     ·exact ⟨_,_,up _ _ ⟨_,k+1,rfl,by rw [y0Y hO (by omega) (by omega)];omega,by omega,rfl,hst (by rw [hoy];simp;omega)⟩,⟨⟨rfl,rfl,rfl,rfl,rfl,trivial⟩,⟨rfl,trivial⟩,rfl⟩,by omega⟩
     ·rw [hht (by rw [hoy];simp;omega)]
theorem yp2Y (R:Ans) (s:SnapV) (hF:FSnap s) (nodes:List Str) (h33:R.v 33 [snapD s] (jI (snapE s))) (h53:R.v 53 [snapD s,.sl 1 false (nodes.map mkS)] (jI (y1dY s nodes))) (h26:∀ x,R.v 26 [.sl 1 false (nodes.map mkS),mkS x] (.bool (decide (x∈nodes)))):AnsF R c25 [snapD s,.sl 1 false (nodes.map mkS)] (.tup [.bool (mayE s nodes).1,jI (mayE s nodes).2]):=by
 obtain ⟨⟨r1,r2⟩,hr⟩:∃ r,r=mayE s nodes:=⟨_,rfl⟩
 rw [←hr]
 unfold mayE at hr
 obtain ⟨w,hw⟩:∃ w,w=snapE s:=⟨_,rfl⟩
 obtain ⟨N,hN⟩:∃ N,N=y1dY s nodes:=⟨_,rfl⟩
 rw [←hw,←hN] at hr
 rw [←hw] at h33
 rw [←hN] at h53
 have hov:∀ p:PoolV,overB s nodes p=((s.claims.any fun c=>decide (c.pool=p.name)&&decide (c.name∈nodes))&&decide (p.budget<((s.claims.filter fun c=>decide (c.pool=p.name)&&goesB nodes c).length:Int))):=fun p=>rfl
 obtain ⟨ms,hms⟩:∃ xs,xs=nodes.map mkS:=⟨_,rfl⟩
 have cms:CleanL ms:=by rw [hms];exact y1rY _
 rw [←hms] at h53 h26 ⊢
 have hlp:=hF.pools.lt
 have hlc:=hF.claims.lt
 clear hw hN hF hms
 obtain ⟨ty,po,pl,cl,cm,co,is,no,hce,hsn,cty,cpo,cpl,ccl,ccm,cco,cis,cno⟩:=y12Y s
 rw [hsn] at h33 h53 ⊢
 have hxs:=hce.pl
 have hxc:=hce.cl
 obtain ⟨ov,hovd⟩:∃ ov,ov=overB s nodes:=⟨_,rfl⟩
 rw [←hovd] at hr hov
 obtain ⟨l,hl0⟩:∃ l,l=s.pools:=⟨_,rfl⟩
 obtain ⟨q,hq0⟩:∃ q,q=s.claims:=⟨_,rfl⟩
 rw [←hl0] at hlp hr hxs
 rw [←hq0] at hlc hxc hov
 clear hce hsn hl0 hovd hq0
 refine y2Y ⟨rfl,by decide⟩ fun O hO V hV=>?_
 subst hV
 have hlen:O .len pl=l.length:=by rw [o_len hO,hxs];simp
 have hlq:O .len cl=q.length:=by rw [o_len hO,hxc];simp
 conv=>cbv
 repeat' (first|(refine And.intro (by first|assumption|exact ⟨by omega⟩|exact ⟨by rw [hlen];omega⟩|exact ⟨rfl⟩|exact ⟨rfl,rfl⟩) ?_)|(intro (g:Nat);(conv=>cbv)))
 refine ⟨_,h33,?_⟩
 conv=>cbv
 rintro (_|_) h<;>replace h:=ci hO h<;>dsimp only [CmpI] at h<;>(conv=>cbv)
 case true =>
  rw [if_pos h] at hr
  obtain ⟨rfl,rfl⟩:=Prod.mk.inj hr
  rfl
 rw [if_neg (by omega)] at hr
 repeat' (first|(refine And.intro (by first|assumption|exact ⟨by omega⟩|exact ⟨by rw [hlen];omega⟩|exact ⟨rfl⟩|exact ⟨rfl,rfl⟩) ?_)|(intro (g:Nat);(conv=>cbv)))
 refine ⟨_,h53,?_⟩
 conv=>cbv
 rintro (_|_) h2<;>replace h2:=ci hO h2<;>dsimp only [CmpI] at h2<;>(conv=>cbv)
 case true =>
  rw [if_pos h2] at hr
  obtain ⟨rfl,rfl⟩:=Prod.mk.inj hr
  rfl
 rw [if_neg (by omega)] at hr
 obtain ⟨hr1,rfl⟩:=Prod.mk.inj hr
 clear hr h33 h53
 refine y4Y (fun n d=>∃ (i:Int) (k:Nat),d=⟨[(1,.sl 1 false ms),(2,.ptr 2 1 0),(27,.sl 10 false pl),(28,jI (O .len pl)),(29,jI i)],[(2,⟨1,.rw,.var,(sB s ty po pl cl cm co is no)⟩)],false⟩/\i=k/\k<=l.length/\n=l.length-k/\∀ (j:Nat) z,j<k->l[j]?=some z->ov z=false) ⟨_,_,⟨_,0,rfl,rfl,by omega,rfl,by simp⟩,⟨⟨rfl,rfl,rfl,rfl,rfl,trivial⟩,⟨rfl,trivial⟩,rfl⟩⟩ ?_
 rintro J up n d ⟨i,k,rfl,hi,hk,rfl,hno⟩
 conv=>cbv
 rintro (_|_) h1<;>(conv=>cbv)
 ·replace h1:=f_lss hO h1
  rw [hlen] at h1
  have:l.any ov=false:=by
   rw [List.any_eq_false]
   intro z hz
   obtain ⟨j,hj⟩:=List.mem_iff_getElem?.1 hz
   rw [hno j z (by have:=(List.getElem?_eq_some_iff.1 hj).1;omega) hj]
   simp
  rw [hr1,this]
  rfl
 replace h1:=t_lss hO h1
 rw [hlen] at h1
 obtain ⟨y,hy⟩:∃ y,l[k]?=some y:=⟨_,List.getElem?_eq_getElem (by omega)⟩
 have hat:atX pl i (poolD y):=y6Y hy hxs hi
 have hoy:=hov y
 obtain ⟨q0,hq0⟩:∃ q,q=ov y:=⟨_,rfl⟩
 rw [←hq0] at hoy
 have hst:q0=false->∀ (j:Nat) z,j<k+1->l[j]?=some z->ov z=false:=fun h=>y1hY hno hy (hq0.symm.trans h)
 have hht:q0=true->r1=false:=fun h=>by rw [hr1,List.any_eq_true.2 ⟨y,List.mem_of_getElem? hy,hq0.symm.trans h⟩];rfl
 obtain ⟨P,hP⟩:∃ P,P=fun c:ClaimV=>decide (c.pool=y.name)&&goesB nodes c:=⟨_,rfl⟩
 obtain ⟨F,hFd⟩:∃ F,F=fun c:ClaimV=>decide (c.pool=y.name)&&decide (c.name∈nodes):=⟨_,rfl⟩
 rw [←hP,←hFd] at hoy
 clear hq0 hy hno hov hr1
 obtain ⟨ynm,ywe,yl0,yl1,yrs,yts,yge,yex,ybu,yme⟩:=y
 simp only [poolD,poolC] at hat hoy hP hFd
 obtain ⟨xyrs,hxyrs⟩:∃ xs,xs=yrs.map reqD:=⟨_,rfl⟩
 have cxyrs:CleanL xyrs:=by rw [hxyrs];exact y1iY _
 simp only [←hxyrs] at hat hoy hP hFd
 obtain ⟨xyts,hxyts⟩:∃ xs,xs=yts.map labD:=⟨_,rfl⟩
 have cxyts:CleanL xyts:=by rw [hxyts];exact ynY _
 simp only [←hxyts] at hat hoy hP hFd
 refine ⟨_,hat,?_⟩
 conv=>cbv
 intro g9
 conv=>cbv
 repeat' (first|(refine And.intro (by first|assumption|exact ⟨by omega⟩|exact ⟨by rw [hlen];omega⟩|exact ⟨rfl⟩|exact ⟨rfl,rfl⟩) ?_)|(intro (g:Nat);(conv=>cbv)))
 refine y4Y (fun n d=>∃ (i2:Int) (k2:Nat) (v:Int) (fb:Bool),d=⟨[(1,.sl 1 false ms),(2,.ptr 2 1 0),(9,.ptr 9 g9 0),(10,jI v),(11,.bool fb),(27,.sl 10 false pl),(28,jI (O .len pl)),(29,jI i),(34,.sl 15 false cl),(35,jI (O .len cl)),(36,jI i2)],[(2,⟨1,.rw,.var,(sB s ty po pl cl cm co is no)⟩),(9,⟨g9,.rw,.var,[mkS ynm,jI ywe,jI yl0,jI yl1,.sl 4 false xyrs,.sl 2 false xyts,jI yge,jI yex,jI ybu,jI yme]⟩)],false⟩/\i2=k2/\k2<=q.length/\n=q.length-k2/\v=((q.take k2).filter P).length/\fb=(q.take k2).any F) ⟨_,_,⟨_,0,_,_,rfl,rfl,by omega,rfl,by simp,by simp⟩,⟨⟨rfl,rfl,rfl,rfl,rfl,rfl,rfl,rfl,rfl,rfl,rfl,trivial⟩,⟨rfl,rfl,trivial⟩,rfl⟩⟩ ?_
 rintro J2 up2 n2 d2 ⟨i2,k2,v,fb,rfl,hi2,hk2,rfl,hv,hfb⟩
 conv=>cbv
 rintro (_|_) h3<;>(conv=>cbv)
 ·replace h3:=f_lss hO h3
  rw [hlq] at h3
  rw [List.take_of_length_le (by omega)] at hv hfb
  rw [←hv,←hfb] at hoy
  clear hv hfb up2
  cases fb<;>(conv=>cbv)
  case false=>exact ⟨_,_,up _ _ ⟨_,k+1,rfl,by rw [y0Y hO (by omega) (by omega)];omega,by omega,rfl,hst (by rw [hoy];rfl)⟩,⟨⟨rfl,rfl,rfl,rfl,rfl,trivial⟩,⟨rfl,trivial⟩,rfl⟩,by omega⟩
  rintro (_|_) h4<;>replace h4:=ci hO h4<;>dsimp only [CmpI] at h4<;>(conv=>cbv)
  ·exact ⟨_,_,up _ _ ⟨_,k+1,rfl,by rw [y0Y hO (by omega) (by omega)];omega,by omega,rfl,hst (by rw [hoy];simp;omega)⟩,⟨⟨rfl,rfl,rfl,rfl,rfl,trivial⟩,⟨rfl,trivial⟩,rfl⟩,by omega⟩
  ·rw [hht (by rw [hoy];simp;omega)]
 replace h3:=t_lss hO h3
 rw [hlq] at h3
 obtain ⟨z,hz⟩:∃ z,q[k2]?=some z:=⟨_,List.getElem?_eq_getElem (by omega)⟩
 have hatz:atX cl i2 (yaY z):=y6Y hz hxc hi2
 have hvb:v<=k2:=by rw [hv];have:=List.length_filter_le P (q.take k2);have:=List.length_take_le k2 q;omega
 have hv0:0<=v:=by rw [hv];omega
 have hn:P z=false->v=((q.take (k2+1)).filter P).length:=fun h=>by rw [hv,List.take_add_one,hz,List.filter_append];simp [h]
 have hp:P z=true->v+1=((q.take (k2+1)).filter P).length:=fun h=>by rw [hv,List.take_add_one,hz,List.filter_append];simp [h]
 have hf:((q.take (k2+1)).any F)=(fb||F z):=by rw [List.take_add_one,hz,List.any_append,hfb];simp
 have hkz:=h26 z.name
 obtain ⟨b,hb⟩:∃ b,b=decide (z.name∈nodes):=⟨_,rfl⟩
 rw [←hb] at hkz
 have hPz:P z=(decide (z.pool=ynm)&&(z.marked||(decide (z.phase=4)||b))):=by rw [hP,hb];rfl
 have hFz:F z=(decide (z.pool=ynm)&&b):=by rw [hFd,hb]
 rw [hFz] at hf
 obtain ⟨w2,hw2⟩:∃ w,w=P z:=⟨_,rfl⟩
 rw [←hw2] at hn hp hPz
 clear hw2 hb hv hfb hz hFz hst hht hoy
 obtain ⟨znm,zpo,zge,⟨zot,zoz,zok⟩,zpr,zc0,zc1,zos,ztr,zid,zph,zbo,zma⟩:=z
 simp only [yaY,y1cY] at hatz hkz hPz hf
 obtain ⟨xzos,hxzos⟩:∃ xs,xs=zos.map offD:=⟨_,rfl⟩
 have cxzos:CleanL xzos:=by rw [hxzos];exact y19Y _
 simp only [←hxzos] at hatz hkz hPz hf
 refine ⟨_,hatz,?_⟩
 conv=>cbv
 repeat' (first|(refine And.intro (by first|assumption|exact ⟨by omega⟩|exact ⟨by rw [hlen];omega⟩|exact ⟨rfl⟩|exact ⟨rfl,rfl⟩) ?_)|(intro (g:Nat);(conv=>cbv)))
 rintro (_|_) a1<;>replace a1:=cs hO a1<;>dsimp only [CmpS] at a1<;>(conv=>cbv)
 case true=>exact ⟨_,_,up2 _ _ ⟨_,k2+1,_,fb,rfl,by rw [y0Y hO (by omega) (by omega)];omega,by omega,rfl,hn (by rw [hPz];simp [a1]),by rw [hf];simp [a1]⟩,⟨⟨rfl,rfl,rfl,rfl,rfl,rfl,rfl,rfl,rfl,rfl,rfl,trivial⟩,⟨rfl,rfl,trivial⟩,rfl⟩,by omega⟩
 replace a1:zpo=ynm:=by first|exact a1|exact Classical.not_not.1 a1
 repeat' (first|(refine And.intro (by first|assumption|exact ⟨by omega⟩|exact ⟨by rw [hlen];omega⟩|exact ⟨rfl⟩|exact ⟨rfl,rfl⟩) ?_)|(intro (g:Nat);(conv=>cbv)))
 refine ⟨_,hkz,?_⟩
 cases fb<;>cases b<;>cases zma<;>(conv=>cbv)
 all_goals first
  | (exact ⟨_,_,up2 _ _ ⟨_,k2+1,_,_,rfl,by rw [y0Y hO (by omega) (by omega)];omega,by omega,rfl,by rw [y0Y hO (by omega) (by omega)];exact hp (by rw [hPz];simp [a1]),by rw [hf];simp [a1]⟩,⟨⟨rfl,rfl,rfl,rfl,rfl,rfl,rfl,rfl,rfl,rfl,rfl,trivial⟩,⟨rfl,rfl,trivial⟩,rfl⟩,by omega⟩)
  | (rintro (_|_) a2<;>replace a2:=ci hO a2<;>dsimp only [CmpI] at a2<;>(conv=>cbv))
 all_goals first
  | (exact ⟨_,_,up2 _ _ ⟨_,k2+1,_,_,rfl,by rw [y0Y hO (by omega) (by omega)];omega,by omega,rfl,hn (by rw [hPz];simp [a1,a2]),by rw [hf];simp [a1]⟩,⟨⟨rfl,rfl,rfl,rfl,rfl,rfl,rfl,rfl,rfl,rfl,rfl,trivial⟩,⟨rfl,rfl,trivial⟩,rfl⟩,by omega⟩)
  | (exact ⟨_,_,up2 _ _ ⟨_,k2+1,_,_,rfl,by rw [y0Y hO (by omega) (by omega)];omega,by omega,rfl,by rw [y0Y hO (by omega) (by omega)];exact hp (by rw [hPz];simp [a1,a2]),by rw [hf];simp [a1]⟩,⟨⟨rfl,rfl,rfl,rfl,rfl,rfl,rfl,rfl,rfl,rfl,rfl,trivial⟩,⟨rfl,rfl,trivial⟩,rfl⟩,by omega⟩)
end Go.Proofs.AM
