/- Part 26 of the lemmas: AKi, AKj, AKk. -/
import Derived.Test.YtnbdmjbpgaeacaaGreatDoorC25
import Derived.Test.YtnbdmjbpgaeacaaGreatDoorC17
import Derived.Test.YtnbdmjbpgaeacaaGreatDoorC07
import Derived.Test.YtnbdmjbpgaeacaaGreatDoorC06
set_option maxRecDepth 100000
set_option maxHeartbeats 8000000
set_option linter.all false
namespace Go.Proofs.AM
open Go Go.Lib Cd
theorem yanY {b:Bool} {e:Int} {l:List Int} (h:y3Y (wantI b e::l)=0) (he:e≠0):b=true:=by
 have:=y21Y h _ List.mem_cons_self
 cases b
 ·exact absurd this he
 ·rfl
theorem ne_am {O:Ops} (hO:O=Ops.std) {a b c d:Int} (h:true=O .eqc true [(0,.int .i64),(1,.int .i64)] [jI a,jI b] [jI c,jI d]):¬(a=c/\b=d):=by
 have:=y7rY hO h
 rintro ⟨h1,h2⟩
 simp [h1,h2] at this
theorem eq_am {O:Ops} (hO:O=Ops.std) {a b c d:Int} (h:false=O .eqc true [(0,.int .i64),(1,.int .i64)] [jI a,jI b] [jI c,jI d]):a=c/\b=d:=by
 have:=y7rY hO h
 simpa using this
theorem yoqY {p:PoolV} (h:poolE p=0):p.name≠[]:=yamY (yanY h (by decide))
theorem yorY {p:PodV} (h:podE p=0):p.name≠[]:=by
 have:=yanY h (by decide)
 rw [Bool.and_eq_true] at this
 exact yamY this.1
theorem yosY {p:ClaimV} (h:y19Y p=0):p.name≠[]:=by
 have:=yanY h (by decide)
 rw [Bool.and_eq_true] at this
 exact yamY this.1
theorem yotY (R:Ans) (s:SnapV) (hF:FSnap s) (h160:∀ y,FPool y->R.v 160 [poolD y] (jI (poolE y))):AnsF R c99 [snapD s] (jI (y2eY s)):=by
 have hl:=hF.pools.lt
 have hf:=hF.pools.all
 obtain ⟨r,hr⟩:∃ r,r=y2eY s:=⟨_,rfl⟩
 rw [←hr]
 unfold y2eY at hr
 obtain ⟨ty,po,pl,cl,cm,co,is,no,hce,hsn,cty,cpo,cpl,ccl,ccm,cco,cis,cno⟩:=yxY s
 rw [hsn]
 have hxs:=hce.pl
 obtain ⟨l,hl0⟩:∃ l,l=s.pools:=⟨_,rfl⟩
 rw [←hl0] at hl hr hxs hf
 obtain ⟨G,hG⟩:∃ G,G=upE y35Y l:=⟨_,rfl⟩
 rw [←hG] at hr
 refine y2Y ⟨rfl,by decide⟩ fun O hO V hV=>?_
 subst hV
 have hlen:O .len pl=l.length:=by rw [o_len hO,hxs];simp
 conv=>cbv
 refine y4Y (fun n d=>∃ (i:Int) (k:Nat) (u:Str) ,d=⟨[(3,mkS u),(8,.sl 10 false pl),(9,jI (O .len pl)),(10,jI i)],[],false⟩/\i=k/\k<=l.length/\n=l.length-k/\(∀ j,j<k->G j=0)/\u=lastS (·.name) (l.take k)) ⟨_,_,⟨_,0,[],rfl,rfl,by omega,rfl,by simp,rfl⟩,⟨⟨rfl,rfl,rfl,rfl,trivial⟩,trivial,rfl⟩⟩ ?_
 rintro J up n d ⟨i,k,u,rfl,hi,hk,rfl,hno,hu⟩
 conv=>cbv
 rintro (_|_) h1<;>(conv=>cbv)
 ·replace h1:=f_lss hO h1
  rw [hlen] at h1
  rw [hr,ywY (fun j hj=>hno j (by omega))]
 replace h1:=t_lss hO h1
 rw [hlen] at h1
 obtain ⟨y,hy⟩:∃ y,l[k]?=some y:=⟨_,List.getElem?_eq_getElem (by omega)⟩
 have hat:atX pl i (poolD y):=y7Y hy hxs hi
 obtain ⟨e,he⟩:∃ e,e=G k:=⟨_,rfl⟩
 have hend:∀ v,e=v->v≠0->v=r:=fun v h1 h2=>by rw [hr];exact (yfY (by omega) hno (h1.symm.trans he) h2).symm
 have hgo:e=0->∀ j,j<k+1->G j=0:=fun h=>yjY hno (he.symm.trans h)
 rw [hG,y14Y hy] at he
 have hFy:=hf y (List.mem_of_getElem? hy)
 have hlst:y.name=lastS (·.name) (l.take (k+1)):=(yalY (κ:=fun z:PoolV=>z.name) hy).symm
 clear hG hf
 have hk1:=h160 y hFy
 obtain ⟨w,hw⟩:∃ w,w=poolE y:=⟨_,rfl⟩
 unfold y35Y at he
 rw [←hw] at hk1 he
 have g1:w≠0->e=w:=fun h=>by rw [he,if_neg h]
 have g2:w=0->e=if y.name<u∨y.name=u then 6 else 0:=fun h=>by rw [he,if_pos h,hu];exact yakY (κ:=fun z:PoolV=>z.name) (yoqY (hw.symm.trans h))
 clear he hw h160 hu hy hFy
 obtain ⟨ynm,ywe,yl0,yl1,yrs,yts,yge,yex,ybu,yme⟩:=y
 simp only [poolD,poolC] at hat hk1 hlst g2
 obtain ⟨xyrs,hxyrs⟩:∃ xs,xs=yrs.map reqD:=⟨_,rfl⟩
 have cxyrs:CleanL xyrs:=by rw [hxyrs];exact y1bY _
 simp only [←hxyrs] at hat hk1 hlst g2
 obtain ⟨xyts,hxyts⟩:∃ xs,xs=yts.map labD:=⟨_,rfl⟩
 have cxyts:CleanL xyts:=by rw [hxyts];exact yeY _
 simp only [←hxyts] at hat hk1 hlst g2
 refine ⟨_,hat,?_⟩
 conv=>cbv
 intro g7
 conv=>cbv
 repeat' (refine And.intro (by first|assumption|exact ⟨by omega⟩|exact ⟨by rw [hlen];omega⟩|exact ⟨rfl⟩|exact ⟨rfl,rfl⟩) ?_)
 refine ⟨_,hk1,?_⟩
 conv=>cbv
 rintro (_|_) h<;>replace h:=ci hO h<;>dsimp only [CmpI] at h<;>(conv=>cbv)
 case true=>exact congrArg (D.int .i64) (hend w (g1 h) (h))
 replace g2:=g2 h
 rintro (_|_) h<;>(conv=>cbv)
 case true=>exact congrArg (D.int .i64) (hend 6 (by rw [g2,if_pos (yaiY hO h)]) (by decide))
 exact ⟨_,_,up _ _ ⟨_,k+1,_,rfl,by rw [y0Y hO (by omega) (by omega)];omega,by omega,rfl,hgo (by rw [g2,if_neg (yajY hO h)]),hlst⟩,⟨⟨rfl,rfl,rfl,rfl,trivial⟩,trivial,rfl⟩,by omega⟩
theorem youY (R:Ans) (s:SnapV) (hF:FSnap s) (h166:∀ y,FCmd y->R.v 166 [cmdD y] (jI (cmdE y))) (h163:∀ n,R.v 163 [snapD s,mkS n] (.bool (y1nY s n))) (h164:∀ os:List OffV,os.length<4611686018427387904->R.v 164 [snapD s,.sl 3 false (os.map offD)] (.bool (yqY s.types os))):AnsF R c102 [snapD s] (jI (cmdsE s)):=by
 have hl:=hF.cmds.lt
 have hf:=hF.cmds.all
 obtain ⟨r,hr⟩:∃ r,r=cmdsE s:=⟨_,rfl⟩
 rw [←hr]
 unfold cmdsE at hr
 obtain ⟨ty,po,pl,cl,cm,co,is,no,hce,hsn,cty,cpo,cpl,ccl,ccm,cco,cis,cno⟩:=yxY s
 rw [hsn] at h163 h164 ⊢
 have hxs:=hce.cm
 obtain ⟨l,hl0⟩:∃ l,l=s.cmds:=⟨_,rfl⟩
 rw [←hl0] at hl hr hxs hf
 obtain ⟨G,hG⟩:∃ G,G=atE (vcmdE s) l:=⟨_,rfl⟩
 rw [←hG] at hr
 refine y2Y ⟨rfl,by decide⟩ fun O hO V hV=>?_
 subst hV
 have hlen:O .len cm=l.length:=by rw [o_len hO,hxs];simp
 conv=>cbv
 refine y4Y (fun n d=>∃ (i:Int) (k:Nat) ,d=⟨[(1,.ptr 1 1 0),(7,.sl 8 false cm),(8,jI (O .len cm)),(9,jI i)],[(1,⟨1,.rw,.var,(sB s ty po pl cl cm co is no)⟩)],false⟩/\i=k/\k<=l.length/\n=l.length-k/\(∀ j,j<k->G j=0)) ⟨_,_,⟨_,0,rfl,rfl,by omega,rfl,by simp⟩,⟨⟨rfl,rfl,rfl,rfl,trivial⟩,⟨rfl,trivial⟩,rfl⟩⟩ ?_
 rintro J up n d ⟨i,k,rfl,hi,hk,rfl,hno⟩
 conv=>cbv
 rintro (_|_) h1<;>(conv=>cbv)
 ·replace h1:=f_lss hO h1
  rw [hlen] at h1
  rw [hr,ywY (fun j hj=>hno j (by omega))]
 replace h1:=t_lss hO h1
 rw [hlen] at h1
 obtain ⟨y,hy⟩:∃ y,l[k]?=some y:=⟨_,List.getElem?_eq_getElem (by omega)⟩
 have hat:atX cm i (cmdD y):=y7Y hy hxs hi
 obtain ⟨e,he⟩:∃ e,e=G k:=⟨_,rfl⟩
 have hend:∀ v,e=v->v≠0->v=r:=fun v h1 h2=>by rw [hr];exact (yfY (by omega) hno (h1.symm.trans he) h2).symm
 have hgo:e=0->∀ j,j<k+1->G j=0:=fun h=>yjY hno (he.symm.trans h)
 rw [hG,y2pY hy] at he
 have hFy:=hf y (List.mem_of_getElem? hy)
 clear hG hf
 have hk1:=h166 y hFy
 have hk2:=h163 y.pool
 have hk3:=h164 y.opts hFy.opts.lt
 obtain ⟨w,hw⟩:∃ w,w=cmdE y:=⟨_,rfl⟩
 obtain ⟨q1,hq1⟩:∃ w,w=y1nY s y.pool:=⟨_,rfl⟩
 obtain ⟨q2,hq2⟩:∃ w,w=yqY s.types y.opts:=⟨_,rfl⟩
 unfold vcmdE at he
 rw [←hw,←hq1,←hq2] at he
 rw [←hw] at hk1
 rw [←hq1] at hk2
 rw [←hq2] at hk3
 have g1:w≠0->e=w:=fun h=>by rw [he,if_neg h]
 have g2:w=0->e=wantI ((decide (y.pool=[])||q1)&&q2) 5:=fun h=>by rw [he,if_pos h]
 clear he hw h166 h163 h164 hq1 hq2 hy hFy
 obtain ⟨yca,yns,yst,yti,yfr,ypo,yos,yma⟩:=y
 simp only [cmdD,cmdC] at hat hk1 hk2 hk3 g2
 obtain ⟨xyns,hxyns⟩:∃ xs,xs=yns.map mkS:=⟨_,rfl⟩
 have cxyns:CleanL xyns:=by rw [hxyns];exact y69Y _
 simp only [←hxyns] at hat hk1 hk2 hk3 g2
 obtain ⟨xyos,hxyos⟩:∃ xs,xs=yos.map offD:=⟨_,rfl⟩
 have cxyos:CleanL xyos:=by rw [hxyos];exact y11Y _
 simp only [←hxyos] at hat hk1 hk2 hk3 g2
 refine ⟨_,hat,?_⟩
 conv=>cbv
 intro g7
 conv=>cbv
 repeat' (refine And.intro (by first|assumption|exact ⟨by omega⟩|exact ⟨by rw [hlen];omega⟩|exact ⟨rfl⟩|exact ⟨rfl,rfl⟩) ?_)
 refine ⟨_,hk1,?_⟩
 conv=>cbv
 rintro (_|_) h<;>replace h:=ci hO h<;>dsimp only [CmpI] at h<;>(conv=>cbv)
 case true=>exact congrArg (D.int .i64) (hend w (g1 h) (h))
 replace g2:=g2 h
 rintro (_|_) h<;>replace h:=cs hO h<;>dsimp only [CmpS] at h<;>(conv=>cbv)
 all_goals (repeat' (first|(refine And.intro (by first|assumption|exact ⟨by omega⟩|exact ⟨by rw [hlen];omega⟩|exact ⟨rfl⟩|exact ⟨rfl,rfl⟩) ?_)|(refine ⟨_,hk2,?_⟩;cases q1<;>(conv=>cbv))|(refine ⟨_,hk3,?_⟩;cases q2<;>(conv=>cbv))))
 all_goals first
  | exact congrArg (D.int .i64) (hend 5 (by rw [g2];simp [wantI,h]) (by decide))
  | exact ⟨_,_,up _ _ ⟨_,k+1,rfl,by rw [y0Y hO (by omega) (by omega)];omega,by omega,rfl,hgo (by rw [g2];simp [wantI,h])⟩,⟨⟨rfl,rfl,rfl,rfl,trivial⟩,⟨rfl,trivial⟩,rfl⟩,by omega⟩
theorem yovY (R:Ans) (s:SnapV) (hF:FSnap s) (h82:∀ y,FPod y->R.v 82 [podD y] (jI (podE y))) (h165:∀ n,R.v 165 [snapD s,mkS n] (.bool (y1aY s n))):AnsF R c101 [snapD s] (jI (podsE s)):=by
 have hl:=hF.pods.lt
 have hf:=hF.pods.all
 obtain ⟨r,hr⟩:∃ r,r=podsE s:=⟨_,rfl⟩
 rw [←hr]
 unfold podsE at hr
 obtain ⟨ty,po,pl,cl,cm,co,is,no,hce,hsn,cty,cpo,cpl,ccl,ccm,cco,cis,cno⟩:=yxY s
 rw [hsn] at h165 ⊢
 have hxs:=hce.po
 obtain ⟨l,hl0⟩:∃ l,l=s.pods:=⟨_,rfl⟩
 rw [←hl0] at hl hr hxs hf
 obtain ⟨G,hG⟩:∃ G,G=upE (vpodE s) l:=⟨_,rfl⟩
 rw [←hG] at hr
 refine y2Y ⟨rfl,by decide⟩ fun O hO V hV=>?_
 subst hV
 have hlen:O .len po=l.length:=by rw [o_len hO,hxs];simp
 conv=>cbv
 refine y4Y (fun n d=>∃ (i:Int) (k:Nat) (u:Str) ,d=⟨[(1,.ptr 1 1 0),(3,mkS u),(8,.sl 12 false po),(9,jI (O .len po)),(10,jI i)],[(1,⟨1,.rw,.var,(sB s ty po pl cl cm co is no)⟩)],false⟩/\i=k/\k<=l.length/\n=l.length-k/\(∀ j,j<k->G j=0)/\u=lastS (·.name) (l.take k)) ⟨_,_,⟨_,0,[],rfl,rfl,by omega,rfl,by simp,rfl⟩,⟨⟨rfl,rfl,rfl,rfl,rfl,trivial⟩,⟨rfl,trivial⟩,rfl⟩⟩ ?_
 rintro J up n d ⟨i,k,u,rfl,hi,hk,rfl,hno,hu⟩
 conv=>cbv
 rintro (_|_) h1<;>(conv=>cbv)
 ·replace h1:=f_lss hO h1
  rw [hlen] at h1
  rw [hr,ywY (fun j hj=>hno j (by omega))]
 replace h1:=t_lss hO h1
 rw [hlen] at h1
 obtain ⟨y,hy⟩:∃ y,l[k]?=some y:=⟨_,List.getElem?_eq_getElem (by omega)⟩
 have hat:atX po i (podD y):=y7Y hy hxs hi
 obtain ⟨e,he⟩:∃ e,e=G k:=⟨_,rfl⟩
 have hend:∀ v,e=v->v≠0->v=r:=fun v h1 h2=>by rw [hr];exact (yfY (by omega) hno (h1.symm.trans he) h2).symm
 have hgo:e=0->∀ j,j<k+1->G j=0:=fun h=>yjY hno (he.symm.trans h)
 rw [hG,y14Y hy] at he
 have hFy:=hf y (List.mem_of_getElem? hy)
 have hlst:y.name=lastS (·.name) (l.take (k+1)):=(yalY (κ:=fun z:PodV=>z.name) hy).symm
 clear hG hf
 have hk1:=h82 y hFy
 have hk2:=h165 y.on
 obtain ⟨w,hw⟩:∃ w,w=podE y:=⟨_,rfl⟩
 obtain ⟨q1,hq1⟩:∃ w,w=y1aY s y.on:=⟨_,rfl⟩
 unfold vpodE at he
 rw [←hw,←hq1] at he
 rw [←hw] at hk1
 rw [←hq1] at hk2
 have g1:w≠0->e=w:=fun h=>by rw [he,if_neg h]
 have g2:w=0->e=y3Y [if y.name<u∨y.name=u then 6 else 0,wantI (decide (y.on=[])||q1) 5,wantI (decide (y.since<=s.now)) 1]:=fun h=>by rw [he,if_pos h,hu,yakY (κ:=fun z:PodV=>z.name) (yorY (hw.symm.trans h))]
 clear he hw h82 h165 hq1 hu hy hFy
 obtain ⟨ynm,yap,yn0,yn1,ypr,yrs,yts,yss,yns,yas,ysi,yon⟩:=y
 simp only [podD,podC] at hat hk1 hk2 hlst g2
 obtain ⟨xyrs,hxyrs⟩:∃ xs,xs=yrs.map reqD:=⟨_,rfl⟩
 have cxyrs:CleanL xyrs:=by rw [hxyrs];exact y1bY _
 simp only [←hxyrs] at hat hk1 hk2 hlst g2
 obtain ⟨xyts,hxyts⟩:∃ xs,xs=yts.map tolD:=⟨_,rfl⟩
 have cxyts:CleanL xyts:=by rw [hxyts];exact y2fY _
 simp only [←hxyts] at hat hk1 hk2 hlst g2
 obtain ⟨xyss,hxyss⟩:∃ xs,xs=yss.map sprD:=⟨_,rfl⟩
 have cxyss:CleanL xyss:=by rw [hxyss];exact y2bY _
 simp only [←hxyss] at hat hk1 hk2 hlst g2
 obtain ⟨xyns,hxyns⟩:∃ xs,xs=yns.map labD:=⟨_,rfl⟩
 have cxyns:CleanL xyns:=by rw [hxyns];exact yeY _
 simp only [←hxyns] at hat hk1 hk2 hlst g2
 obtain ⟨xyas,hxyas⟩:∃ xs,xs=yas.map labD:=⟨_,rfl⟩
 have cxyas:CleanL xyas:=by rw [hxyas];exact yeY _
 simp only [←hxyas] at hat hk1 hk2 hlst g2
 refine ⟨_,hat,?_⟩
 conv=>cbv
 intro g7
 conv=>cbv
 repeat' (refine And.intro (by first|assumption|exact ⟨by omega⟩|exact ⟨by rw [hlen];omega⟩|exact ⟨rfl⟩|exact ⟨rfl,rfl⟩) ?_)
 refine ⟨_,hk1,?_⟩
 conv=>cbv
 rintro (_|_) h<;>replace h:=ci hO h<;>dsimp only [CmpI] at h<;>(conv=>cbv)
 case true=>exact congrArg (D.int .i64) (hend w (g1 h) (h))
 replace g2:=g2 h
 clear h
 rintro (_|_) h2<;>(conv=>cbv)
 case true=>exact congrArg (D.int .i64) (hend 6 (by rw [g2,if_pos (yaiY hO h2)];rfl) (by decide))
 rw [if_neg (yajY hO h2)] at g2
 rintro (_|_) h<;>replace h:=cs hO h<;>dsimp only [CmpS] at h<;>(conv=>cbv)
 all_goals (repeat' (first|(refine And.intro (by first|assumption|exact ⟨by omega⟩|exact ⟨by rw [hlen];omega⟩|exact ⟨rfl⟩|exact ⟨rfl,rfl⟩) ?_)|(refine ⟨_,hk2,?_⟩;cases q1<;>(conv=>cbv))))
 all_goals first
  | exact congrArg (D.int .i64) (hend 5 (by rw [g2];simp [y3Y,wantI,h]) (by decide))
  | (rintro (_|_) h3<;>replace h3:=ci hO h3<;>dsimp only [CmpI] at h3<;>(conv=>cbv)<;>(first|replace h3:ysi > s.now:=h3|replace h3:ysi<=s.now:=h3|replace h3:¬ysi > s.now:=h3))
 all_goals first
  | exact congrArg (D.int .i64) (hend 1 (by rw [g2];simp [y3Y,wantI,h];omega) (by decide))
  | exact ⟨_,_,up _ _ ⟨_,k+1,_,rfl,by rw [y0Y hO (by omega) (by omega)];omega,by omega,rfl,hgo (by rw [g2];simp [y3Y,wantI,h];omega),hlst⟩,⟨⟨rfl,rfl,rfl,rfl,rfl,trivial⟩,⟨rfl,trivial⟩,rfl⟩,by omega⟩
theorem yowY (R:Ans) (s:SnapV) (hF:FSnap s) (h161:∀ y,FClaim y->R.v 161 [y5Y y] (jI (y19Y y))) (h162:∀ o,R.v 162 [.sl 7 false (s.types.map typeD),offD o] (.tup [amD (hasO s.types o).1 (hasO s.types o).2,.bool (isO s.types o)])) (h163:∀ n,R.v 163 [snapD s,mkS n] (.bool (y1nY s n))) (h164:∀ os:List OffV,os.length<4611686018427387904->R.v 164 [snapD s,.sl 3 false (os.map offD)] (.bool (yqY s.types os))):AnsF R c100 [snapD s] (jI (y1oY s)):=by
 have hl:=hF.claims.lt
 have hf:=hF.claims.all
 obtain ⟨r,hr⟩:∃ r,r=y1oY s:=⟨_,rfl⟩
 rw [←hr]
 unfold y1oY at hr
 obtain ⟨ty,po,pl,cl,cm,co,is,no,hce,hsn,cty,cpo,cpl,ccl,ccm,cco,cis,cno⟩:=yxY s
 rw [hsn] at h163 h164 ⊢
 have hxs:=hce.cl
 obtain ⟨l,hl0⟩:∃ l,l=s.claims:=⟨_,rfl⟩
 rw [←hl0] at hl hr hxs hf
 obtain ⟨G,hG⟩:∃ G,G=upE (y36Y s) l:=⟨_,rfl⟩
 rw [←hG] at hr
 refine y2Y ⟨rfl,by decide⟩ fun O hO V hV=>?_
 subst hV
 have hlen:O .len cl=l.length:=by rw [o_len hO,hxs];simp
 conv=>cbv
 refine y4Y (fun n d=>∃ (i:Int) (k:Nat) (u:Str) ,d=⟨[(1,.ptr 1 1 0),(3,mkS u),(10,.sl 15 false cl),(11,jI (O .len cl)),(12,jI i)],[(1,⟨1,.rw,.var,(sB s ty po pl cl cm co is no)⟩)],false⟩/\i=k/\k<=l.length/\n=l.length-k/\(∀ j,j<k->G j=0)/\u=lastS (·.name) (l.take k)) ⟨_,_,⟨_,0,[],rfl,rfl,by omega,rfl,by simp,rfl⟩,⟨⟨rfl,rfl,rfl,rfl,rfl,trivial⟩,⟨rfl,trivial⟩,rfl⟩⟩ ?_
 rintro J up n d ⟨i,k,u,rfl,hi,hk,rfl,hno,hu⟩
 conv=>cbv
 rintro (_|_) h1<;>(conv=>cbv)
 ·replace h1:=f_lss hO h1
  rw [hlen] at h1
  rw [hr,ywY (fun j hj=>hno j (by omega))]
 replace h1:=t_lss hO h1
 rw [hlen] at h1
 obtain ⟨y,hy⟩:∃ y,l[k]?=some y:=⟨_,List.getElem?_eq_getElem (by omega)⟩
 have hat:atX cl i (y5Y y):=y7Y hy hxs hi
 obtain ⟨e,he⟩:∃ e,e=G k:=⟨_,rfl⟩
 have hend:∀ v,e=v->v≠0->v=r:=fun v h1 h2=>by rw [hr];exact (yfY (by omega) hno (h1.symm.trans he) h2).symm
 have hgo:e=0->∀ j,j<k+1->G j=0:=fun h=>yjY hno (he.symm.trans h)
 rw [hG,y14Y hy] at he
 have hFy:=hf y (List.mem_of_getElem? hy)
 have hlst:y.name=lastS (·.name) (l.take (k+1)):=(yalY (κ:=fun z:ClaimV=>z.name) hy).symm
 clear hG hf
 have hk1:=h161 y hFy
 have hk2:=h162 y.off
 have hk3:=h163 y.pool
 have hk4:=h164 [y.off] (by simp)
 have hk5:=h164 y.opts hFy.opts.lt
 rw [←hce.ty] at hk2
 have hone:yqY s.types [y.off]=isO s.types y.off:=by unfold yqY;simp
 rw [hone] at hk4
 obtain ⟨w,hw⟩:∃ w,w=y19Y y:=⟨_,rfl⟩
 obtain ⟨q1,hq1⟩:∃ w,w=y1nY s y.pool:=⟨_,rfl⟩
 obtain ⟨q2,hq2⟩:∃ w,w=isO s.types y.off:=⟨_,rfl⟩
 obtain ⟨q3,hq3⟩:∃ w,w=yqY s.types y.opts:=⟨_,rfl⟩
 obtain ⟨⟨m0,m1⟩,hm⟩:∃ m,m=hasO s.types y.off:=⟨_,rfl⟩
 unfold y36Y at he
 rw [←hw,←hq1,←hq2,←hq3,←hm] at he
 rw [←hw] at hk1
 rw [←hm,←hq2] at hk2
 rw [←hq1] at hk3
 rw [←hq2] at hk4
 rw [←hq3] at hk5
 simp only [List.map_cons,List.map_nil] at hk4
 unfold amD at hk2
 have g1:w≠0->e=w:=fun h=>by rw [he,if_neg h]
 have g2:w=0->e=y3Y [if y.name<u∨y.name=u then 6 else 0,wantI (q1&&(q2&&q3)) 5,wantI (decide (y.c0=m0)&&decide (y.c1=m1)) 1]:=fun h=>by rw [he,if_pos h,hu,yakY (κ:=fun z:ClaimV=>z.name) (yosY (hw.symm.trans h))]
 clear he hw h161 h162 h163 h164 hq1 hq2 hq3 hm hone hu hy hFy
 obtain ⟨ynm,ypo,yge,⟨yot,yoz,yok⟩,ypr,yc0,yc1,yos,ytr,yid,yph,ybo,yma⟩:=y
 simp only [y5Y,y12Y] at hat hk1 hk2 hk3 hk4 hk5 hlst g2
 obtain ⟨xyos,hxyos⟩:∃ xs,xs=yos.map offD:=⟨_,rfl⟩
 have cxyos:CleanL xyos:=by rw [hxyos];exact y11Y _
 simp only [←hxyos] at hat hk1 hk2 hk3 hk4 hk5 hlst g2
 refine ⟨_,hat,?_⟩
 conv=>cbv
 simp only [offD] at hk2 hk4
 intro g7
 conv=>cbv
 repeat' (refine And.intro (by first|assumption|exact ⟨by omega⟩|exact ⟨by rw [hlen];omega⟩|exact ⟨rfl⟩|exact ⟨rfl,rfl⟩) ?_)
 refine ⟨_,hk1,?_⟩
 conv=>cbv
 rintro (_|_) h<;>replace h:=ci hO h<;>dsimp only [CmpI] at h<;>(conv=>cbv)
 case true=>exact congrArg (D.int .i64) (hend w (g1 h) (h))
 replace g2:=g2 h
 clear h
 repeat' (refine And.intro (by first|assumption|exact ⟨by omega⟩|exact ⟨by rw [hlen];omega⟩|exact ⟨rfl⟩|exact ⟨rfl,rfl⟩) ?_)
 refine ⟨_,hk2,?_⟩
 conv=>cbv
 intro g8
 conv=>cbv
 rintro (_|_) h2<;>(conv=>cbv)
 case true=>exact congrArg (D.int .i64) (hend 6 (by rw [g2,if_pos (yaiY hO h2)];rfl) (by decide))
 rw [if_neg (yajY hO h2)] at g2
 repeat' (refine And.intro (by first|assumption|exact ⟨by omega⟩|exact ⟨by rw [hlen];omega⟩|exact ⟨rfl⟩|exact ⟨rfl,rfl⟩) ?_)
 refine ⟨_,hk3,?_⟩
 cases q1<;>(conv=>cbv)
 case false=>exact congrArg (D.int .i64) (hend 5 (by rw [g2];rfl) (by decide))
 repeat' (first|(refine And.intro (by first|assumption|exact ⟨by omega⟩|exact ⟨by rw [hlen];omega⟩|exact ⟨rfl⟩|exact ⟨rfl,rfl⟩) ?_)|(intro (g:Nat);(conv=>cbv)))
 refine ⟨_,hk4,?_⟩
 cases q2<;>(conv=>cbv)
 case false=>exact congrArg (D.int .i64) (hend 5 (by rw [g2];rfl) (by decide))
 repeat' (refine And.intro (by first|assumption|exact ⟨by omega⟩|exact ⟨by rw [hlen];omega⟩|exact ⟨rfl⟩|exact ⟨rfl,rfl⟩) ?_)
 refine ⟨_,hk5,?_⟩
 cases q3<;>(conv=>cbv)
 case false=>exact congrArg (D.int .i64) (hend 5 (by rw [g2];rfl) (by decide))
 rintro (_|_) h<;>(conv=>cbv)
 case true =>
  have h3:=ne_am hO h
  exact congrArg (D.int .i64) (hend 1 (by rw [g2];simp [y3Y,wantI];omega) (by decide))
 have h3:=eq_am hO h
 exact ⟨_,_,up _ _ ⟨_,k+1,_,rfl,by rw [y0Y hO (by omega) (by omega)];omega,by omega,rfl,hgo (by rw [g2];simp [y3Y,wantI];omega),hlst⟩,⟨⟨rfl,rfl,rfl,rfl,rfl,trivial⟩,⟨rfl,trivial⟩,rfl⟩,by omega⟩
theorem yoxY (R:Ans) (x y:OffV) (h88:∀ a b,R.v 131 [mkS a,mkS b] (jI (cmpS a b))) (h200:∀ l:List Int,l.length<4611686018427387904->R.v 208 [.sl 1 false (l.map iD)] (jI (y3Y l))):AnsF R c167 [offD x,offD y] (jI (cmpO x y)):=by
 obtain ⟨a,b,c⟩:=x
 obtain ⟨a',b',c'⟩:=y
 have k1:=h88 a a'
 have k2:=h88 b b'
 have k3:=h88 c c'
 have k4:=h200 [cmpS a a',cmpS b b',cmpS c c'] (by simp)
 obtain ⟨r,hr⟩:∃ r,r=cmpO ⟨a,b,c⟩ ⟨a',b',c'⟩:=⟨_,rfl⟩
 rw [←hr]
 unfold cmpO at hr
 simp only at hr
 rw [←hr] at k4
 obtain ⟨e1,he1⟩:∃ e,e=cmpS a a':=⟨_,rfl⟩
 obtain ⟨e2,he2⟩:∃ e,e=cmpS b b':=⟨_,rfl⟩
 obtain ⟨e3,he3⟩:∃ e,e=cmpS c c':=⟨_,rfl⟩
 rw [←he1] at k1 k4
 rw [←he2] at k2 k4
 rw [←he3] at k3 k4
 clear hr he1 he2 he3 h88 h200
 simp only [List.map] at k4
 refine y2Y ⟨rfl,by decide⟩ fun O hO V hV=>?_
 subst hV
 conv=>cbv
 repeat' (first|(refine ⟨_,by assumption,?_⟩;(conv=>cbv))|(refine And.intro (by first|assumption|exact ⟨rfl⟩|exact ⟨rfl,rfl⟩) ?_))
 all_goals trivial
theorem yoyY (R:Ans) (s:SnapV) (hF:FSnap s) (h164:∀ os:List OffV,os.length<4611686018427387904->R.v 164 [snapD s,.sl 3 false (os.map offD)] (.bool (yqY s.types os))) (h96:∀ n,R.v 96 [jI n] (.bool (timeB n))) (h167:∀ x y,R.v 167 [offD x,offD y] (jI (cmpO x y))):AnsF R c103 [snapD s] (jI (y23Y s)):=by
 have hl:=hF.cools.lt
 have hf:=hF.cools.all
 obtain ⟨r,hr⟩:∃ r,r=y23Y s:=⟨_,rfl⟩
 rw [←hr]
 unfold y23Y at hr
 obtain ⟨ty,po,pl,cl,cm,co,is,no,hce,hsn,cty,cpo,cpl,ccl,ccm,cco,cis,cno⟩:=yxY s
 rw [hsn] at h164 ⊢
 have hxs:=hce.co
 obtain ⟨l,hl0⟩:∃ l,l=s.cools:=⟨_,rfl⟩
 rw [←hl0] at hl hr hxs hf
 obtain ⟨G,hG⟩:∃ G,G=upE (y67Y s) l:=⟨_,rfl⟩
 rw [←hG] at hr
 refine y2Y ⟨rfl,by decide⟩ fun O hO V hV=>?_
 subst hV
 have hlen:O .len co=l.length:=by rw [o_len hO,hxs];simp
 conv=>cbv
 refine y4Y (fun n d=>∃ (i:Int) (k:Nat) ,d=⟨[(1,.ptr 1 1 0),(6,.sl 4 false co),(7,jI (O .len co)),(8,jI i)],[(1,⟨1,.rw,.var,(sB s ty po pl cl cm co is no)⟩)],false⟩/\i=k/\k<=l.length/\n=l.length-k/\(∀ j,j<k->G j=0)) ⟨_,_,⟨_,0,rfl,rfl,by omega,rfl,by simp⟩,⟨⟨rfl,rfl,rfl,rfl,trivial⟩,⟨rfl,trivial⟩,rfl⟩⟩ ?_
 rintro J up n d ⟨i,k,rfl,hi,hk,rfl,hno⟩
 conv=>cbv
 rintro (_|_) h1<;>(conv=>cbv)
 ·replace h1:=f_lss hO h1
  rw [hlen] at h1
  rw [hr,ywY (fun j hj=>hno j (by omega))]
 replace h1:=t_lss hO h1
 rw [hlen] at h1
 obtain ⟨y,hy⟩:∃ y,l[k]?=some y:=⟨_,List.getElem?_eq_getElem (by omega)⟩
 have hat:atX co i (coolD y):=y7Y hy hxs hi
 obtain ⟨e,he⟩:∃ e,e=G k:=⟨_,rfl⟩
 have hend:∀ v,e=v->v≠0->v=r:=fun v h1 h2=>by rw [hr];exact (yfY (by omega) hno (h1.symm.trans he) h2).symm
 have hgo:e=0->∀ j,j<k+1->G j=0:=fun h=>yjY hno (he.symm.trans h)
 rw [hG,y14Y hy] at he
 have hFy:=hf y (List.mem_of_getElem? hy)
 clear hG hf
 have hk1:=h164 [y.o] (by simp)
 have hk4:=h96 y.u
 have hone:yqY s.types [y.o]=isO s.types y.o:=by unfold yqY;simp
 rw [hone] at hk1
 obtain ⟨q1,hq1⟩:∃ w,w=isO s.types y.o:=⟨_,rfl⟩
 obtain ⟨q3,hq3⟩:∃ w,w=timeB y.u:=⟨_,rfl⟩
 unfold y67Y at he
 rw [←hq1,←hq3] at he
 rw [←hq1] at hk1
 rw [←hq3] at hk4
 obtain ⟨q,p,c,hk2,hp,hq⟩:∃ (q:Bool) (p:CoolV) (c:Int),V.v 167 [offD p.o,offD y.o] (jI c)/\(0<k->l[k-1]?=some p/\(c<0↔q=true))/\e=if q1 then (if 0<k then (if q then (if q3 then 0 else 1) else 6) else (if q3 then 0 else 1)) else 5:=by
  by_cases h0:0<k
  ·obtain ⟨p,hp⟩:∃ p,l[k-1]?=some p:=⟨_,List.getElem?_eq_getElem (by omega)⟩
   rw [y34Y h0 hp] at he
   exact ⟨ltO p.o y.o,p,_,h167 p.o y.o,fun _=>⟨hp,ylbY _ _⟩,by rw [he];simp [h0]⟩
  ·have:k=0:=by omega
   subst this
   exact ⟨true,y,_,h167 y.o y.o,fun h=>absurd h (by omega),by rw [he];simp⟩
 have hsub:0<k->O .iop .sub .i64 i 1=((k-1:Nat):Int):=fun h=>by rw [y15Y hO (by omega) (by omega)];omega
 have hat2:0<k->atX co (O .iop .sub .i64 i 1) (coolD p):=fun h=>y7Y (hp h).1 hxs (hsub h)
 have hcq:=fun h=>(hp h).2
 obtain ⟨⟨p1,p2,p3⟩,p4⟩:=p
 simp only [List.map_cons,List.map_nil] at hk1
 simp only at hk2
 clear he hq1 hq3 hone h164 h96 h167 hy hFy hp hsub
 obtain ⟨⟨yot,yoz,yok⟩,yu⟩:=y
 simp only [coolD,coolC] at hat hk1 hk2 hk4
 refine ⟨_,hat,?_⟩
 conv=>cbv
 simp only [offD] at hk1 hk2
 simp only [coolD,coolC] at hat2
 intro g4
 conv=>cbv
 repeat' (first|(refine And.intro (by first|assumption|exact ⟨by omega⟩|exact ⟨by rw [hlen];omega⟩|exact ⟨rfl⟩|exact ⟨rfl,rfl⟩) ?_)|(intro (g:Nat);(conv=>cbv)))
 refine ⟨_,hk1,?_⟩
 cases q1<;>(conv=>cbv)
 case false=>exact congrArg (D.int .i64) (hend 5 (by rw [hq];rfl) (by decide))
 rintro (_|_) h<;>replace h:=ci hO h<;>dsimp only [CmpI] at h<;>(conv=>cbv)
 case false =>
  have hq:e=if q3 then 0 else 1:=by rw [hq,if_pos rfl,if_neg (by omega)]
  refine ⟨_,hk4,?_⟩
  cases q3<;>(conv=>cbv)
  case false=>exact congrArg (D.int .i64) (hend 1 (by rw [hq];rfl) (by decide))
  exact ⟨_,_,up _ _ ⟨_,k+1,rfl,by rw [y0Y hO (by omega) (by omega)];omega,by omega,rfl,hgo (by rw [hq];rfl)⟩,⟨⟨rfl,rfl,rfl,rfl,trivial⟩,⟨rfl,trivial⟩,rfl⟩,by omega⟩
 have hq:e=if q then (if q3 then 0 else 1) else 6:=by rw [hq,if_pos rfl,if_pos (by omega)]
 replace hcq:=hcq (by omega)
 refine ⟨_,hat2 (by omega),?_⟩
 conv=>cbv
 refine ⟨_,hk2,?_⟩
 conv=>cbv
 rintro (_|_) h3<;>replace h3:=ci hO h3<;>dsimp only [CmpI] at h3<;>(conv=>cbv)
 case true =>
  have hqf:q=false:=by cases q<;>simp at hcq<;>first|rfl|omega
  subst hqf
  exact congrArg (D.int .i64) (hend 6 (by rw [hq];rfl) (by decide))
 have hqt:q=true:=hcq.1 (by omega)
 subst hqt
 refine ⟨_,hk4,?_⟩
 cases q3<;>(conv=>cbv)
 case false=>exact congrArg (D.int .i64) (hend 1 (by rw [hq];rfl) (by decide))
 exact ⟨_,_,up _ _ ⟨_,k+1,rfl,by rw [y0Y hO (by omega) (by omega)];omega,by omega,rfl,hgo (by rw [hq];rfl)⟩,⟨⟨rfl,rfl,rfl,rfl,trivial⟩,⟨rfl,trivial⟩,rfl⟩,by omega⟩
structure SeenS {α:Type} (κ:α->Str) (l:List α) (M:List Str):Prop where
 mem:∀ x,x∈M↔l.any (fun y=>decide (κ y=x))=true
theorem SeenS.nil {α:Type} {κ:α->Str}:SeenS κ ([]:List α) []:=⟨fun x=>by simp⟩
theorem SeenS.step {α:Type} {κ:α->Str} {l:List α} {k:Nat} {M:List Str} {y:α} (h:SeenS κ (l.take k) M) (hy:l[k]?=some y):SeenS κ (l.take (k+1)) (insS M (κ y)):=⟨fun x=>by
 rw [y9wY,h.mem,List.take_add_one,hy,List.any_append,Bool.or_eq_true]
 have:(κ y=x)↔(x=κ y):=⟨Eq.symm,Eq.symm⟩
 simp only [Option.toList_some,List.any_cons,List.any_nil,Bool.or_false,decide_eq_true_eq,this]⟩
theorem SeenS.look {α:Type} {κ:α->Str} {l:List α} {M:List Str} (h:SeenS κ l M) (s:Str) {es:List D} (he:es=M.map ent) {q:Bool} (hq:q=l.any fun y=>decide (κ y=s)):lookD kS (mkS s) es=some (if q then some (.bool true) else none):=by
 rw [he,y7gY,hq]
 by_cases h2:s∈M
 ·rw [if_pos h2,if_pos ((h.mem s).1 h2)]
 ·rw [if_neg h2,if_neg fun h3=>h2 ((h.mem s).2 h3)]
theorem yozY {α:Type} {p q:α->Bool} {l:List α}:(l.any fun y=>p y||q y)=(l.any p||l.any q):=by
 induction l with
 | nil=>rfl
 | cons x r ih=>simp only [List.any_cons,ih];cases p x<;>cases q x<;>cases r.any p<;>rfl
theorem yp0Y (R:Ans) (s:SnapV) (hF:FSnap s) (h164:∀ os:List OffV,os.length<4611686018427387904->R.v 164 [snapD s,.sl 3 false (os.map offD)] (.bool (yqY s.types os))) (h96:∀ n,R.v 96 [jI n] (.bool (timeB n))):AnsF R c104 [snapD s] (jI (y24Y s)):=by
 have hl:=hF.insts.lt
 have hf:=hF.insts.all
 obtain ⟨r,hr⟩:∃ r,r=y24Y s:=⟨_,rfl⟩
 rw [←hr]
 unfold y24Y at hr
 obtain ⟨ty,po,pl,cl,cm,co,is,no,hce,hsn,cty,cpo,cpl,ccl,ccm,cco,cis,cno⟩:=yxY s
 rw [hsn] at h164 ⊢
 have hxs:=hce.is
 obtain ⟨l,hl0⟩:∃ l,l=s.insts:=⟨_,rfl⟩
 rw [←hl0] at hl hr hxs hf
 obtain ⟨G,hG⟩:∃ G,G=upE (y68Y s) l:=⟨_,rfl⟩
 rw [←hG] at hr
 refine y2Y ⟨rfl,by decide⟩ fun O hO V hV=>?_
 subst hV
 have hlen:O .len is=l.length:=by rw [o_len hO,hxs];simp
 conv=>cbv
 refine y4Y (fun n d=>∃ (i:Int) (k:Nat) (M1 M2:List Str) (es1 es2:List D) (c1 c2:Int),d=⟨[(1,.ptr 1 1 0),(3,.mapr 7 1),(4,.mapr 8 1),(10,.sl 7 false is),(11,jI (O .len is)),(12,jI i)],[(1,⟨1,.rw,.var,(sB s ty po pl cl cm co is no)⟩),(7,⟨1,.rw,.map,jI c1::es1⟩),(8,⟨1,.rw,.map,jI c2::es2⟩)],false⟩/\i=k/\k<=l.length/\n=l.length-k/\(∀ j,j<k->G j=0)/\es1=M1.map ent/\es2=M2.map ent/\SeenS (fun y:InstV=>y.id) (l.take k) M1/\SeenS (fun y:InstV=>y.tok) (l.take k) M2) ⟨_,_,⟨_,0,[],[],_,_,_,_,rfl,rfl,by omega,rfl,by simp,rfl,rfl,.nil,.nil⟩,⟨⟨rfl,rfl,rfl,rfl,rfl,rfl,trivial⟩,⟨rfl,rfl,rfl,trivial⟩,rfl⟩⟩ ?_
 rintro J up n d ⟨i,k,M1,M2,es1,es2,c1,c2,rfl,hi,hk,rfl,hno,hm1,hm2,hs1,hs2⟩
 conv=>cbv
 rintro (_|_) h1<;>(conv=>cbv)
 ·replace h1:=f_lss hO h1
  rw [hlen] at h1
  rw [hr,ywY (fun j hj=>hno j (by omega))]
 replace h1:=t_lss hO h1
 rw [hlen] at h1
 obtain ⟨y,hy⟩:∃ y,l[k]?=some y:=⟨_,List.getElem?_eq_getElem (by omega)⟩
 have hat:atX is i (instD y):=y7Y hy hxs hi
 obtain ⟨e,he⟩:∃ e,e=G k:=⟨_,rfl⟩
 have hend:∀ v,e=v->v≠0->v=r:=fun v h1 h2=>by rw [hr];exact (yfY (by omega) hno (h1.symm.trans he) h2).symm
 have hgo:e=0->∀ j,j<k+1->G j=0:=fun h=>yjY hno (he.symm.trans h)
 rw [hG,y14Y hy] at he
 have hFy:=hf y (List.mem_of_getElem? hy)
 clear hG hf
 have hk1:=h164 [y.off] (by simp)
 have hk4:=h96 y.rdy
 have hone:yqY s.types [y.off]=isO s.types y.off:=by unfold yqY;simp
 rw [hone] at hk1
 obtain ⟨q1,hq1⟩:∃ w,w=isO s.types y.off:=⟨_,rfl⟩
 obtain ⟨q3,hq3⟩:∃ w,w=timeB y.rdy:=⟨_,rfl⟩
 obtain ⟨q5,hq5⟩:∃ w,w=(l.take k).any fun z=>decide (z.id=y.id):=⟨_,rfl⟩
 obtain ⟨q6,hq6⟩:∃ w,w=(l.take k).any fun z=>decide (z.tok=y.tok):=⟨_,rfl⟩
 unfold y68Y at he
 rw [←hq1,←hq3,yozY,←hq5,←hq6] at he
 rw [←hq1] at hk1
 rw [←hq3] at hk4
 have hl5:=hs1.look y.id hm1 hq5
 have hl6:=hs2.look y.tok hm2 hq6
 have hn1:=hs1.step hy
 have hn2:=hs2.step hy
 obtain ⟨f1,hf1⟩:∃ f,f=(insS M1 y.id).map ent:=⟨_,rfl⟩
 obtain ⟨f2,hf2⟩:∃ f,f=(insS M2 y.tok).map ent:=⟨_,rfl⟩
 have hp1:mputD kS (mkS y.id) (.bool true) es1=some f1:=by rw [hm1,hf1];exact y64Y _ _
 have hp2:mputD kS (mkS y.tok) (.bool true) es2=some f2:=by rw [hm2,hf2];exact y64Y _ _
 simp only [List.map_cons,List.map_nil] at hk1
 clear hq1 hq3 hq5 hq6 hone h164 h96 hy hFy hs1 hs2
 obtain ⟨yid,ytk,⟨yot,yoz,yok⟩,yst,yrd⟩:=y
 simp only [instD,instC] at hat hk1 hk4 he hl5 hl6 hn1 hn2 hp1 hp2 hf1 hf2
 refine ⟨_,hat,?_⟩
 conv=>cbv
 simp only [offD] at hk1
 intro g6
 conv=>cbv
 rintro (_|_) a1<;>replace a1:=cs hO a1<;>dsimp only [CmpS] at a1<;>(conv=>cbv)
 case true=>exact congrArg (D.int .i64) (hend 1 (by rw [he];simp [a1]) (by decide))
 rintro (_|_) a2<;>replace a2:=cs hO a2<;>dsimp only [CmpS] at a2<;>(conv=>cbv)
 case true=>exact congrArg (D.int .i64) (hend 1 (by rw [he];simp [a2]) (by decide))
 rintro (_|_) a3<;>replace a3:=ci hO a3<;>dsimp only [CmpI] at a3<;>(conv=>cbv)
 case true=>exact congrArg (D.int .i64) (hend 1 (by rw [he];unfold btw;simp;omega) (by decide))
 rintro (_|_) a4<;>replace a4:=ci hO a4<;>dsimp only [CmpI] at a4<;>(conv=>cbv)
 case true=>exact congrArg (D.int .i64) (hend 1 (by rw [he];unfold btw;simp;omega) (by decide))
 refine ⟨_,hk4,?_⟩
 cases q3<;>(conv=>cbv)
 case false=>exact congrArg (D.int .i64) (hend 1 (by rw [he];simp) (by decide))
 have he:e=if q5||q6 then 6 else if q1 then 0 else 5:=by
  rw [he,if_neg]
  unfold btw
  simp [a1,a2]
  omega
 cases q5
 case true =>
  refine ⟨_,hl5,?_⟩
  conv=>cbv
  exact congrArg (D.int .i64) (hend 6 (by rw [he];rfl) (by decide))
 refine ⟨_,hl5,?_⟩
 conv=>cbv
 cases q6
 case true =>
  refine ⟨_,hl6,?_⟩
  conv=>cbv
  exact congrArg (D.int .i64) (hend 6 (by rw [he];rfl) (by decide))
 refine ⟨_,hl6,?_⟩
 conv=>cbv
 repeat' (first|(refine And.intro (by first|assumption|exact ⟨by omega⟩|exact ⟨by rw [hlen];omega⟩|exact ⟨rfl⟩|exact ⟨rfl,rfl⟩) ?_)|(intro (g:Nat);(conv=>cbv)))
 refine ⟨_,hk1,?_⟩
 cases q1<;>(conv=>cbv)
 case false=>exact congrArg (D.int .i64) (hend 5 (by rw [he];rfl) (by decide))
 refine ⟨_,hp1,fun c1=>?_⟩
 conv=>cbv
 refine ⟨_,hp2,fun c2=>?_⟩
 conv=>cbv
 exact ⟨_,_,up _ _ ⟨_,k+1,_,_,f1,f2,c1,c2,rfl,by rw [y0Y hO (by omega) (by omega)];omega,by omega,rfl,hgo (by rw [he];rfl),hf1,hf2,hn1,hn2⟩,⟨⟨rfl,rfl,rfl,rfl,rfl,rfl,trivial⟩,⟨rfl,rfl,rfl,trivial⟩,rfl⟩,by omega⟩
end Go.Proofs.AM
