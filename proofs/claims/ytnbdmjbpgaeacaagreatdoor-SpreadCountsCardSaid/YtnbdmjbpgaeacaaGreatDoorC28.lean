/- Part 28 of the lemmas: AKn. -/
import Derived.Test.YtnbdmjbpgaeacaaGreatDoorC27
import Derived.Test.YtnbdmjbpgaeacaaGreatDoorC06
set_option maxRecDepth 100000
set_option maxHeartbeats 8000000
set_option linter.all false
namespace Go.Proofs.AM
open Go Go.Lib Cd
theorem yp7Y (R:Ans) (s:SnapV) (hF:FSnap s) (h124:∀ y,FCmd y->R.v 124 [cmdD y] (jI (cmdE y))) (h49:∀ n,R.v 49 [snapD s,mkS n] (.tup [poolD ((s.pools.find? fun x=>decide (x.name=n)).getD y3pY),.bool (s.pools.find? fun x=>decide (x.name=n)).isSome])) (h122:∀ os:List OffV,os.length<4611686018427387904->R.v 122 [.sl 7 false (s.types.map typeD),.sl 3 false (os.map offD)] (.bool (yqY s.types os))) (h71:∀ n,R.v 71 [jI n] (.bool (timeB n))) (h125:∀ x y,R.v 125 [offD x,offD y] (.bool (ltO x y))):AnsF R c77 [snapD s] (jI (y3Y [cmdsE s,y23Y s,y24Y s])):=by
 obtain ⟨E1,hE1⟩:∃ E,E=cmdsE s:=⟨_,rfl⟩
 obtain ⟨E2,hE2⟩:∃ E,E=y23Y s:=⟨_,rfl⟩
 obtain ⟨E3,hE3⟩:∃ E,E=y24Y s:=⟨_,rfl⟩
 rw [←hE1,←hE2,←hE3]
 obtain ⟨r,hr⟩:∃ r,r=y3Y [E1,E2,E3]:=⟨_,rfl⟩
 rw [←hr]
 unfold cmdsE at hE1
 unfold y23Y at hE2
 unfold y24Y at hE3
 obtain ⟨ty,po,pl,cl,cm,co,is,no,hce,hsn,cty,cpo,cpl,ccl,ccm,cco,cis,cno⟩:=yxY s
 rw [hsn] at h49 ⊢
 refine y2Y ⟨rfl,by decide⟩ fun O hO V hV=>?_
 subst hV
 conv=>cbv
 have hl:=hF.cmds.lt
 have hf:=hF.cmds.all
 have hxs:=hce.cm
 obtain ⟨l,hl0⟩:∃ l,l=s.cmds:=⟨_,rfl⟩
 rw [←hl0] at hl hE1 hxs hf
 obtain ⟨G,hG⟩:∃ G,G=atE (vcmdE s) l:=⟨_,rfl⟩
 rw [←hG] at hE1
 have hlen:O .len cm=l.length:=by rw [o_len hO,hxs];simp
 refine y4Y (fun n d=>∃ (i:Int) (k:Nat),d=⟨[(1,.ptr 1 1 0),(15,.sl 8 false cm),(16,jI (O .len cm)),(17,jI i)],[(1,⟨1,.rw,.var,(sB s ty po pl cl cm co is no)⟩)],false⟩/\i=k/\k<=l.length/\n=l.length-k/\∀ j,j<k->G j=0) ⟨_,_,⟨_,0,rfl,rfl,by omega,rfl,by simp⟩,⟨⟨rfl,rfl,rfl,rfl,trivial⟩,⟨rfl,trivial⟩,rfl⟩⟩ ?_
 rintro J up n d ⟨i,k,rfl,hi,hk,rfl,hno⟩
 conv=>cbv
 rintro (_|_) h1<;>(conv=>cbv)
 ·replace h1:=f_lss hO h1
  rw [hlen] at h1
  have hz:E1=0:=by rw [hE1];exact ywY (fun j hj=>hno j (by omega))
  rw [hz] at hr
  clear up hno hG hz hE1 hf hxs hlen hl hk h1 hi hl0
  have hl:=hF.cools.lt
  have hf:=hF.cools.all
  have hxs:=hce.co
  obtain ⟨l,hl0⟩:∃ l,l=s.cools:=⟨_,rfl⟩
  rw [←hl0] at hl hE2 hxs hf
  obtain ⟨G,hG⟩:∃ G,G=upE (y67Y s) l:=⟨_,rfl⟩
  rw [←hG] at hE2
  have hlen:O .len co=l.length:=by rw [o_len hO,hxs];simp
  refine y4Y (fun n d=>∃ (i:Int) (k:Nat),d=⟨[(1,.ptr 1 1 0),(50,.sl 4 false co),(51,jI (O .len co)),(52,jI i)],[(1,⟨1,.rw,.var,(sB s ty po pl cl cm co is no)⟩)],false⟩/\i=k/\k<=l.length/\n=l.length-k/\∀ j,j<k->G j=0) ⟨_,_,⟨_,0,rfl,rfl,by omega,rfl,by simp⟩,⟨⟨rfl,rfl,rfl,rfl,trivial⟩,⟨rfl,trivial⟩,rfl⟩⟩ ?_
  rintro J up n d ⟨i,k,rfl,hi,hk,rfl,hno⟩
  conv=>cbv
  rintro (_|_) h1<;>(conv=>cbv)
  ·replace h1:=f_lss hO h1
   rw [hlen] at h1
   have hz:E2=0:=by rw [hE2];exact ywY (fun j hj=>hno j (by omega))
   rw [hz] at hr
   clear up hno hG hz hE2 hf hxs hlen hl hk h1 hi hl0
   have hl:=hF.insts.lt
   have hf:=hF.insts.all
   have hxs:=hce.is
   obtain ⟨l,hl0⟩:∃ l,l=s.insts:=⟨_,rfl⟩
   rw [←hl0] at hl hE3 hxs hf
   obtain ⟨G,hG⟩:∃ G,G=upE (y68Y s) l:=⟨_,rfl⟩
   rw [←hG] at hE3
   have hlen:O .len is=l.length:=by rw [o_len hO,hxs];simp
   refine y4Y (fun n d=>∃ (i:Int) (k:Nat),d=⟨[(1,.ptr 1 1 0),(85,.sl 7 false is),(86,jI (O .len is)),(87,jI i)],[(1,⟨1,.rw,.var,(sB s ty po pl cl cm co is no)⟩)],false⟩/\i=k/\k<=l.length/\n=l.length-k/\∀ j,j<k->G j=0) ⟨_,_,⟨_,0,rfl,rfl,by omega,rfl,by simp⟩,⟨⟨rfl,rfl,rfl,rfl,trivial⟩,⟨rfl,trivial⟩,rfl⟩⟩ ?_
   rintro J up n d ⟨i,k,rfl,hi,hk,rfl,hno⟩
   conv=>cbv
   rintro (_|_) h1<;>(conv=>cbv)
   ·replace h1:=f_lss hO h1
    rw [hlen] at h1
    have hz:E3=0:=by rw [hE3];exact ywY (fun j hj=>hno j (by omega))
    rw [hz] at hr
    clear up hno hG hz hE3 hf hxs hlen hl hk h1 hi hl0
    rw [hr]
    rfl
   replace h1:=t_lss hO h1
   rw [hlen] at h1
   obtain ⟨y,hy⟩:∃ y,l[k]?=some y:=⟨_,List.getElem?_eq_getElem (by omega)⟩
   have hat:atX is i (instD y):=y7Y hy hxs hi
   obtain ⟨e,he⟩:∃ e,e=G k:=⟨_,rfl⟩
   have hend:∀ v,e=v->v≠0->v=r:=fun v h1 h2=>by
    have:E3=v:=by rw [hE3];exact yfY (by omega) hno (h1.symm.trans he) h2
    rw [hr,this]
    simp [y3Y,h2]
   have hgo:e=0->∀ j,j<k+1->G j=0:=fun h=>yjY hno (he.symm.trans h)
   rw [hG,y14Y hy] at he
   have hFy:=hf y (List.mem_of_getElem? hy)
   clear hG hf
   have hk1:=h122 [y.off] (by simp)
   rw [←hce.ty] at hk1
   have hk4:=h71 y.rdy
   have hone:yqY s.types [y.off]=isO s.types y.off:=by unfold yqY;simp
   rw [hone] at hk1
   obtain ⟨q1,hq1⟩:∃ w,w=isO s.types y.off:=⟨_,rfl⟩
   obtain ⟨q3,hq3⟩:∃ w,w=timeB y.rdy:=⟨_,rfl⟩
   obtain ⟨P,hP⟩:∃ P,P=fun z:InstV=>decide (z.id=y.id)||decide (z.tok=y.tok):=⟨_,rfl⟩
   obtain ⟨q5,hq5⟩:∃ w,w=(l.take k).any P:=⟨_,rfl⟩
   unfold y68Y at he
   rw [←hq1,←hq3,←hP,←hq5] at he
   rw [←hq1] at hk1
   rw [←hq3] at hk4
   simp only [List.map_cons,List.map_nil] at hk1
   obtain ⟨l2,hl2⟩:∃ l2,l2=l.take k:=⟨_,rfl⟩
   have hlen2:l2.length=k:=by rw [hl2];simp;omega
   obtain ⟨ys,hys⟩:∃ ys,ys=O .subL is 0 i:=⟨_,rfl⟩
   have hyl:ys=l2.map instD:=by rw [hys,y20Y hO,hxs,hi,hl2,←List.map_take];simp
   have cys:CleanL ys:=by rw [hyl];exact ya8Y _
   have hlys:O .len ys=k:=by rw [o_len hO,hyl];simp [hlen2]
   rw [←hl2] at hq5
   clear hq1 hq3 hone h122 h71 h125 h49 h124 hy hFy
   obtain ⟨yid,ytk,⟨yot,yoz,yok⟩,yst,yrd⟩:=y
   simp only [instD,instC] at hat hk1 hk4 he hP
   refine ⟨_,hat,?_⟩
   conv=>cbv
   simp only [offD] at hk1
   intro g11
   conv=>cbv
   rintro (_|_) a1<;>replace a1:=cs hO a1<;>dsimp only [CmpS] at a1<;>(conv=>cbv)
   case true=>exact congrArg (D.int .i64) (hend 1 (by rw [he];simp [a1]) (by decide))
   rintro (_|_) a2<;>replace a2:=cs hO a2<;>dsimp only [CmpS] at a2<;>(conv=>cbv)
   case true=>exact congrArg (D.int .i64) (hend 1 (by rw [he];simp [a2]) (by decide))
   rintro (_|_) a3<;>replace a3:=ci hO a3<;>dsimp only [CmpI] at a3<;>(conv=>cbv)
   case true=>exact congrArg (D.int .i64) (hend 1 (by rw [he];unfold btw;simp;omega) (by decide))
   rintro (_|_) a4<;>replace a4:=ci hO a4<;>dsimp only [CmpI] at a4<;>(conv=>cbv)
   case true=>exact congrArg (D.int .i64) (hend 1 (by rw [he];unfold btw;simp;omega) (by decide))
   refine ⟨_,hk4,?_⟩
   cases q3<;>(conv=>cbv)
   case false=>exact congrArg (D.int .i64) (hend 1 (by rw [he];simp) (by decide))
   have he:e=if q5 then 6 else if q1 then 0 else 5:=by
    rw [he,if_neg]
    unfold btw
    simp [a1,a2]
    omega
   repeat' (refine And.intro (by first|assumption|exact ⟨by omega⟩|exact ⟨by rw [hlen];omega⟩|exact ⟨rfl⟩) ?_)
   rw [←hys]
   conv=>cbv
   refine y4Y (fun n d=>∃ (i2:Int) (k2:Nat),d=⟨[(1,.ptr 1 1 0),(11,.ptr 11 g11 0),(85,.sl 7 false is),(86,jI (O .len is)),(87,jI i),(119,.sl 7 false ys),(120,jI (O .len ys)),(121,jI i2)],[(1,⟨1,.rw,.var,(sB s ty po pl cl cm co is no)⟩),(11,⟨g11,.rw,.var,[mkS yid,mkS ytk,mkS yot,mkS yoz,mkS yok,jI yst,jI yrd]⟩)],false⟩/\i2=k2/\k2<=k/\n=k-k2/\∀ (j:Nat) z,j<k2->l2[j]?=some z->P z=false) ⟨_,_,⟨_,0,rfl,rfl,by omega,rfl,by simp⟩,⟨⟨rfl,rfl,rfl,rfl,rfl,rfl,rfl,rfl,trivial⟩,⟨rfl,rfl,trivial⟩,rfl⟩⟩ ?_
   rintro J2 up2 n2 d2 ⟨i2,k2,rfl,hi2,hk2,rfl,hno2⟩
   conv=>cbv
   rintro (_|_) h2<;>(conv=>cbv)
   ·replace h2:=f_lss hO h2
    rw [hlys] at h2
    have hqf:q5=false:=by
     rw [hq5,List.any_eq_false]
     intro z hz
     obtain ⟨j,hj⟩:=List.mem_iff_getElem?.1 hz
     simpa using hno2 j z (by have:=(List.getElem?_eq_some_iff.1 hj).1;omega) hj
    rw [hqf,if_neg (by simp)] at he
    repeat' (first|(refine And.intro (by first|assumption|exact ⟨by omega⟩|exact ⟨by rw [hlen];omega⟩|exact ⟨rfl⟩|exact ⟨rfl,rfl⟩) ?_)|(intro (g:Nat);(conv=>cbv)))
    refine ⟨_,hk1,?_⟩
    cases q1<;>(conv=>cbv)
    case false=>exact congrArg (D.int .i64) (hend 5 (by rw [he];rfl) (by decide))
    exact ⟨_,_,up _ _ ⟨_,k+1,rfl,by rw [y0Y hO (by omega) (by omega)];omega,by omega,rfl,hgo (by rw [he];rfl)⟩,⟨⟨rfl,rfl,rfl,rfl,trivial⟩,⟨rfl,trivial⟩,rfl⟩,by omega⟩
   replace h2:=t_lss hO h2
   rw [hlys] at h2
   obtain ⟨z,hz⟩:∃ z,l2[k2]?=some z:=⟨_,List.getElem?_eq_getElem (by omega)⟩
   have hatz:atX ys i2 (instD z):=y7Y hz hyl hi2
   have hgo2:P z=false->∀ (j:Nat) u,j<k2+1->l2[j]?=some u->P u=false:=fun h j u hj hu=>by
    rcases Nat.lt_succ_iff_lt_or_eq.1 hj with h3|rfl
    ·exact hno2 j u h3 hu
    ·rw [hz] at hu;simp only [Option.some.injEq] at hu;rw [←hu,h]
   have hhit2:P z=true->e=6:=fun h=>by
    have:q5=true:=by rw [hq5,List.any_eq_true];exact ⟨z,List.mem_of_getElem? hz,h⟩
    rw [he,this,if_pos rfl]
   have hPz:P z=(decide (z.id=yid)||decide (z.tok=ytk)):=by rw [hP]
   rw [hPz] at hgo2 hhit2
   clear hPz hz hP hno2
   obtain ⟨zid,ztk,⟨zot,zoz,zok⟩,zst,zrd⟩:=z
   simp only [instD,instC] at hatz hgo2 hhit2
   refine ⟨_,hatz,?_⟩
   conv=>cbv
   repeat' (first|(refine And.intro (by first|assumption|exact ⟨by omega⟩|exact ⟨by rw [hlen];omega⟩|exact ⟨rfl⟩|exact ⟨rfl,rfl⟩) ?_)|(intro (g:Nat);(conv=>cbv)))
   rintro (_|_) b1<;>replace b1:=cs hO b1<;>dsimp only [CmpS] at b1<;>(conv=>cbv)
   case true=>exact congrArg (D.int .i64) (hend 6 (hhit2 (by simp [b1])) (by decide))
   rintro (_|_) b2<;>replace b2:=cs hO b2<;>dsimp only [CmpS] at b2<;>(conv=>cbv)
   case true=>exact congrArg (D.int .i64) (hend 6 (hhit2 (by simp [b2])) (by decide))
   exact ⟨_,_,up2 _ _ ⟨_,k2+1,rfl,by rw [y0Y hO (by omega) (by omega)];omega,by omega,rfl,hgo2 (by simp [b1,b2,Ne.symm b1,Ne.symm b2])⟩,⟨⟨rfl,rfl,rfl,rfl,rfl,rfl,rfl,rfl,trivial⟩,⟨rfl,rfl,trivial⟩,rfl⟩,by omega⟩
  replace h1:=t_lss hO h1
  rw [hlen] at h1
  obtain ⟨y,hy⟩:∃ y,l[k]?=some y:=⟨_,List.getElem?_eq_getElem (by omega)⟩
  have hat:atX co i (coolD y):=y7Y hy hxs hi
  obtain ⟨e,he⟩:∃ e,e=G k:=⟨_,rfl⟩
  have hend:∀ v,e=v->v≠0->v=r:=fun v h1 h2=>by
   have:E2=v:=by rw [hE2];exact yfY (by omega) hno (h1.symm.trans he) h2
   rw [hr,this]
   simp [y3Y,h2]
  have hgo:e=0->∀ j,j<k+1->G j=0:=fun h=>yjY hno (he.symm.trans h)
  rw [hG,y14Y hy] at he
  have hFy:=hf y (List.mem_of_getElem? hy)
  clear hG hf
  have hk1:=h122 [y.o] (by simp)
  rw [←hce.ty] at hk1
  have hk4:=h71 y.u
  have hone:yqY s.types [y.o]=isO s.types y.o:=by unfold yqY;simp
  rw [hone] at hk1
  obtain ⟨q1,hq1⟩:∃ w,w=isO s.types y.o:=⟨_,rfl⟩
  obtain ⟨q3,hq3⟩:∃ w,w=timeB y.u:=⟨_,rfl⟩
  unfold y67Y at he
  rw [←hq1,←hq3] at he
  rw [←hq1] at hk1
  rw [←hq3] at hk4
  obtain ⟨q,p,hk2,hp,hq⟩:∃ (q:Bool) (p:CoolV),V.v 125 [offD p.o,offD y.o] (.bool q)/\(0<k->l[k-1]?=some p)/\e=if q1 then (if 0<k then (if q then (if q3 then 0 else 1) else 6) else (if q3 then 0 else 1)) else 5:=by
   by_cases h0:0<k
   ·obtain ⟨p,hp⟩:∃ p,l[k-1]?=some p:=⟨_,List.getElem?_eq_getElem (by omega)⟩
    rw [y34Y h0 hp] at he
    exact ⟨ltO p.o y.o,p,h125 p.o y.o,fun _=>hp,by rw [he];simp [h0]⟩
   ·have:k=0:=by omega
    subst this
    exact ⟨_,y,h125 y.o y.o,fun h=>absurd h (by omega),by rw [he];simp⟩
  have hsub:0<k->O .iop .sub .i64 i 1=((k-1:Nat):Int):=fun h=>by rw [y15Y hO (by omega) (by omega)];omega
  have hat2:0<k->atX co (O .iop .sub .i64 i 1) (coolD p):=fun h=>y7Y (hp h) hxs (hsub h)
  obtain ⟨⟨p1,p2,p3⟩,p4⟩:=p
  simp only [List.map_cons,List.map_nil] at hk1
  simp only at hk2
  clear he hq1 hq3 hone h122 h71 h125 h49 h124 hy hFy hp hsub
  obtain ⟨⟨yot,yoz,yok⟩,yu⟩:=y
  simp only [coolD,coolC] at hat hk1 hk2 hk4
  refine ⟨_,hat,?_⟩
  conv=>cbv
  simp only [offD] at hk1 hk2
  simp only [coolD,coolC] at hat2
  repeat' (first|(refine And.intro (by first|assumption|exact ⟨by omega⟩|exact ⟨by rw [hlen];omega⟩|exact ⟨rfl⟩|exact ⟨rfl,rfl⟩) ?_)|(intro (g:Nat);(conv=>cbv)))
  refine ⟨_,hk1,?_⟩
  cases q1<;>(conv=>cbv)
  case false=>exact congrArg (D.int .i64) (hend 5 (by rw [hq];rfl) (by decide))
  rintro (_|_) h<;>replace h:=ci hO h<;>dsimp only [CmpI] at h<;>(conv=>cbv)
  case false =>
   have hq:e=if q3 then 0 else 1:=by rw [hq,if_pos rfl,if_neg (by omega)]
   refine ⟨_,hk4,?_⟩
   cases q3<;>(conv=>cbv)
   case false=>exact congrArg (D.int .i64) (hend 1 (by rw [hq];rfl) (by decide))
   exact ⟨_,_,up _ _ ⟨_,k+1,rfl,by rw [y0Y hO (by omega) (by omega)];omega,by omega,rfl,hgo (by rw [hq];rfl)⟩,⟨⟨rfl,rfl,rfl,rfl,trivial⟩,⟨rfl,trivial⟩,rfl⟩,by omega⟩
  have hq:e=if q then (if q3 then 0 else 1) else 6:=by rw [hq,if_pos rfl,if_pos (by omega)]
  refine ⟨_,hat2 (by omega),?_⟩
  conv=>cbv
  refine ⟨_,hk2,?_⟩
  cases q<;>(conv=>cbv)
  case false=>exact congrArg (D.int .i64) (hend 6 (by rw [hq];rfl) (by decide))
  refine ⟨_,hk4,?_⟩
  cases q3<;>(conv=>cbv)
  case false=>exact congrArg (D.int .i64) (hend 1 (by rw [hq];rfl) (by decide))
  exact ⟨_,_,up _ _ ⟨_,k+1,rfl,by rw [y0Y hO (by omega) (by omega)];omega,by omega,rfl,hgo (by rw [hq];rfl)⟩,⟨⟨rfl,rfl,rfl,rfl,trivial⟩,⟨rfl,trivial⟩,rfl⟩,by omega⟩
 replace h1:=t_lss hO h1
 rw [hlen] at h1
 obtain ⟨y,hy⟩:∃ y,l[k]?=some y:=⟨_,List.getElem?_eq_getElem (by omega)⟩
 have hat:atX cm i (cmdD y):=y7Y hy hxs hi
 obtain ⟨e,he⟩:∃ e,e=G k:=⟨_,rfl⟩
 have hend:∀ v,e=v->v≠0->v=r:=fun v h1 h2=>by
  have:E1=v:=by rw [hE1];exact yfY (by omega) hno (h1.symm.trans he) h2
  rw [hr,this]
  simp [y3Y,h2]
 have hgo:e=0->∀ j,j<k+1->G j=0:=fun h=>yjY hno (he.symm.trans h)
 rw [hG,y2pY hy] at he
 have hFy:=hf y (List.mem_of_getElem? hy)
 clear hG hf
 have hk1:=h124 y hFy
 have hk2:=h49 y.pool
 have hk3:=h122 y.opts hFy.opts.lt
 rw [←hce.ty] at hk3
 have hpl:(s.pools.find? fun x=>decide (x.name=y.pool)).isSome=y1nY s y.pool:=yaoY
 rw [hpl] at hk2
 obtain ⟨px,hpx⟩:∃ px,px=(s.pools.find? fun x=>decide (x.name=y.pool)).getD y3pY:=⟨_,rfl⟩
 rw [←hpx] at hk2
 obtain ⟨w,hw⟩:∃ w,w=cmdE y:=⟨_,rfl⟩
 obtain ⟨q1,hq1⟩:∃ w,w=y1nY s y.pool:=⟨_,rfl⟩
 obtain ⟨q2,hq2⟩:∃ w,w=yqY s.types y.opts:=⟨_,rfl⟩
 unfold vcmdE at he
 rw [←hw,←hq1,←hq2] at he
 rw [←hw] at hk1
 rw [←hq1] at hk2
 rw [←hq2] at hk3
 have g1:w≠0->e=w:=fun h=>by rw [he,if_neg h]
 have g2:w=0->e=wantI ((decide (y.pool=[])||q1)&&q2) 5:=fun h=>by rw [he,if_pos h]
 clear he hw h124 h49 h122 hq1 hq2 hy hFy hpl hpx h71 h125
 obtain ⟨znm,zwe,zl0,zl1,zrs,zts,zge,zex,zbu,zme⟩:=px
 simp only [poolD,poolC] at hk2
 obtain ⟨xzrs,hxzrs⟩:∃ xs,xs=zrs.map reqD:=⟨_,rfl⟩
 have cxzrs:CleanL xzrs:=by rw [hxzrs];exact y1bY _
 simp only [←hxzrs] at hk2
 obtain ⟨xzts,hxzts⟩:∃ xs,xs=zts.map labD:=⟨_,rfl⟩
 have cxzts:CleanL xzts:=by rw [hxzts];exact yeY _
 simp only [←hxzts] at hk2
 obtain ⟨yca,yns,yst,yti,yfr,ypo,yos,yma⟩:=y
 simp only [cmdD,cmdC] at hat hk1 hk2 hk3 g2
 obtain ⟨xyns,hxyns⟩:∃ xs,xs=yns.map mkS:=⟨_,rfl⟩
 have cxyns:CleanL xyns:=by rw [hxyns];exact y69Y _
 simp only [←hxyns] at hat hk1 hk2 hk3 g2
 obtain ⟨xyos,hxyos⟩:∃ xs,xs=yos.map offD:=⟨_,rfl⟩
 have cxyos:CleanL xyos:=by rw [hxyos];exact y11Y _
 simp only [←hxyos] at hat hk1 hk2 hk3 g2
 refine ⟨_,hat,?_⟩
 conv=>cbv
 repeat' (first|(refine And.intro (by first|assumption|exact ⟨by omega⟩|exact ⟨by rw [hlen];omega⟩|exact ⟨rfl⟩|exact ⟨rfl,rfl⟩) ?_)|(intro (g:Nat);(conv=>cbv)))
 refine ⟨_,hk1,?_⟩
 conv=>cbv
 rintro (_|_) h<;>replace h:=ci hO h<;>dsimp only [CmpI] at h<;>(conv=>cbv)
 case true=>exact congrArg (D.int .i64) (hend w (g1 h) (h))
 replace g2:=g2 h
 repeat' (first|(refine And.intro (by first|assumption|exact ⟨by omega⟩|exact ⟨by rw [hlen];omega⟩|exact ⟨rfl⟩|exact ⟨rfl,rfl⟩) ?_)|(intro (g:Nat);(conv=>cbv)))
 refine ⟨_,hk2,?_⟩
 conv=>cbv
 repeat' (first|(refine And.intro (by first|assumption|exact ⟨by omega⟩|exact ⟨by rw [hlen];omega⟩|exact ⟨rfl⟩|exact ⟨rfl,rfl⟩) ?_)|(intro (g:Nat);(conv=>cbv)))
 rintro (_|_) h<;>replace h:=cs hO h<;>dsimp only [CmpS] at h<;>cases q1<;>cases q2<;>(conv=>cbv)
 all_goals (repeat' (first|(refine And.intro (by first|assumption|exact ⟨by omega⟩|exact ⟨by rw [hlen];omega⟩|exact ⟨rfl⟩|exact ⟨rfl,rfl⟩) ?_)|(refine ⟨_,hk3,?_⟩;(conv=>cbv))))
 all_goals first
  | exact congrArg (D.int .i64) (hend 5 (by first|(rw [g2,decide_eq_true h];rfl)|(rw [g2,decide_eq_false h];rfl)) (by decide))
  | exact ⟨_,_,up _ _ ⟨_,k+1,rfl,by rw [y0Y hO (by omega) (by omega)];omega,by omega,rfl,hgo (by first|(rw [g2,decide_eq_true h];rfl)|(rw [g2,decide_eq_false h];rfl))⟩,⟨⟨rfl,rfl,rfl,rfl,trivial⟩,⟨rfl,trivial⟩,rfl⟩,by omega⟩
end Go.Proofs.AM
