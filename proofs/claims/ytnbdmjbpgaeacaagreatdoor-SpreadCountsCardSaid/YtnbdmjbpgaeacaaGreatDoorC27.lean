/- Part 27 of the lemmas: AKl, AKh, AKm. -/
import Derived.Test.YtnbdmjbpgaeacaaGreatDoorC26
import Derived.Test.YtnbdmjbpgaeacaaGreatDoorC25
import Derived.Test.YtnbdmjbpgaeacaaGreatDoorC06
set_option maxRecDepth 100000
set_option maxHeartbeats 8000000
set_option linter.all false
namespace Go.Proofs.AM
open Go Go.Lib Cd
theorem yp1Y {l:List Int} (h:∀ j y,j<l.length->l[j]?=some y->y=0):y3Y l=0 :=
 y5aY fun x hx=>by
  obtain ⟨j,hj⟩:=List.mem_iff_getElem?.1 hx
  exact h j x (List.getElem?_eq_some_iff.1 hj).1 hj
theorem y4iY {l:List Int}:y3Y (0::l)=y3Y l:=by
 show (if (0:Int)=0 then y3Y l else 0)=y3Y l
 rw [if_pos rfl]
theorem yp2Y (R:Ans) (s:SnapV) (hF:FSnap s) (h96:∀ n,R.v 96 [jI n] (.bool (timeB n))) (h97:∀ n,R.v 97 [jI n] (.bool (spanB n))) (h98:R.v 98 [.sl 7 false (s.types.map typeD)] (jI (catE s.types))) (h99:R.v 99 [snapD s] (jI (y2eY s))) (h100:R.v 100 [snapD s] (jI (y1oY s))) (h101:R.v 101 [snapD s] (jI (podsE s))) (h102:R.v 102 [snapD s] (jI (cmdsE s))) (h103:R.v 103 [snapD s] (jI (y23Y s))) (h104:R.v 104 [snapD s] (jI (y24Y s))):AnsF R c45 [snapD s] (jI (snapE s)):=by
 have k1:=h96 s.now
 have k2:=h97 s.idle
 have k3:=h97 s.most
 have k4:=h97 s.hold
 have k5:=h97 s.late
 have k6:=h97 s.cool
 obtain ⟨r,hr⟩:∃ r,r=snapE s:=⟨_,rfl⟩
 rw [←hr]
 unfold snapE numsB y4eY at hr
 obtain ⟨b1,hb1⟩:∃ b,b=timeB s.now:=⟨_,rfl⟩
 rw [←hb1] at hr k1
 obtain ⟨b2,hb2⟩:∃ b,b=spanB s.idle:=⟨_,rfl⟩
 rw [←hb2] at hr k2
 obtain ⟨b3,hb3⟩:∃ b,b=spanB s.most:=⟨_,rfl⟩
 rw [←hb3] at hr k3
 obtain ⟨b4,hb4⟩:∃ b,b=spanB s.hold:=⟨_,rfl⟩
 rw [←hb4] at hr k4
 obtain ⟨b5,hb5⟩:∃ b,b=spanB s.late:=⟨_,rfl⟩
 rw [←hb5] at hr k5
 obtain ⟨b6,hb6⟩:∃ b,b=spanB s.cool:=⟨_,rfl⟩
 rw [←hb6] at hr k6
 obtain ⟨w,hw⟩:∃ b,b=catE s.types:=⟨_,rfl⟩
 rw [←hw] at hr h98
 obtain ⟨e99,he99⟩:∃ b,b=y2eY s:=⟨_,rfl⟩
 rw [←he99] at hr h99
 obtain ⟨e100,he100⟩:∃ b,b=y1oY s:=⟨_,rfl⟩
 rw [←he100] at hr h100
 obtain ⟨e101,he101⟩:∃ b,b=podsE s:=⟨_,rfl⟩
 rw [←he101] at hr h101
 obtain ⟨e102,he102⟩:∃ b,b=cmdsE s:=⟨_,rfl⟩
 rw [←he102] at hr h102
 obtain ⟨e103,he103⟩:∃ b,b=y23Y s:=⟨_,rfl⟩
 rw [←he103] at hr h103
 obtain ⟨e104,he104⟩:∃ b,b=y24Y s:=⟨_,rfl⟩
 rw [←he104] at hr h104
 clear hb1 hb2 hb3 hb4 hb5 hb6 hw he99 he100 he101 he102 he103 he104 h96 h97
 obtain ⟨ty,po,pl,cl,cm,co,is,no,hce,hsn,cty,cpo,cpl,ccl,ccm,cco,cis,cno⟩:=yxY s
 rw [hsn] at h99 h100 h101 h102 h103 h104 ⊢
 rw [←hce.ty] at h98
 refine y2Y ⟨rfl,by decide⟩ fun O hO V hV=>?_
 subst hV
 have lpo:O .len po=s.pods.length:=by rw [o_len hO,hce.po];simp
 have lpl:O .len pl=s.pools.length:=by rw [o_len hO,hce.pl];simp
 have lcl:O .len cl=s.claims.length:=by rw [o_len hO,hce.cl];simp
 have lcm:O .len cm=s.cmds.length:=by rw [o_len hO,hce.cm];simp
 have lco:O .len co=s.cools.length:=by rw [o_len hO,hce.co];simp
 have lis:O .len is=s.insts.length:=by rw [o_len hO,hce.is];simp
 have lno:O .len no=s.notes.length:=by rw [o_len hO,hce.no];simp
 conv=>cbv
 refine ⟨_,k1,?_⟩
 cases b1<;>(conv=>cbv)
 case false=>exact congrArg (D.int .i64) (by rw [hr];rfl)
 refine ⟨_,k2,?_⟩
 cases b2<;>(conv=>cbv)
 case false=>exact congrArg (D.int .i64) (by rw [hr];rfl)
 refine ⟨_,k3,?_⟩
 cases b3<;>(conv=>cbv)
 case false=>exact congrArg (D.int .i64) (by rw [hr];rfl)
 refine ⟨_,k4,?_⟩
 cases b4<;>(conv=>cbv)
 case false=>exact congrArg (D.int .i64) (by rw [hr];rfl)
 refine ⟨_,k5,?_⟩
 cases b5<;>(conv=>cbv)
 case false=>exact congrArg (D.int .i64) (by rw [hr];rfl)
 refine ⟨_,k6,?_⟩
 cases b6<;>(conv=>cbv)
 case false=>exact congrArg (D.int .i64) (by rw [hr];rfl)
 refine ⟨cty,?_⟩
 refine ⟨_,h98,?_⟩
 conv=>cbv
 rintro (_|_) h<;>replace h:=ci hO h<;>dsimp only [CmpI] at h<;>(conv=>cbv)
 case true=>exact congrArg (D.int .i64) (by rw [hr];simp [y3Y,h])
 subst h
 rintro (_|_) a0<;>(conv=>cbv)
 case true =>
  replace a0:=t_gtr hO a0
  rw [lpo] at a0
  exact congrArg (D.int .i64) (by rw [hr];have:¬s.pods.length<=24:=by omega
                                  simp [y3Y,this])
 replace a0:=f_gtr hO a0
 rw [lpo] at a0
 rintro (_|_) a1<;>(conv=>cbv)
 case true =>
  replace a1:=t_gtr hO a1
  rw [lpl] at a1
  exact congrArg (D.int .i64) (by rw [hr];have:¬s.pools.length<=4:=by omega
                                  simp [y3Y,this])
 replace a1:=f_gtr hO a1
 rw [lpl] at a1
 rintro (_|_) a2<;>(conv=>cbv)
 case true =>
  replace a2:=t_gtr hO a2
  rw [lcl] at a2
  exact congrArg (D.int .i64) (by rw [hr];have:¬s.claims.length<=16:=by omega
                                  simp [y3Y,this])
 replace a2:=f_gtr hO a2
 rw [lcl] at a2
 rintro (_|_) a3<;>(conv=>cbv)
 case true =>
  replace a3:=t_gtr hO a3
  rw [lcm] at a3
  exact congrArg (D.int .i64) (by rw [hr];have:¬s.cmds.length<=1:=by omega
                                  simp [y3Y,this])
 replace a3:=f_gtr hO a3
 rw [lcm] at a3
 rintro (_|_) a4<;>(conv=>cbv)
 case true =>
  replace a4:=t_gtr hO a4
  rw [lco] at a4
  exact congrArg (D.int .i64) (by rw [hr];have:¬s.cools.length<=72:=by omega
                                  simp [y3Y,this])
 replace a4:=f_gtr hO a4
 rw [lco] at a4
 rintro (_|_) a5<;>(conv=>cbv)
 case true =>
  replace a5:=t_gtr hO a5
  rw [lis] at a5
  exact congrArg (D.int .i64) (by rw [hr];have:¬s.insts.length<=64:=by omega
                                  simp [y3Y,this])
 replace a5:=f_gtr hO a5
 rw [lis] at a5
 rintro (_|_) a6<;>(conv=>cbv)
 case true =>
  replace a6:=t_gtr hO a6
  rw [lno] at a6
  exact congrArg (D.int .i64) (by rw [hr];have:¬s.notes.length<=32:=by omega
                                  simp [y3Y,this])
 replace a6:=f_gtr hO a6
 rw [lno] at a6
 obtain ⟨es,hes⟩:∃ es,es=[e99,e100,e101,e102,e103,e104]:=⟨_,rfl⟩
 have hr:r=y3Y es:=by
  rw [hr,hes]
  have:(decide (s.pods.length<=24)&&decide (s.pools.length<=4)&&decide (s.claims.length<=16)&&decide (s.cmds.length<=1)&&decide (s.cools.length<=72)&&decide (s.insts.length<=64)&&decide (s.notes.length<=32))=true:=by simp;omega
  rw [this]
  simp only [Bool.and_self,y1dY,y4iY]
 obtain ⟨fs,hfs⟩:∃ fs:List D,fs=[.fn 99 [] [],.fn 100 [] [],.fn 101 [] [],.fn 102 [] [],.fn 103 [] [],.fn 104 [] []]:=⟨_,rfl⟩
 have hlf:O .len fs=6:=by rw [o_len hO,hfs];rfl
 have hall:∀ k,k<6->∃ f e,fs[k]?=some (.fn f [] [])/\es[k]?=some e/\V.v f [.agg (sB s ty po pl cl cm co is no)] (jI e):=by
  intro k hk
  rw [hfs,hes]
  match k,hk with
  | 0,_=>exact ⟨99,e99,rfl,rfl,h99⟩
  | 1,_=>exact ⟨100,e100,rfl,rfl,h100⟩
  | 2,_=>exact ⟨101,e101,rfl,rfl,h101⟩
  | 3,_=>exact ⟨102,e102,rfl,rfl,h102⟩
  | 4,_=>exact ⟨103,e103,rfl,rfl,h103⟩
  | 5,_=>exact ⟨104,e104,rfl,rfl,h104⟩
 have hel:es.length=6:=by rw [hes];rfl
 rw [←hfs]
 clear hes h99 h100 h101 h102 h103 h104 h98
 refine y4Y (fun n d=>∃ (i:Int) (k:Nat),d=⟨[(1,.ptr 1 1 0),(90,.own 90 1),(91,jI (O .len fs)),(92,jI i)],[(1,⟨1,.rw,.var,(sB s ty po pl cl cm co is no)⟩),(90,⟨1,.rw,.arr 1 63,fs⟩)],false⟩/\i=k/\k<=6/\n=6-k/\∀ j y,j<k->es[j]?=some y->y=0) ⟨_,_,⟨_,0,rfl,rfl,by omega,rfl,by simp⟩,⟨⟨rfl,rfl,rfl,rfl,trivial⟩,⟨rfl,rfl,trivial⟩,rfl⟩⟩ ?_
 rintro J up n d ⟨i,k,rfl,hi,hk,rfl,hno⟩
 conv=>cbv
 rintro (_|_) h1<;>(conv=>cbv)
 ·replace h1:=f_lss hO h1
  rw [hlf] at h1
  rw [hr,yp1Y (fun j y hj hy=>hno j y (by omega) hy)]
 replace h1:=t_lss hO h1
 rw [hlf] at h1
 obtain ⟨f,e,g1,g2,g3⟩:=hall k (by omega)
 have hgt:fs[O .nat i]?=some (.fn f [] []):=by rw [o_nat hO,hi];simpa using g1
 refine ⟨⟨by omega⟩,⟨by show i<O .len fs;rw [hlf];omega⟩,_,hgt,?_⟩
 conv=>cbv
 repeat' (refine And.intro (by first|assumption|exact ⟨by omega⟩|exact ⟨rfl⟩|exact ⟨rfl,rfl⟩) ?_)
 refine ⟨_,g3,?_⟩
 conv=>cbv
 rintro (_|_) h<;>replace h:=ci hO h<;>dsimp only [CmpI] at h<;>(conv=>cbv)
 case true=>exact congrArg (D.int .i64) (by rw [hr,y7jY g2 h hno])
 exact ⟨_,_,up _ _ ⟨_,k+1,rfl,by rw [y0Y hO (by omega) (by omega)];omega,by omega,rfl,fun j y hj hy=>by
  rcases Nat.lt_succ_iff_lt_or_eq.1 hj with h3|rfl
  ·exact hno j y h3 hy
  ·rw [g2] at hy;simp only [Option.some.injEq] at hy;rw [←hy,h]⟩,⟨⟨rfl,rfl,rfl,rfl,trivial⟩,⟨rfl,rfl,trivial⟩,rfl⟩,by omega⟩
def y3pY:PoolV:=⟨[],0,0,0,[],[],0,0,0,0⟩
theorem yp3Y (R:Ans) (s:SnapV) (hF:FSnap s) (n:Str):AnsF R c49 [snapD s,mkS n] (.tup [poolD ((s.pools.find? fun x=>decide (x.name=n)).getD y3pY),.bool (s.pools.find? fun x=>decide (x.name=n)).isSome]):=by
 have hl:=hF.pools.lt
 obtain ⟨rd,hrd⟩:∃ r,r=D.tup [poolD ((s.pools.find? fun x=>decide (x.name=n)).getD y3pY),.bool (s.pools.find? fun x=>decide (x.name=n)).isSome]:=⟨_,rfl⟩
 rw [←hrd]
 have hnone:(s.pools.find? fun x=>decide (x.name=n))=none->rd=D.tup [poolD y3pY,.bool false]:=fun h=>by rw [hrd,h];rfl
 have hsome:∀ y,(s.pools.find? fun x=>decide (x.name=n))=some y->rd=D.tup [poolD y,.bool true]:=fun y h=>by rw [hrd,h];rfl
 clear hrd
 obtain ⟨ty,po,pl,cl,cm,co,is,no,hce,hsn,cty,cpo,cpl,ccl,ccm,cco,cis,cno⟩:=yxY s
 rw [hsn]
 have hxs:=hce.pl
 obtain ⟨l,hl0⟩:∃ l,l=s.pools:=⟨_,rfl⟩
 rw [←hl0] at hl hnone hsome hxs
 refine y2Y ⟨rfl,by decide⟩ fun O hO V hV=>?_
 subst hV
 have hlen:O .len pl=l.length:=by rw [o_len hO,hxs];simp
 conv=>cbv
 refine y4Y (fun n' d=>∃ (i:Int) (k:Nat),d=⟨[(1,mkS n),(4,.ptr 4 1 0),(9,.sl 10 false pl),(10,jI (O .len pl)),(11,jI i)],[(4,⟨1,.rw,.var,[mkS [],jI 0,jI 0,jI 0,.sl 4 true [],.sl 2 true [],jI 0,jI 0,jI 0,jI 0]⟩)],false⟩/\i=k/\k<=l.length/\n'=l.length-k/\∀ (j:Nat) z,j<k->l[j]?=some z->decide (z.name=n)=false) ⟨_,_,⟨_,0,rfl,rfl,by omega,rfl,by simp⟩,⟨⟨rfl,rfl,rfl,rfl,rfl,trivial⟩,⟨rfl,trivial⟩,rfl⟩⟩ ?_
 rintro J up n' d ⟨i,k,rfl,hi,hk,rfl,hno⟩
 conv=>cbv
 rintro (_|_) h1
 ·replace h1:=f_lss hO h1
  rw [hlen] at h1
  have hfin:=hnone (yacY fun j z hj hz=>hno j z (by omega) hz)
  conv at hfin=>rhs;cbv
  clear up hnone hsome
  conv=>cbv
  exact ⟨⟨rfl,rfl⟩,⟨rfl,rfl⟩,hfin.symm⟩
 ·replace h1:=t_lss hO h1
  rw [hlen] at h1
  obtain ⟨y,hy⟩:∃ y,l[k]?=some y:=⟨_,List.getElem?_eq_getElem (by omega)⟩
  have hat:atX pl i (poolD y):=y7Y hy hxs hi
  have hst:decide (y.name=n)=false->∀ (j:Nat) z,j<k+1->l[j]?=some z->decide (z.name=n)=false:=fun h=>y1mY hno hy h
  have hht:decide (y.name=n)=true->rd=D.tup [poolD y,.bool true]:=fun h=>hsome y (yabY hy h hno)
  clear hnone hsome hy hno
  obtain ⟨ynm,ywe,yl0,yl1,yrs,yts,yge,yex,ybu,yme⟩:=y
  simp only [poolD,poolC] at hat hst hht
  obtain ⟨xyrs,hxyrs⟩:∃ xs,xs=yrs.map reqD:=⟨_,rfl⟩
  have cxyrs:CleanL xyrs:=by rw [hxyrs];exact y1bY _
  simp only [←hxyrs] at hat hst hht
  obtain ⟨xyts,hxyts⟩:∃ xs,xs=yts.map labD:=⟨_,rfl⟩
  have cxyts:CleanL xyts:=by rw [hxyts];exact yeY _
  simp only [←hxyts] at hat hst hht
  conv=>cbv
  refine ⟨_,hat,?_⟩
  conv=>cbv
  intro g7
  conv=>cbv
  rintro (_|_) h<;>replace h:=cs hO h<;>dsimp only [CmpS] at h
  ·conv=>cbv
   exact ⟨_,_,up _ _ ⟨_,k+1,rfl,by rw [y0Y hO (by omega) (by omega)];omega,by omega,rfl,hst (by simpa using h)⟩,⟨⟨rfl,rfl,rfl,rfl,rfl,trivial⟩,⟨rfl,trivial⟩,rfl⟩,by omega⟩
  ·have hfin:=hht (by simpa using h)
   conv at hfin=>rhs;cbv
   clear up
   conv=>cbv
   exact ⟨cxyrs,cxyts,hfin.symm⟩
theorem yp4Y (R:Ans) (s:SnapV) (hF:FSnap s) (n:Str):AnsF R c76 [snapD s,mkS n] (.tup [y5Y ((s.claims.find? fun x=>decide (x.name=n)).getD zeroC),.bool (s.claims.find? fun x=>decide (x.name=n)).isSome]):=by
 have hl:=hF.claims.lt
 obtain ⟨rd,hrd⟩:∃ r,r=D.tup [y5Y ((s.claims.find? fun x=>decide (x.name=n)).getD zeroC),.bool (s.claims.find? fun x=>decide (x.name=n)).isSome]:=⟨_,rfl⟩
 rw [←hrd]
 have hnone:(s.claims.find? fun x=>decide (x.name=n))=none->rd=D.tup [y5Y zeroC,.bool false]:=fun h=>by rw [hrd,h];rfl
 have hsome:∀ y,(s.claims.find? fun x=>decide (x.name=n))=some y->rd=D.tup [y5Y y,.bool true]:=fun y h=>by rw [hrd,h];rfl
 clear hrd
 obtain ⟨ty,po,pl,cl,cm,co,is,no,hce,hsn,cty,cpo,cpl,ccl,ccm,cco,cis,cno⟩:=yxY s
 rw [hsn]
 have hxs:=hce.cl
 obtain ⟨l,hl0⟩:∃ l,l=s.claims:=⟨_,rfl⟩
 rw [←hl0] at hl hnone hsome hxs
 refine y2Y ⟨rfl,by decide⟩ fun O hO V hV=>?_
 subst hV
 have hlen:O .len cl=l.length:=by rw [o_len hO,hxs];simp
 conv=>cbv
 refine y4Y (fun n' d=>∃ (i:Int) (k:Nat),d=⟨[(1,mkS n),(4,.ptr 4 1 0),(9,.sl 15 false cl),(10,jI (O .len cl)),(11,jI i)],[(4,⟨1,.rw,.var,[mkS [],mkS [],jI 0,mkS [],mkS [],mkS [],jI 0,jI 0,jI 0,.sl 3 true [],jI 0,mkS [],jI 0,jI 0,.bool false]⟩)],false⟩/\i=k/\k<=l.length/\n'=l.length-k/\∀ (j:Nat) z,j<k->l[j]?=some z->decide (z.name=n)=false) ⟨_,_,⟨_,0,rfl,rfl,by omega,rfl,by simp⟩,⟨⟨rfl,rfl,rfl,rfl,rfl,trivial⟩,⟨rfl,trivial⟩,rfl⟩⟩ ?_
 rintro J up n' d ⟨i,k,rfl,hi,hk,rfl,hno⟩
 conv=>cbv
 rintro (_|_) h1
 ·replace h1:=f_lss hO h1
  rw [hlen] at h1
  have hfin:=hnone (yacY fun j z hj hz=>hno j z (by omega) hz)
  conv at hfin=>rhs;cbv
  clear up hnone hsome
  conv=>cbv
  exact ⟨⟨rfl,rfl⟩,hfin.symm⟩
 ·replace h1:=t_lss hO h1
  rw [hlen] at h1
  obtain ⟨y,hy⟩:∃ y,l[k]?=some y:=⟨_,List.getElem?_eq_getElem (by omega)⟩
  have hat:atX cl i (y5Y y):=y7Y hy hxs hi
  have hst:decide (y.name=n)=false->∀ (j:Nat) z,j<k+1->l[j]?=some z->decide (z.name=n)=false:=fun h=>y1mY hno hy h
  have hht:decide (y.name=n)=true->rd=D.tup [y5Y y,.bool true]:=fun h=>hsome y (yabY hy h hno)
  clear hnone hsome hy hno
  obtain ⟨ynm,ypo,yge,⟨yot,yoz,yok⟩,ypr,yc0,yc1,yos,ytr,yid,yph,ybo,yma⟩:=y
  simp only [y5Y,y12Y] at hat hst hht
  obtain ⟨xyos,hxyos⟩:∃ xs,xs=yos.map offD:=⟨_,rfl⟩
  have cxyos:CleanL xyos:=by rw [hxyos];exact y11Y _
  simp only [←hxyos] at hat hst hht
  conv=>cbv
  refine ⟨_,hat,?_⟩
  conv=>cbv
  intro g7
  conv=>cbv
  rintro (_|_) h<;>replace h:=cs hO h<;>dsimp only [CmpS] at h
  ·conv=>cbv
   exact ⟨_,_,up _ _ ⟨_,k+1,rfl,by rw [y0Y hO (by omega) (by omega)];omega,by omega,rfl,hst (by simpa using h)⟩,⟨⟨rfl,rfl,rfl,rfl,rfl,trivial⟩,⟨rfl,trivial⟩,rfl⟩,by omega⟩
  ·have hfin:=hht (by simpa using h)
   conv at hfin=>rhs;cbv
   clear up
   conv=>cbv
   exact ⟨cxyos,hfin.symm⟩
theorem yp5Y (R:Ans) (x y:OffV):AnsF R c125 [offD x,offD y] (.bool (ltO x y)):=by
 obtain ⟨a,b,c⟩:=x
 obtain ⟨a',b',c'⟩:=y
 obtain ⟨r,hr⟩:∃ r,r=ltO ⟨a,b,c⟩ ⟨a',b',c'⟩:=⟨_,rfl⟩
 rw [←hr]
 unfold ltO at hr
 simp only at hr
 refine y2Y ⟨rfl,by decide⟩ fun O hO V hV=>?_
 subst hV
 conv=>cbv
 repeat' (rintro (_|_) h<;>replace h:=cs hO h<;>dsimp only [CmpS] at h<;>(conv=>cbv))
 all_goals (rw [hr];simp_all)
theorem yaoY {α:Type} {p:α->Bool} {l:List α}:(l.find? p).isSome=l.any p:=by
 rw [Bool.eq_iff_iff]
 simp [List.find?_isSome]
theorem yp6Y (R:Ans) (s:SnapV) (hF:FSnap s) (h121:∀ y,FClaim y->R.v 121 [y5Y y] (jI (y19Y y))) (h123:∀ o,R.v 123 [.sl 7 false (s.types.map typeD),offD o] (.tup [amD (hasO s.types o).1 (hasO s.types o).2,.bool (isO s.types o)])) (h49:∀ n,R.v 49 [snapD s,mkS n] (.tup [poolD ((s.pools.find? fun x=>decide (x.name=n)).getD y3pY),.bool (s.pools.find? fun x=>decide (x.name=n)).isSome])) (h122:∀ os:List OffV,os.length<4611686018427387904->R.v 122 [.sl 7 false (s.types.map typeD),.sl 3 false (os.map offD)] (.bool (yqY s.types os))):AnsF R c75 [snapD s] (jI (y1oY s)):=by
 have hl:=hF.claims.lt
 have hf:=hF.claims.all
 obtain ⟨r,hr⟩:∃ r,r=y1oY s:=⟨_,rfl⟩
 rw [←hr]
 unfold y1oY at hr
 obtain ⟨ty,po,pl,cl,cm,co,is,no,hce,hsn,cty,cpo,cpl,ccl,ccm,cco,cis,cno⟩:=yxY s
 rw [hsn] at h49 ⊢
 have hxs:=hce.cl
 obtain ⟨l,hl0⟩:∃ l,l=s.claims:=⟨_,rfl⟩
 rw [←hl0] at hl hr hxs hf
 obtain ⟨G,hG⟩:∃ G,G=upE (y36Y s) l:=⟨_,rfl⟩
 rw [←hG] at hr
 refine y2Y ⟨rfl,by decide⟩ fun O hO V hV=>?_
 subst hV
 have hlen:O .len cl=l.length:=by rw [o_len hO,hxs];simp
 conv=>cbv
 refine y4Y (fun n d=>∃ (i:Int) (k:Nat) ,d=⟨[(1,.ptr 1 1 0),(11,.sl 15 false cl),(12,jI (O .len cl)),(13,jI i)],[(1,⟨1,.rw,.var,(sB s ty po pl cl cm co is no)⟩)],false⟩/\i=k/\k<=l.length/\n=l.length-k/\(∀ j,j<k->G j=0)) ⟨_,_,⟨_,0,rfl,rfl,by omega,rfl,by simp⟩,⟨⟨rfl,rfl,rfl,rfl,trivial⟩,⟨rfl,trivial⟩,rfl⟩⟩ ?_
 rintro J up n d ⟨i,k,rfl,hi,hk,rfl,hno⟩
 conv=>cbv
 rintro (_|_) h1<;>(conv=>cbv)
 ·replace h1:=f_lss hO h1
  rw [hlen] at h1
  rw [hr,ywY (fun j hj=>hno j (by omega))]
 replace h1:=t_lss hO h1
 rw [hlen] at h1
 obtain ⟨y,hy⟩:∃ y,l[k]?=some y:=⟨_,List.getElem?_eq_getElem (by omega)⟩
 have hat:atX cl i (y5Y y):=y7Y hy hxs hi
 obtain ⟨e,he⟩:∃ e,e=G k:=⟨_,rfl⟩
 have hend:∀ v,e=v->v≠0->v=r:=fun v h1 h2=>by rw [hr];exact (yfY (by omega) hno (h1.symm.trans he) h2).symm
 have hgo:e=0->∀ j,j<k+1->G j=0:=fun h=>yjY hno (he.symm.trans h)
 rw [hG,y14Y hy] at he
 have hFy:=hf y (List.mem_of_getElem? hy)
 clear hG hf
 have hk1:=h121 y hFy
 have hk2:=h123 y.off
 have hk3:=h49 y.pool
 have hk4:=h122 [y.off] (by simp)
 have hk5:=h122 y.opts hFy.opts.lt
 rw [←hce.ty] at hk2 hk4 hk5
 have hone:yqY s.types [y.off]=isO s.types y.off:=by unfold yqY;simp
 rw [hone] at hk4
 have hpl:(s.pools.find? fun x=>decide (x.name=y.pool)).isSome=y1nY s y.pool:=yaoY
 rw [hpl] at hk3
 obtain ⟨px,hpx⟩:∃ px,px=(s.pools.find? fun x=>decide (x.name=y.pool)).getD y3pY:=⟨_,rfl⟩
 rw [←hpx] at hk3
 obtain ⟨w,hw⟩:∃ w,w=y19Y y:=⟨_,rfl⟩
 obtain ⟨q1,hq1⟩:∃ w,w=y1nY s y.pool:=⟨_,rfl⟩
 obtain ⟨q2,hq2⟩:∃ w,w=isO s.types y.off:=⟨_,rfl⟩
 obtain ⟨q3,hq3⟩:∃ w,w=yqY s.types y.opts:=⟨_,rfl⟩
 obtain ⟨⟨m0,m1⟩,hm⟩:∃ m,m=hasO s.types y.off:=⟨_,rfl⟩
 unfold y36Y rizE at he
 rw [←hw,←hq1,←hq2,←hq3,←hm] at he
 rw [←hw] at hk1
 rw [←hm,←hq2] at hk2
 rw [←hq1] at hk3
 rw [←hq2] at hk4
 rw [←hq3] at hk5
 simp only [List.map_cons,List.map_nil] at hk4
 unfold amD at hk2
 have g1:w≠0->e=w:=fun h=>by rw [he,if_neg h]
 obtain ⟨p,hp,g2⟩:∃ p:ClaimV,(0<k->l[k-1]?=some p)/\(w=0->e=y3Y [if 0<k then (if p.name<y.name then 0 else 6) else 0,wantI (q1&&(q2&&q3)) 5,wantI (decide (y.c0=m0)&&decide (y.c1=m1)) 1]):=by
  by_cases h0:0<k
  ·obtain ⟨p,hp⟩:∃ p,l[k-1]?=some p:=⟨_,List.getElem?_eq_getElem (by omega)⟩
   rw [y34Y h0 hp] at he
   exact ⟨p,fun _=>hp,fun h=>by rw [he,if_pos h];simp [h0]⟩
  ·have:k=0:=by omega
   subst this
   exact ⟨y,fun h=>absurd h (by omega),fun h=>by rw [he,if_pos h];simp⟩
 have hsub:0<k->O .iop .sub .i64 i 1=((k-1:Nat):Int):=fun h=>by rw [y15Y hO (by omega) (by omega)];omega
 have hat2:0<k->atX cl (O .iop .sub .i64 i 1) (y5Y p):=fun h=>y7Y (hp h) hxs (hsub h)
 clear he hw h121 h122 h123 h49 hq1 hq2 hq3 hm hone hy hFy hp hsub hpl hpx
 obtain ⟨znm,zwe,zl0,zl1,zrs,zts,zge,zex,zbu,zme⟩:=px
 simp only [poolD,poolC] at hk3
 obtain ⟨xzrs,hxzrs⟩:∃ xs,xs=zrs.map reqD:=⟨_,rfl⟩
 have cxzrs:CleanL xzrs:=by rw [hxzrs];exact y1bY _
 simp only [←hxzrs] at hk3
 obtain ⟨xzts,hxzts⟩:∃ xs,xs=zts.map labD:=⟨_,rfl⟩
 have cxzts:CleanL xzts:=by rw [hxzts];exact yeY _
 simp only [←hxzts] at hk3
 obtain ⟨pnm,ppo,pge,⟨pot,poz,pok⟩,ppr,pc0,pc1,pos,ptr,pid,pph,pbo,pma⟩:=p
 simp only [y5Y,y12Y] at hat2 g2
 obtain ⟨xpos,hxpos⟩:∃ xs,xs=pos.map offD:=⟨_,rfl⟩
 have cxpos:CleanL xpos:=by rw [hxpos];exact y11Y _
 simp only [←hxpos] at hat2 g2
 obtain ⟨ynm,ypo,yge,⟨yot,yoz,yok⟩,ypr,yc0,yc1,yos,ytr,yid,yph,ybo,yma⟩:=y
 simp only [y5Y,y12Y] at hat hk1 hk2 hk3 hk4 hk5 g2
 obtain ⟨xyos,hxyos⟩:∃ xs,xs=yos.map offD:=⟨_,rfl⟩
 have cxyos:CleanL xyos:=by rw [hxyos];exact y11Y _
 simp only [←hxyos] at hat hk1 hk2 hk3 hk4 hk5 g2
 refine ⟨_,hat,?_⟩
 conv=>cbv
 simp only [offD] at hk2 hk4
 repeat' (first|(refine And.intro (by first|assumption|exact ⟨by omega⟩|exact ⟨by rw [hlen];omega⟩|exact ⟨rfl⟩|exact ⟨rfl,rfl⟩) ?_)|(intro (g:Nat);(conv=>cbv)))
 refine ⟨_,hk1,?_⟩
 conv=>cbv
 rintro (_|_) h<;>replace h:=ci hO h<;>dsimp only [CmpI] at h<;>(conv=>cbv)
 case true=>exact congrArg (D.int .i64) (hend w (g1 h) (h))
 replace g2:=g2 h
 clear h
 rintro (_|_) a<;>replace a:=ci hO a<;>dsimp only [CmpI] at a<;>(conv=>cbv)
 case true =>
  refine ⟨_,hat2 (by omega),?_⟩
  conv=>cbv
  rintro (_|_) h3<;>replace h3:=cs hO h3<;>dsimp only [CmpS] at h3<;>(conv=>cbv)
  case true=>exact congrArg (D.int .i64) (hend 6 (by rw [g2,if_pos (by omega),if_neg h3];rfl) (by decide))
  rw [if_pos (by omega),if_pos h3,y4iY] at g2
  repeat' (first|(refine And.intro (by first|assumption|exact ⟨by omega⟩|exact ⟨by rw [hlen];omega⟩|exact ⟨rfl⟩|exact ⟨rfl,rfl⟩) ?_)|(intro (g:Nat);(conv=>cbv)))
  refine ⟨_,hk3,?_⟩
  conv=>cbv
  repeat' (first|(refine And.intro (by first|assumption|exact ⟨by omega⟩|exact ⟨by rw [hlen];omega⟩|exact ⟨rfl⟩|exact ⟨rfl,rfl⟩) ?_)|(intro (g:Nat);(conv=>cbv)))
  cases q1<;>(conv=>cbv)
  case false=>exact congrArg (D.int .i64) (hend 5 (by rw [g2];rfl) (by decide))
  repeat' (first|(refine And.intro (by first|assumption|exact ⟨by omega⟩|exact ⟨by rw [hlen];omega⟩|exact ⟨rfl⟩|exact ⟨rfl,rfl⟩) ?_)|(intro (g:Nat);(conv=>cbv)))
  refine ⟨_,hk4,?_⟩
  cases q2<;>(conv=>cbv)
  case false=>exact congrArg (D.int .i64) (hend 5 (by rw [g2];rfl) (by decide))
  repeat' (first|(refine And.intro (by first|assumption|exact ⟨by omega⟩|exact ⟨by rw [hlen];omega⟩|exact ⟨rfl⟩|exact ⟨rfl,rfl⟩) ?_)|(intro (g:Nat);(conv=>cbv)))
  refine ⟨_,hk5,?_⟩
  cases q3<;>(conv=>cbv)
  case false=>exact congrArg (D.int .i64) (hend 5 (by rw [g2];rfl) (by decide))
  repeat' (first|(refine And.intro (by first|assumption|exact ⟨by omega⟩|exact ⟨by rw [hlen];omega⟩|exact ⟨rfl⟩|exact ⟨rfl,rfl⟩) ?_)|(intro (g:Nat);(conv=>cbv)))
  refine ⟨_,hk2,?_⟩
  conv=>cbv
  repeat' (first|(refine And.intro (by first|assumption|exact ⟨by omega⟩|exact ⟨by rw [hlen];omega⟩|exact ⟨rfl⟩|exact ⟨rfl,rfl⟩) ?_)|(intro (g:Nat);(conv=>cbv)))
  rintro (_|_) h<;>(conv=>cbv)
  case true =>
   have h3:=ne_am hO h
   exact congrArg (D.int .i64) (hend 1 (by rw [g2];simp [y3Y,wantI];omega) (by decide))
  have h3:=eq_am hO h
  exact ⟨_,_,up _ _ ⟨_,k+1,rfl,by rw [y0Y hO (by omega) (by omega)];omega,by omega,rfl,hgo (by rw [g2];simp [y3Y,wantI];omega)⟩,⟨⟨rfl,rfl,rfl,rfl,trivial⟩,⟨rfl,trivial⟩,rfl⟩,by omega⟩
 rw [if_neg (by omega),y4iY] at g2
 repeat' (first|(refine And.intro (by first|assumption|exact ⟨by omega⟩|exact ⟨by rw [hlen];omega⟩|exact ⟨rfl⟩|exact ⟨rfl,rfl⟩) ?_)|(intro (g:Nat);(conv=>cbv)))
 refine ⟨_,hk3,?_⟩
 conv=>cbv
 repeat' (first|(refine And.intro (by first|assumption|exact ⟨by omega⟩|exact ⟨by rw [hlen];omega⟩|exact ⟨rfl⟩|exact ⟨rfl,rfl⟩) ?_)|(intro (g:Nat);(conv=>cbv)))
 cases q1<;>(conv=>cbv)
 case false=>exact congrArg (D.int .i64) (hend 5 (by rw [g2];rfl) (by decide))
 repeat' (first|(refine And.intro (by first|assumption|exact ⟨by omega⟩|exact ⟨by rw [hlen];omega⟩|exact ⟨rfl⟩|exact ⟨rfl,rfl⟩) ?_)|(intro (g:Nat);(conv=>cbv)))
 refine ⟨_,hk4,?_⟩
 cases q2<;>(conv=>cbv)
 case false=>exact congrArg (D.int .i64) (hend 5 (by rw [g2];rfl) (by decide))
 repeat' (first|(refine And.intro (by first|assumption|exact ⟨by omega⟩|exact ⟨by rw [hlen];omega⟩|exact ⟨rfl⟩|exact ⟨rfl,rfl⟩) ?_)|(intro (g:Nat);(conv=>cbv)))
 refine ⟨_,hk5,?_⟩
 cases q3<;>(conv=>cbv)
 case false=>exact congrArg (D.int .i64) (hend 5 (by rw [g2];rfl) (by decide))
 repeat' (first|(refine And.intro (by first|assumption|exact ⟨by omega⟩|exact ⟨by rw [hlen];omega⟩|exact ⟨rfl⟩|exact ⟨rfl,rfl⟩) ?_)|(intro (g:Nat);(conv=>cbv)))
 refine ⟨_,hk2,?_⟩
 conv=>cbv
 repeat' (first|(refine And.intro (by first|assumption|exact ⟨by omega⟩|exact ⟨by rw [hlen];omega⟩|exact ⟨rfl⟩|exact ⟨rfl,rfl⟩) ?_)|(intro (g:Nat);(conv=>cbv)))
 rintro (_|_) h<;>(conv=>cbv)
 case true =>
  have h3:=ne_am hO h
  exact congrArg (D.int .i64) (hend 1 (by rw [g2];simp [y3Y,wantI];omega) (by decide))
 have h3:=eq_am hO h
 exact ⟨_,_,up _ _ ⟨_,k+1,rfl,by rw [y0Y hO (by omega) (by omega)];omega,by omega,rfl,hgo (by rw [g2];simp [y3Y,wantI];omega)⟩,⟨⟨rfl,rfl,rfl,rfl,trivial⟩,⟨rfl,trivial⟩,rfl⟩,by omega⟩
end Go.Proofs.AM
