/- Part 25 of the lemmas: AKd, AKe, AKf, AKg. -/
import Derived.Test.YtnbdmjbpgaeacaaGreatDoorC24
import Derived.Test.YtnbdmjbpgaeacaaGreatDoorC06
set_option maxRecDepth 100000
set_option maxHeartbeats 8000000
set_option linter.all false
namespace Go.Proofs.AM
open Go Go.Lib Cd
theorem ynxY (R:Ans) (l:List LabV) (hf:FLs FLab l) (h65:∀ s,SL s->R.v 65 [mkS s] (.bool (nameB s))) (h118:∀ s,SL s->R.v 118 [mkS s] (.bool (yiY s))) (h213:∀ x,R.v 213 [mkS x] (.bool (decide (x∈fiveL)))):AnsF R c174 [.sl 2 false (l.map labD)] (jI (y22Y l)):=by
 have hl:=hf.lt
 obtain ⟨xs,hxs⟩:∃ xs,xs=l.map labD:=⟨_,rfl⟩
 obtain ⟨r,hr0⟩:∃ r,r=y22Y l:=⟨_,rfl⟩
 have hcx:CleanL xs:=by rw [hxs];exact yeY _
 rw [←hxs,←hr0]
 unfold y22Y tooE at hr0
 refine y2Y ⟨rfl,by decide⟩ fun O hO V hV=>?_
 subst hV
 have hlen:O .len xs=l.length:=by rw [o_len hO,hxs];simp
 conv=>cbv
 rintro (_|_) h0
 ·replace h0:=f_gtr hO h0
  rw [hlen] at h0
  have hr:r=scanE (upE clabE l) l.length:=by rw [hr0,if_neg (by omega)]
  conv=>cbv
  refine y4Y (fun n d=>∃ (i:Int) (k:Nat),d=⟨[(0,.sl 2 false xs),(3,jI i)],[],false⟩/\i=k/\k<=l.length/\n=l.length-k/\∀ j,j<k->upE clabE l j=0) ⟨_,_,⟨_,0,rfl,rfl,by omega,rfl,by simp⟩,⟨⟨rfl,rfl,trivial⟩,trivial,rfl⟩⟩ ?_
  rintro J up n d ⟨i,k,rfl,hi,hk,rfl,hno⟩
  conv=>cbv
  rintro (_|_) h1
  ·replace h1:=f_lss hO h1
   rw [hlen] at h1
   conv=>cbv
   rw [hr,ywY (fun j hj=>hno j (by omega))]
  ·replace h1:=t_lss hO h1
   rw [hlen] at h1
   obtain ⟨y,hy⟩:∃ y,l[k]?=some y:=⟨_,List.getElem?_eq_getElem (by omega)⟩
   have hat:atX xs i (labD y):=y7Y hy hxs hi
   have hg:upE clabE l k=_:=y14Y hy
   obtain ⟨e,he⟩:∃ e,e=upE clabE l k:=⟨_,rfl⟩
   rw [hg] at he
   rw [←he] at hg
   have hF:=hf.all y (List.mem_of_getElem? hy)
   have hk1:=h65 y.k hF.k
   have hk2:=h118 y.v hF.v
   have hk3:=h213 y.k
   obtain ⟨q1,hq1⟩:∃ q,q=nameB y.k:=⟨_,rfl⟩
   obtain ⟨q2,hq2⟩:∃ q,q=yiY y.v:=⟨_,rfl⟩
   obtain ⟨q3,hq3⟩:∃ q,q=decide (y.k∈fiveL):=⟨_,rfl⟩
   unfold clabE at he
   rw [←hq1,←hq2,←hq3] at he
   rw [←hq1] at hk1
   rw [←hq2] at hk2
   rw [←hq3] at hk3
   clear hq1 hq2 hq3 hF h65 h118 h213
   obtain ⟨yk,yv⟩:=y
   simp only at hk1 hk2 hk3 he
   conv=>cbv
   refine ⟨_,hat,?_⟩
   conv=>cbv
   cases q1<;>cases q2<;>cases q3<;>(conv=>cbv)
   all_goals (repeat' (first|(intro (g:Nat);(conv=>cbv))|(rintro (_|_) h<;>(first|replace h:=ci hO h|replace h:=cs hO h)<;>(dsimp only [CmpI,CmpS] at h)<;>(conv=>cbv))|(refine ⟨_,by assumption,?_⟩;(conv=>cbv))|(refine ⟨_,hat,?_⟩;(conv=>cbv))|(refine And.intro (by first|assumption|exact ⟨by omega⟩|exact ⟨by rw [hlen];omega⟩|exact ⟨rfl⟩|exact ⟨rfl,rfl⟩) ?_)))
   all_goals first
    | (exfalso;omega)
    | exact ⟨_,_,up _ _ ⟨_,k+1,rfl,by rw [y0Y hO (by omega) (by omega)];omega,by omega,rfl,yjY hno (by rw [hg];first|exact he|exact he.symm|(rw [he];rfl)|(rw [he];simp [h];done)|exact h)⟩,⟨⟨rfl,rfl,trivial⟩,trivial,rfl⟩,by omega⟩
    | exact (by rw [hr];exact congrArg (D.int .i64) (yfY (by omega) hno (by rw [hg];first|exact he|exact he.symm|(rw [he];rfl)|(rw [he];simp [h];done)|rfl) (by first|decide|exact h)).symm)
    | skip
   all_goals
    refine y4Y (fun n d=>∃ (i2:Int) (k2:Nat),d=⟨[(0,.sl 2 false xs),(3,jI i),(7,jI i2)],[],false⟩/\i2=k2/\k2<=k/\n=k-k2/\∀ (j:Nat) z,j<k2->l[j]?=some z->(fun z=>decide (z.k=yk)) z=false) ⟨_,_,⟨_,0,rfl,rfl,by omega,rfl,by simp⟩,⟨⟨rfl,rfl,rfl,trivial⟩,trivial,rfl⟩⟩ ?_
    rintro J2 up2 n2 d2 ⟨i2,k2,rfl,hi2,hk2,rfl,hno2⟩
    conv=>cbv
    rintro (_|_) h3
    ·replace h3:=f_lss hO h3
     conv=>cbv
     have ha:=y5bY (p:=fun z=>decide (z.k=yk)) (l:=l) (k:=k) (fun j z hj hz=>hno2 j z (by omega) hz)
     rw [ha] at he
     all_goals first
      | (exfalso;omega)
      | exact ⟨_,_,up _ _ ⟨_,k+1,rfl,by rw [y0Y hO (by omega) (by omega)];omega,by omega,rfl,yjY hno (by rw [hg];first|exact he|exact he.symm|(rw [he];rfl)|(rw [he];simp [h];done)|exact h)⟩,⟨⟨rfl,rfl,trivial⟩,trivial,rfl⟩,by omega⟩
      | exact (by rw [hr];exact congrArg (D.int .i64) (yfY (by omega) hno (by rw [hg];first|exact he|exact he.symm|(rw [he];rfl)|(rw [he];simp [h];done)|rfl) (by first|decide|exact h)).symm)
    ·replace h3:=t_lss hO h3
     obtain ⟨z,hz⟩:∃ z,l[k2]?=some z:=⟨_,List.getElem?_eq_getElem (by omega)⟩
     have hat2:atX xs i2 (labD z):=y7Y hz hxs hi2
     have hst:(fun z=>decide (z.k=yk)) z=false->∀ (j:Nat) u,j<k2+1->l[j]?=some u->(fun z=>decide (z.k=yk)) u=false:=fun h=>y1mY hno2 hz h
     have hht:(fun z=>decide (z.k=yk)) z=true->(l.take k).any (fun z=>decide (z.k=yk))=true:=fun h=>y5cY (p:=fun z=>decide (z.k=yk)) (show k2<k by omega) hz h
     clear hz
     obtain ⟨zk,zv⟩:=z
     simp only [labD] at hat2 hst hht
     conv=>cbv
     refine ⟨_,hat2,?_⟩
     conv=>cbv
     refine ⟨_,hat,?_⟩
     conv=>cbv
     rintro (_|_) ht<;>replace ht:=cs hO ht<;>dsimp only [CmpS] at ht
     ·conv=>cbv
      exact ⟨_,_,up2 _ _ ⟨_,k2+1,rfl,by rw [y0Y hO (by omega) (by omega)];omega,by omega,rfl,hst (by simpa using ht)⟩,⟨⟨rfl,rfl,rfl,trivial⟩,trivial,rfl⟩,by omega⟩
     ·conv=>cbv
      rw [hht (by simpa using ht)] at he
      all_goals first
       | (exfalso;omega)
       | exact ⟨_,_,up _ _ ⟨_,k+1,rfl,by rw [y0Y hO (by omega) (by omega)];omega,by omega,rfl,yjY hno (by rw [hg];first|exact he|exact he.symm|(rw [he];rfl)|(rw [he];simp [h];done)|exact h)⟩,⟨⟨rfl,rfl,trivial⟩,trivial,rfl⟩,by omega⟩
       | exact (by rw [hr];exact congrArg (D.int .i64) (yfY (by omega) hno (by rw [hg];first|exact he|exact he.symm|(rw [he];rfl)|(rw [he];simp [h];done)|rfl) (by first|decide|exact h)).symm)
 ·replace h0:=t_gtr hO h0
  rw [hlen] at h0
  conv=>cbv
  rw [hr0,if_pos (by omega)]
theorem ynyY (R:Ans) (l:List OfgV) (hf:FLs FOfg l) (h65:∀ s,SL s->R.v 65 [mkS s] (.bool (nameB s))) (h116:∀ n,R.v 116 [jI n] (jI (amtE n))):AnsF R c175 [.sl 4 false (l.map ofgD)] (jI (ofgsE l)):=by
 have hl:=hf.lt
 obtain ⟨xs,hxs⟩:∃ xs,xs=l.map ofgD:=⟨_,rfl⟩
 obtain ⟨r,hr0⟩:∃ r,r=ofgsE l:=⟨_,rfl⟩
 have hcx:CleanL xs:=by rw [hxs];exact y1kY _
 rw [←hxs,←hr0]
 unfold ofgsE tooE at hr0
 refine y2Y ⟨rfl,by decide⟩ fun O hO V hV=>?_
 subst hV
 have hlen:O .len xs=l.length:=by rw [o_len hO,hxs];simp
 conv=>cbv
 rintro (_|_) h0
 ·replace h0:=f_gtr hO h0
  rw [hlen] at h0
  have hr:r=scanE (upE ofgE l) l.length:=by rw [hr0,if_neg (by omega)]
  conv=>cbv
  refine y4Y (fun n d=>∃ (i:Int) (k:Nat),d=⟨[(0,.sl 4 false xs),(3,jI i)],[],false⟩/\i=k/\k<=l.length/\n=l.length-k/\∀ j,j<k->upE ofgE l j=0) ⟨_,_,⟨_,0,rfl,rfl,by omega,rfl,by simp⟩,⟨⟨rfl,rfl,trivial⟩,trivial,rfl⟩⟩ ?_
  rintro J up n d ⟨i,k,rfl,hi,hk,rfl,hno⟩
  conv=>cbv
  rintro (_|_) h1
  ·replace h1:=f_lss hO h1
   rw [hlen] at h1
   conv=>cbv
   rw [hr,ywY (fun j hj=>hno j (by omega))]
  ·replace h1:=t_lss hO h1
   rw [hlen] at h1
   obtain ⟨y,hy⟩:∃ y,l[k]?=some y:=⟨_,List.getElem?_eq_getElem (by omega)⟩
   have hat:atX xs i (ofgD y):=y7Y hy hxs hi
   have hg:upE ofgE l k=_:=y14Y hy
   obtain ⟨e,he⟩:∃ e,e=upE ofgE l k:=⟨_,rfl⟩
   rw [hg] at he
   rw [←he] at hg
   have hF:=hf.all y (List.mem_of_getElem? hy)
   have hk1:=h65 y.z hF.z
   have hk2:=h65 y.k hF.k
   have hk3:=h116 y.p
   obtain ⟨q1,hq1⟩:∃ q,q=nameB y.z:=⟨_,rfl⟩
   obtain ⟨q2,hq2⟩:∃ q,q=nameB y.k:=⟨_,rfl⟩
   obtain ⟨w,hw⟩:∃ w,w=amtE y.p:=⟨_,rfl⟩
   unfold ofgE at he
   rw [←hq1,←hq2,←hw] at he
   rw [←hq1] at hk1
   rw [←hq2] at hk2
   rw [←hw] at hk3
   clear hq1 hq2 hw hF h65 h116
   obtain ⟨yz,yk,yp,yo⟩:=y
   simp only at hk1 hk2 hk3 he
   conv=>cbv
   refine ⟨_,hat,?_⟩
   conv=>cbv
   cases q1<;>cases q2<;>(conv=>cbv)
   all_goals (repeat' (first|(intro (g:Nat);(conv=>cbv))|(rintro (_|_) h<;>(first|replace h:=ci hO h|replace h:=cs hO h)<;>(dsimp only [CmpI,CmpS] at h)<;>(conv=>cbv))|(refine ⟨_,by assumption,?_⟩;(conv=>cbv))|(refine ⟨_,hat,?_⟩;(conv=>cbv))|(refine And.intro (by first|assumption|exact ⟨by omega⟩|exact ⟨by rw [hlen];omega⟩|exact ⟨rfl⟩|exact ⟨rfl,rfl⟩) ?_)))
   all_goals first
    | (exfalso;omega)
    | exact ⟨_,_,up _ _ ⟨_,k+1,rfl,by rw [y0Y hO (by omega) (by omega)];omega,by omega,rfl,yjY hno (by rw [hg];first|exact he|exact he.symm|(rw [he];rfl)|(rw [he];simp [h];done)|exact h)⟩,⟨⟨rfl,rfl,trivial⟩,trivial,rfl⟩,by omega⟩
    | exact (by rw [hr];exact congrArg (D.int .i64) (yfY (by omega) hno (by rw [hg];first|exact he|exact he.symm|(rw [he];rfl)|(rw [he];simp [h];done)|rfl) (by first|decide|exact h)).symm)
    | skip
   all_goals
    refine y4Y (fun n d=>∃ (i2:Int) (k2:Nat),d=⟨[(0,.sl 4 false xs),(3,jI i),(7,jI i2)],[],false⟩/\i2=k2/\k2<=k/\n=k-k2/\∀ (j:Nat) z,j<k2->l[j]?=some z->(fun z=>decide (z.z=yz)&&decide (z.k=yk)) z=false) ⟨_,_,⟨_,0,rfl,rfl,by omega,rfl,by simp⟩,⟨⟨rfl,rfl,rfl,trivial⟩,trivial,rfl⟩⟩ ?_
    rintro J2 up2 n2 d2 ⟨i2,k2,rfl,hi2,hk2,rfl,hno2⟩
    conv=>cbv
    rintro (_|_) h3
    ·replace h3:=f_lss hO h3
     conv=>cbv
     have ha:=y5bY (p:=fun z=>decide (z.z=yz)&&decide (z.k=yk)) (l:=l) (k:=k) (fun j z hj hz=>hno2 j z (by omega) hz)
     rw [ha] at he
     all_goals first
      | (exfalso;omega)
      | exact ⟨_,_,up _ _ ⟨_,k+1,rfl,by rw [y0Y hO (by omega) (by omega)];omega,by omega,rfl,yjY hno (by rw [hg];first|exact he|exact he.symm|(rw [he];rfl)|(rw [he];simp [h];done)|exact h)⟩,⟨⟨rfl,rfl,trivial⟩,trivial,rfl⟩,by omega⟩
      | exact (by rw [hr];exact congrArg (D.int .i64) (yfY (by omega) hno (by rw [hg];first|exact he|exact he.symm|(rw [he];rfl)|(rw [he];simp [h];done)|rfl) (by first|decide|exact h)).symm)
    ·replace h3:=t_lss hO h3
     obtain ⟨z,hz⟩:∃ z,l[k2]?=some z:=⟨_,List.getElem?_eq_getElem (by omega)⟩
     have hat2:atX xs i2 (ofgD z):=y7Y hz hxs hi2
     have hst:(fun z=>decide (z.z=yz)&&decide (z.k=yk)) z=false->∀ (j:Nat) u,j<k2+1->l[j]?=some u->(fun z=>decide (z.z=yz)&&decide (z.k=yk)) u=false:=fun h=>y1mY hno2 hz h
     have hht:(fun z=>decide (z.z=yz)&&decide (z.k=yk)) z=true->(l.take k).any (fun z=>decide (z.z=yz)&&decide (z.k=yk))=true:=fun h=>y5cY (p:=fun z=>decide (z.z=yz)&&decide (z.k=yk)) (show k2<k by omega) hz h
     clear hz
     obtain ⟨zz,zk,zp,zo⟩:=z
     simp only [ofgD,ofgC] at hat2 hst hht
     conv=>cbv
     refine ⟨_,hat2,?_⟩
     conv=>cbv
     refine ⟨_,hat,?_⟩
     conv=>cbv
     rintro (_|_) ht<;>replace ht:=cs hO ht<;>dsimp only [CmpS] at ht
     ·conv=>cbv
      exact ⟨_,_,up2 _ _ ⟨_,k2+1,rfl,by rw [y0Y hO (by omega) (by omega)];omega,by omega,rfl,hst (by simp [ht])⟩,⟨⟨rfl,rfl,rfl,trivial⟩,trivial,rfl⟩,by omega⟩
     ·conv=>cbv
      refine ⟨_,hat2,?_⟩
      conv=>cbv
      refine ⟨_,hat,?_⟩
      conv=>cbv
      rintro (_|_) ht2<;>replace ht2:=cs hO ht2<;>dsimp only [CmpS] at ht2
      ·conv=>cbv
       exact ⟨_,_,up2 _ _ ⟨_,k2+1,rfl,by rw [y0Y hO (by omega) (by omega)];omega,by omega,rfl,hst (by simp [ht2])⟩,⟨⟨rfl,rfl,rfl,trivial⟩,trivial,rfl⟩,by omega⟩
      ·conv=>cbv
       rw [hht (by simp [ht,ht2])] at he
       all_goals first
        | (exfalso;omega)
        | exact ⟨_,_,up _ _ ⟨_,k+1,rfl,by rw [y0Y hO (by omega) (by omega)];omega,by omega,rfl,yjY hno (by rw [hg];first|exact he|exact he.symm|(rw [he];rfl)|(rw [he];simp [h];done)|exact h)⟩,⟨⟨rfl,rfl,trivial⟩,trivial,rfl⟩,by omega⟩
        | exact (by rw [hr];exact congrArg (D.int .i64) (yfY (by omega) hno (by rw [hg];first|exact he|exact he.symm|(rw [he];rfl)|(rw [he];simp [h];done)|rfl) (by first|decide|exact h)).symm)
 ·replace h0:=t_gtr hO h0
  rw [hlen] at h0
  conv=>cbv
  rw [hr0,if_pos (by omega)]
theorem ynzY (R:Ans) (l:List TypeV) (hf:FLs FType l) (h119:∀ t,FType t->R.v 119 [typeD t] (jI (typE t))):AnsF R c73 [.sl 7 false (l.map typeD)] (jI (catE l)):=by
 have hl:=hf.lt
 obtain ⟨xs,hxs⟩:∃ xs,xs=l.map typeD:=⟨_,rfl⟩
 obtain ⟨r,hr0⟩:∃ r,r=catE l:=⟨_,rfl⟩
 have hcx:CleanL xs:=by rw [hxs];exact y2gY _
 rw [←hxs,←hr0]
 unfold catE tooE at hr0
 refine y2Y ⟨rfl,by decide⟩ fun O hO V hV=>?_
 subst hV
 have hlen:O .len xs=l.length:=by rw [o_len hO,hxs];simp
 conv=>cbv
 rintro (_|_) h0
 ·replace h0:=f_gtr hO h0
  rw [hlen] at h0
  have hr:r=scanE (upE ctypE l) l.length:=by rw [hr0,if_neg (by omega)]
  conv=>cbv
  refine y4Y (fun n d=>∃ (i:Int) (k:Nat),d=⟨[(0,.sl 7 false xs),(3,jI i)],[],false⟩/\i=k/\k<=l.length/\n=l.length-k/\∀ j,j<k->upE ctypE l j=0) ⟨_,_,⟨_,0,rfl,rfl,by omega,rfl,by simp⟩,⟨⟨rfl,rfl,trivial⟩,trivial,rfl⟩⟩ ?_
  rintro J up n d ⟨i,k,rfl,hi,hk,rfl,hno⟩
  conv=>cbv
  rintro (_|_) h1
  ·replace h1:=f_lss hO h1
   rw [hlen] at h1
   conv=>cbv
   rw [hr,ywY (fun j hj=>hno j (by omega))]
  ·replace h1:=t_lss hO h1
   rw [hlen] at h1
   obtain ⟨y,hy⟩:∃ y,l[k]?=some y:=⟨_,List.getElem?_eq_getElem (by omega)⟩
   have hat:atX xs i (typeD y):=y7Y hy hxs hi
   have hg:upE ctypE l k=_:=y14Y hy
   obtain ⟨e,he⟩:∃ e,e=upE ctypE l k:=⟨_,rfl⟩
   rw [hg] at he
   rw [←he] at hg
   have hF:=hf.all y (List.mem_of_getElem? hy)
   have hk3:=h119 y hF
   obtain ⟨w,hw⟩:∃ w,w=typE y:=⟨_,rfl⟩
   unfold ctypE at he
   rw [←hw] at he
   rw [←hw] at hk3
   clear hw hF h119
   obtain ⟨ynm,yc0,yc1,yv0,yv1,yls,yos⟩:=y
   simp only [typeD,typeC] at hat hk3 he
   obtain ⟨xyls,hxyls⟩:∃ xs,xs=yls.map labD:=⟨_,rfl⟩
   have cxyls:CleanL xyls:=by rw [hxyls];exact yeY _
   simp only [←hxyls] at hat hk3 he
   obtain ⟨xyos,hxyos⟩:∃ xs,xs=yos.map ofgD:=⟨_,rfl⟩
   have cxyos:CleanL xyos:=by rw [hxyos];exact y1kY _
   simp only [←hxyos] at hat hk3 he
   conv=>cbv
   refine ⟨_,hat,?_⟩
   conv=>cbv
   (repeat' (first|(intro (g:Nat);(conv=>cbv))|(rintro (_|_) h<;>(first|replace h:=ci hO h|replace h:=cs hO h)<;>(dsimp only [CmpI,CmpS] at h)<;>(conv=>cbv))|(refine ⟨_,by assumption,?_⟩;(conv=>cbv))|(refine ⟨_,hat,?_⟩;(conv=>cbv))|(refine And.intro (by first|assumption|exact ⟨by omega⟩|exact ⟨by rw [hlen];omega⟩|exact ⟨rfl⟩|exact ⟨rfl,rfl⟩) ?_)))
   all_goals first
    | (exfalso;omega)
    | exact ⟨_,_,up _ _ ⟨_,k+1,rfl,by rw [y0Y hO (by omega) (by omega)];omega,by omega,rfl,yjY hno (by rw [hg];first|exact he|exact he.symm|(rw [he];rfl)|(rw [he];simp [h];done)|exact h)⟩,⟨⟨rfl,rfl,trivial⟩,trivial,rfl⟩,by omega⟩
    | exact (by rw [hr];exact congrArg (D.int .i64) (yfY (by omega) hno (by rw [hg];first|exact he|exact he.symm|(rw [he];rfl)|(rw [he];simp [h];done)|rfl) (by first|decide|exact h)).symm)
    | skip
   all_goals
    refine y4Y (fun n d=>∃ (i2:Int) (k2:Nat),d=⟨[(0,.sl 7 false xs),(3,jI i),(5,jI i2)],[],false⟩/\i2=k2/\k2<=k/\n=k-k2/\∀ (j:Nat) z,j<k2->l[j]?=some z->(fun z=>decide (z.name=ynm)) z=false) ⟨_,_,⟨_,0,rfl,rfl,by omega,rfl,by simp⟩,⟨⟨rfl,rfl,rfl,trivial⟩,trivial,rfl⟩⟩ ?_
    rintro J2 up2 n2 d2 ⟨i2,k2,rfl,hi2,hk2,rfl,hno2⟩
    conv=>cbv
    rintro (_|_) h3
    ·replace h3:=f_lss hO h3
     conv=>cbv
     have ha:=y5bY (p:=fun z=>decide (z.name=ynm)) (l:=l) (k:=k) (fun j z hj hz=>hno2 j z (by omega) hz)
     rw [ha] at he
     all_goals first
      | (exfalso;omega)
      | exact ⟨_,_,up _ _ ⟨_,k+1,rfl,by rw [y0Y hO (by omega) (by omega)];omega,by omega,rfl,yjY hno (by rw [hg];first|exact he|exact he.symm|(rw [he];rfl)|(rw [he];simp [h];done)|exact h)⟩,⟨⟨rfl,rfl,trivial⟩,trivial,rfl⟩,by omega⟩
      | exact (by rw [hr];exact congrArg (D.int .i64) (yfY (by omega) hno (by rw [hg];first|exact he|exact he.symm|(rw [he];rfl)|(rw [he];simp [h];done)|rfl) (by first|decide|exact h)).symm)
    ·replace h3:=t_lss hO h3
     obtain ⟨z,hz⟩:∃ z,l[k2]?=some z:=⟨_,List.getElem?_eq_getElem (by omega)⟩
     have hat2:atX xs i2 (typeD z):=y7Y hz hxs hi2
     have hst:(fun z=>decide (z.name=ynm)) z=false->∀ (j:Nat) u,j<k2+1->l[j]?=some u->(fun z=>decide (z.name=ynm)) u=false:=fun h=>y1mY hno2 hz h
     have hht:(fun z=>decide (z.name=ynm)) z=true->(l.take k).any (fun z=>decide (z.name=ynm))=true:=fun h=>y5cY (p:=fun z=>decide (z.name=ynm)) (show k2<k by omega) hz h
     clear hz
     obtain ⟨znm,zc0,zc1,zv0,zv1,zls,zos⟩:=z
     simp only [typeD,typeC] at hat2 hst hht
     obtain ⟨xzls,hxzls⟩:∃ xs,xs=zls.map labD:=⟨_,rfl⟩
     have cxzls:CleanL xzls:=by rw [hxzls];exact yeY _
     simp only [←hxzls] at hat2 hst hht
     obtain ⟨xzos,hxzos⟩:∃ xs,xs=zos.map ofgD:=⟨_,rfl⟩
     have cxzos:CleanL xzos:=by rw [hxzos];exact y1kY _
     simp only [←hxzos] at hat2 hst hht
     conv=>cbv
     refine ⟨_,hat2,?_⟩
     conv=>cbv
     refine ⟨_,hat,?_⟩
     conv=>cbv
     rintro (_|_) ht<;>replace ht:=cs hO ht<;>dsimp only [CmpS] at ht
     ·conv=>cbv
      exact ⟨_,_,up2 _ _ ⟨_,k2+1,rfl,by rw [y0Y hO (by omega) (by omega)];omega,by omega,rfl,hst (by simpa using ht)⟩,⟨⟨rfl,rfl,rfl,trivial⟩,trivial,rfl⟩,by omega⟩
     ·conv=>cbv
      rw [hht (by simpa using ht)] at he
      all_goals first
       | (exfalso;omega)
       | exact ⟨_,_,up _ _ ⟨_,k+1,rfl,by rw [y0Y hO (by omega) (by omega)];omega,by omega,rfl,yjY hno (by rw [hg];first|exact he|exact he.symm|(rw [he];rfl)|(rw [he];simp [h];done)|exact h)⟩,⟨⟨rfl,rfl,trivial⟩,trivial,rfl⟩,by omega⟩
       | exact (by rw [hr];exact congrArg (D.int .i64) (yfY (by omega) hno (by rw [hg];first|exact he|exact he.symm|(rw [he];rfl)|(rw [he];simp [h];done)|rfl) (by first|decide|exact h)).symm)
 ·replace h0:=t_gtr hO h0
  rw [hlen] at h0
  conv=>cbv
  rw [hr0,if_pos (by omega)]
theorem yo0Y (R:Ans) (x:Str):AnsF R c213 [mkS x] (.bool (decide (x∈fiveL))):=by
 obtain ⟨r,hr⟩:∃ r,r=decide (x∈fiveL):=⟨_,rfl⟩
 rw [←hr]
 unfold fiveL zoneS hostS at hr
 refine y2Y ⟨rfl,by decide⟩ fun O hO V hV=>?_
 subst hV
 conv=>cbv
 repeat' (rintro (_|_) h<;>(first|replace h:=ci hO h|replace h:=cs hO h)<;>(dsimp only [CmpI,CmpS] at h)<;>(conv=>cbv))
 all_goals (rw [hr];simp_all)
theorem yo1Y (R:Ans) (t:TypeV) (hF:FType t) (h184:∀ s,SL s->R.v 184 [mkS s] (.bool (nameB s))) (h135:∀ a b,R.v 135 [amD a b] (jI (amtsE a b))) (h191:∀ a0 a1 b0 b1,R.v 191 [amD a0 a1,amD b0 b1] (.bool (fitsB a0 a1 b0 b1)))
 (h198:∀ l,FLs FLab l->R.v 198 [.sl 2 false (l.map labD)] (jI (y22Y l))) (h199:∀ l,FLs FOfg l->R.v 199 [.sl 4 false (l.map ofgD)] (jI (ofgsE l))):AnsF R c157 [typeD t] (jI (typE t)):=by
 obtain ⟨r,hr⟩:∃ r,r=typE t:=⟨_,rfl⟩
 have k1:=h184 t.name hF.name
 have k2:=h135 t.c0 t.c1
 have k3:=h135 t.v0 t.v1
 have k4:=h191 t.v0 t.v1 t.c0 t.c1
 have k5:=h198 t.labs hF.labs
 have k6:=h199 t.offs hF.offs
 obtain ⟨u,hu⟩:∃ u,u=typeD t:=⟨_,rfl⟩
 rw [←hr,←hu]
 unfold typE at hr
 obtain ⟨q1,hq1⟩:∃ q,q=nameB t.name:=⟨_,rfl⟩
 obtain ⟨e2,he2⟩:∃ q,q=amtsE t.c0 t.c1:=⟨_,rfl⟩
 obtain ⟨e3,he3⟩:∃ q,q=amtsE t.v0 t.v1:=⟨_,rfl⟩
 obtain ⟨q4,hq4⟩:∃ q,q=fitsB t.v0 t.v1 t.c0 t.c1:=⟨_,rfl⟩
 obtain ⟨e5,he5⟩:∃ q,q=y22Y t.labs:=⟨_,rfl⟩
 obtain ⟨e6,he6⟩:∃ q,q=ofgsE t.offs:=⟨_,rfl⟩
 rw [←hq1] at k1 hr
 rw [←he2] at k2 hr
 rw [←he3] at k3 hr
 rw [←hq4] at k4 hr
 rw [←he5] at k5 hr
 rw [←he6] at k6 hr
 clear hq1 he2 he3 hq4 he5 he6 hF h184 h135 h191 h198 h199
 simp only [ycY,y59Y] at hr
 unfold amD at *
 obtain ⟨ynm,yc0,yc1,yv0,yv1,yls,yos⟩:=t
 simp only [typeD,typeC] at hu k1 k2 k3 k4 k5 k6
 obtain ⟨xyls,hxyls⟩:∃ xs,xs=yls.map labD:=⟨_,rfl⟩
 have cxyls:CleanL xyls:=by rw [hxyls];exact yeY _
 simp only [←hxyls] at hu k1 k2 k3 k4 k5 k6
 obtain ⟨xyos,hxyos⟩:∃ xs,xs=yos.map ofgD:=⟨_,rfl⟩
 have cxyos:CleanL xyos:=by rw [hxyos];exact y1kY _
 simp only [←hxyos] at hu k1 k2 k3 k4 k5 k6
 subst hu
 refine y2Y ⟨rfl,by decide⟩ fun O hO V hV=>?_
 subst hV
 conv=>cbv
 refine ⟨_,k1,?_⟩
 cases q1 with
 | false =>
   conv=>cbv
   rw [hr];simp [wantI]
 | true =>
   conv=>cbv
   have h0:O .nat 0=0:=o_nat hO 0
   have h1:O .nat 1=1:=o_nat hO 1
   have hl2:∀ a b:D,O .len [a,b]=2:=fun a b=>by rw [o_len hO];rfl
   have ha1:O .iop .add .i64 0 1=1:=y0Y hO (by omega) (by omega)
   have ha2:O .iop .add .i64 1 1=2:=y0Y hO (by omega) (by omega)
   refine y4Y (fun n d=>∃ (i:Int) (k:Nat),d=⟨[(1,.ptr 1 1 0),(15,.own 15 1),(16,jI 2),(17,jI i)],[(1,⟨1,.rw,.var,[mkS ynm,jI yc0,jI yc1,jI yv0,jI yv1,.sl 2 false xyls,.sl 4 false xyos]⟩),(15,⟨1,.rw,.arr 2 46,[.agg [jI yc0,jI yc1],.agg [jI yv0,jI yv1]]⟩)],false⟩/\i=k/\k<=2/\n=2-k/\(1<=k->e2=0)/\(2<=k->e3=0)) ⟨_,_,⟨_,0,rfl,rfl,by omega,rfl,by omega,by omega⟩,⟨⟨rfl,rfl,by rw [←hl2];rfl,rfl,trivial⟩,⟨rfl,rfl,trivial⟩,rfl⟩⟩ ?_
   rintro J up n d ⟨i,k,rfl,hi,hk,rfl,hn1,hn2⟩
   rcases (by omega:k=0∨k=1∨k=2) with rfl|rfl|rfl
   ·obtain rfl:i=0:=by omega
    conv=>cbv
    rintro (_|_) h2
    ·exfalso;have:=f_lss hO h2;omega
    conv=>cbv
    refine ⟨⟨Int.le_refl _⟩,⟨by show (0:Int)<O .len [_,_];rw [hl2];omega⟩,.agg [jI yc0,jI yc1],by rw [h0];rfl,?_⟩
    conv=>cbv
    intro g4
    conv=>cbv
    refine ⟨_,k2,?_⟩
    conv=>cbv
    rintro (_|_) h3<;>replace h3:=ci hO h3<;>dsimp only [CmpI] at h3
    ·conv=>cbv
     rw [ha1]
     exact ⟨_,_,up _ _ ⟨1,1,rfl,rfl,by omega,rfl,fun _=>h3,fun h=>absurd h (by omega)⟩,⟨⟨rfl,rfl,rfl,rfl,trivial⟩,⟨rfl,rfl,trivial⟩,rfl⟩,by omega⟩
    ·conv=>cbv
     rw [hr];simp [wantI,h3]
   ·obtain rfl:i=1:=by omega
    conv=>cbv
    rintro (_|_) h2
    ·exfalso;have:=f_lss hO h2;omega
    conv=>cbv
    refine ⟨⟨by omega⟩,⟨by show (1:Int)<O .len [_,_];rw [hl2];omega⟩,.agg [jI yv0,jI yv1],by rw [h1];rfl,?_⟩
    conv=>cbv
    intro g4
    conv=>cbv
    refine ⟨_,k3,?_⟩
    conv=>cbv
    rintro (_|_) h3<;>replace h3:=ci hO h3<;>dsimp only [CmpI] at h3
    ·conv=>cbv
     rw [ha2]
     exact ⟨_,_,up _ _ ⟨2,2,rfl,rfl,by omega,rfl,fun _=>hn1 (by omega),fun _=>h3⟩,⟨⟨rfl,rfl,rfl,rfl,trivial⟩,⟨rfl,rfl,trivial⟩,rfl⟩,by omega⟩
    ·conv=>cbv
     have:=hn1 (by omega)
     rw [hr];simp [wantI,this,h3]
   ·obtain rfl:i=2:=by omega
    have z2:=hn1 (by omega)
    have z3:=hn2 (by omega)
    clear up
    conv=>cbv
    rintro (_|_) h2
    ·conv=>cbv
     refine ⟨_,k4,?_⟩
     cases q4 with
     | false =>
       conv=>cbv
       rw [hr];simp [wantI,z2,z3]
     | true =>
       conv=>cbv
       repeat' (refine And.intro (by first|assumption|exact ⟨by omega⟩|exact ⟨by omega⟩|exact ⟨rfl⟩|exact ⟨rfl,rfl⟩) ?_)
       refine ⟨_,k5,?_⟩
       conv=>cbv
       rintro (_|_) h3<;>replace h3:=ci hO h3<;>dsimp only [CmpI] at h3
       ·conv=>cbv
        repeat' (refine And.intro (by first|assumption|exact ⟨by omega⟩|exact ⟨by omega⟩|exact ⟨rfl⟩|exact ⟨rfl,rfl⟩) ?_)
        refine ⟨_,k6,?_⟩
        conv=>cbv
        rw [hr];simp [wantI,z2,z3,h3]
       ·conv=>cbv
        rw [hr];simp [wantI,z2,z3,h3]
    ·exfalso;have:=t_lss hO h2;omega
theorem yo2Y (R:Ans) (t:TypeV) (hF:FType t) (h65:∀ s,SL s->R.v 65 [mkS s] (.bool (nameB s))) (h66:∀ a b,R.v 66 [amD a b] (jI (amtsE a b))) (h91:∀ a0 a1 b0 b1,R.v 91 [amD a0 a1,amD b0 b1] (.bool (fitsB a0 a1 b0 b1)))
 (h174:∀ l,FLs FLab l->R.v 174 [.sl 2 false (l.map labD)] (jI (y22Y l))) (h175:∀ l,FLs FOfg l->R.v 175 [.sl 4 false (l.map ofgD)] (jI (ofgsE l))):AnsF R c119 [typeD t] (jI (typE t)):=by
 obtain ⟨r,hr⟩:∃ r,r=typE t:=⟨_,rfl⟩
 have k1:=h65 t.name hF.name
 have k2:=h66 t.c0 t.c1
 have k3:=h66 t.v0 t.v1
 have k4:=h91 t.v0 t.v1 t.c0 t.c1
 have k5:=h174 t.labs hF.labs
 have k6:=h175 t.offs hF.offs
 obtain ⟨u,hu⟩:∃ u,u=typeD t:=⟨_,rfl⟩
 rw [←hr,←hu]
 unfold typE at hr
 obtain ⟨q1,hq1⟩:∃ q,q=nameB t.name:=⟨_,rfl⟩
 obtain ⟨e2,he2⟩:∃ q,q=amtsE t.c0 t.c1:=⟨_,rfl⟩
 obtain ⟨e3,he3⟩:∃ q,q=amtsE t.v0 t.v1:=⟨_,rfl⟩
 obtain ⟨q4,hq4⟩:∃ q,q=fitsB t.v0 t.v1 t.c0 t.c1:=⟨_,rfl⟩
 obtain ⟨e5,he5⟩:∃ q,q=y22Y t.labs:=⟨_,rfl⟩
 obtain ⟨e6,he6⟩:∃ q,q=ofgsE t.offs:=⟨_,rfl⟩
 rw [←hq1] at k1 hr
 rw [←he2] at k2 hr
 rw [←he3] at k3 hr
 rw [←hq4] at k4 hr
 rw [←he5] at k5 hr
 rw [←he6] at k6 hr
 clear hq1 he2 he3 hq4 he5 he6 hF h65 h66 h91 h174 h175
 simp only [ycY,y59Y] at hr
 unfold amD at *
 obtain ⟨ynm,yc0,yc1,yv0,yv1,yls,yos⟩:=t
 simp only [typeD,typeC] at hu k1 k2 k3 k4 k5 k6
 obtain ⟨xyls,hxyls⟩:∃ xs,xs=yls.map labD:=⟨_,rfl⟩
 have cxyls:CleanL xyls:=by rw [hxyls];exact yeY _
 simp only [←hxyls] at hu k1 k2 k3 k4 k5 k6
 obtain ⟨xyos,hxyos⟩:∃ xs,xs=yos.map ofgD:=⟨_,rfl⟩
 have cxyos:CleanL xyos:=by rw [hxyos];exact y1kY _
 simp only [←hxyos] at hu k1 k2 k3 k4 k5 k6
 subst hu
 refine y2Y ⟨rfl,by decide⟩ fun O hO V hV=>?_
 subst hV
 conv=>cbv
 cases q1<;>cases q4
 all_goals (repeat' (first|(intro (g:Nat);(conv=>cbv))|(rintro (_|_) h<;>(first|replace h:=ci hO h|replace h:=cs hO h)<;>(dsimp only [CmpI,CmpS] at h)<;>(conv=>cbv))|(refine ⟨_,by assumption,?_⟩;(conv=>cbv))|(refine And.intro (by first|assumption|exact ⟨by omega⟩|exact ⟨by omega⟩|exact ⟨rfl⟩|exact ⟨rfl,rfl⟩) ?_)))
 all_goals (rw [hr];simp_all [wantI])
theorem yo3Y (o:OffV):Clean (offD o):=⟨rfl,rfl⟩
theorem yo4Y {a b:List D} (ha:CleanL a) (hb:CleanL b):CleanL (a++b):=ha.app hb
theorem yo5Y (p:TypeV × OfgV):Clean (entD p):=by
 have h:CleanL (entC p):=yo4Y (y9Y (yhY _) (y9Y (yrY _) (y9Y (yrY _) (y9Y (yrY _) (y9Y (yrY _) (y9Y (y17Y (yeY _)) (y9Y (y17Y (y1kY _)) y3nY))))))) ⟨rfl,rfl⟩
 exact ⟨by simp [entD,closed,h.c],by simp [entD,strip,h.s]⟩
def mapE (M:List (OffV × (TypeV × OfgV))):List D:=M.map (entA offD entD)
theorem yo6Y (M:List (OffV × (TypeV × OfgV))):CleanL (mapE M):=yadY offD entD yo3Y yo5Y M
theorem yo7Y (a b:List TypeV):allL (a++b)=allL a++allL b:=by unfold allL;rw [List.flatMap_append]
theorem yo8Y {K α:Type} [DecidableEq K] (m a b:List (K × α)):putL' m (a++b)=putL' (putL' m a) b:=by unfold putL';rw [List.foldl_append]
theorem yo9Y (R:Ans) (l:List TypeV) (hf:FLs FType l) (h98:R.v 98 [.sl 7 false (l.map typeD)] (jI (catE l))):AnsF R c193 [.sl 7 false (l.map typeD)] (.mapv (mapE (allM l))):=by
 have hl:=hf.lt
 obtain ⟨xs,hxs⟩:∃ xs,xs=l.map typeD:=⟨_,rfl⟩
 have cx:CleanL xs:=by rw [hxs];exact y2gY _
 obtain ⟨r,hr⟩:∃ r,r=mapE (allM l):=⟨_,rfl⟩
 have cr:CleanL r:=by rw [hr];exact yo6Y _
 unfold allM at hr
 obtain ⟨e,he⟩:∃ e,e=catE l:=⟨_,rfl⟩
 rw [←he] at h98 hr
 rw [←hxs] at h98 ⊢
 rw [←show r=mapE (allM l) by rw [hr];unfold allM;rw [←he]]
 clear he
 refine y2Y ⟨rfl,by decide⟩ fun O hO V hV=>?_
 subst hV
 have hlen:O .len xs=l.length:=by rw [o_len hO,hxs];simp
 conv=>cbv
 refine ⟨cx,_,h98,?_⟩
 conv=>cbv
 rintro (_|_) h<;>replace h:=ci hO h<;>dsimp only [CmpI] at h
 case true =>
  rw [if_neg h] at hr
  conv=>cbv
  refine ⟨⟨rfl,rfl⟩,?_⟩
  rw [hr];rfl
 rw [if_pos h] at hr
 clear h98
 conv=>cbv
 refine y4Y (fun n d=>∃ (i:Int) (k:Nat) (c:Int) (es:List D),d=⟨[(3,.mapr 8 1),(13,.sl 7 false xs),(14,jI (O .len xs)),(15,jI i)],[(8,⟨1,.rw,.map,jI c::es⟩)],false⟩/\i=k/\k<=l.length/\n=l.length-k/\es=mapE (putL' [] (allL (l.take k)))) ⟨_,_,⟨_,0,_,[],rfl,rfl,by omega,rfl,rfl⟩,⟨⟨rfl,rfl,rfl,rfl,trivial⟩,⟨rfl,trivial⟩,rfl⟩⟩ ?_
 rintro J up n d ⟨i,k,c,es,rfl,hi,hk,rfl,hes⟩
 conv=>cbv
 rintro (_|_) h1
 ·replace h1:=f_lss hO h1
  rw [hlen] at h1
  rw [List.take_of_length_le (by omega),←hr] at hes
  subst hes
  clear up
  conv=>cbv
  exact ⟨cr,by first|trivial|rfl⟩
 replace h1:=t_lss hO h1
 rw [hlen] at h1
 obtain ⟨y,hy⟩:∃ y,l[k]?=some y:=⟨_,List.getElem?_eq_getElem (by omega)⟩
 have hat:atX xs i (typeD y):=y7Y hy hxs hi
 have hF:=hf.all y (List.mem_of_getElem? hy)
 have hlo:=hF.offs.lt
 have hnext:allL (l.take (k+1))=allL (l.take k)++y.offs.map fun x=>((⟨y.name,x.z,x.k⟩:OffV),(y,x)):=by
  rw [List.take_add_one,hy,yo7Y]
  show _++allL [y]=_
  unfold allL
  simp
 obtain ⟨P,hP⟩:∃ P,P=allL (l.take k):=⟨_,rfl⟩
 rw [←hP] at hes hnext
 clear hP hy hF
 obtain ⟨ynm,yc0,yc1,yv0,yv1,yls,yos⟩:=y
 simp only [typeD,typeC] at hat hnext hlo
 obtain ⟨xls,hxls⟩:∃ xs,xs=yls.map labD:=⟨_,rfl⟩
 obtain ⟨xos,hxos⟩:∃ xs,xs=yos.map ofgD:=⟨_,rfl⟩
 have cls:CleanL xls:=by rw [hxls];exact yeY _
 have cos:CleanL xos:=by rw [hxos];exact y1kY _
 simp only [←hxls,←hxos] at hat
 have hlos:O .len xos=yos.length:=by rw [o_len hO,hxos];simp
 conv=>cbv
 refine ⟨_,hat,?_⟩
 conv=>cbv
 intro g5
 conv=>cbv
 refine y4Y (fun n d=>∃ (i2:Int) (k2:Nat) (c2:Int) (es2:List D),d=⟨[(3,.mapr 8 1),(5,.ptr 5 g5 0),(13,.sl 7 false xs),(14,jI (O .len xs)),(15,jI i),(20,.sl 4 false xos),(21,jI (O .len xos)),(22,jI i2)],[(8,⟨1,.rw,.map,jI c2::es2⟩),(5,⟨g5,.rw,.var,[mkS ynm,jI yc0,jI yc1,jI yv0,jI yv1,.sl 2 false xls,.sl 4 false xos]⟩)],false⟩/\i2=k2/\k2<=yos.length/\n=yos.length-k2/\es2=mapE (putL' [] (P++(yos.take k2).map fun x=>((⟨ynm,x.z,x.k⟩:OffV),((⟨ynm,yc0,yc1,yv0,yv1,yls,yos⟩:TypeV),x))))) ⟨_,_,⟨_,0,_,_,rfl,rfl,by omega,rfl,by rw [hes];simp⟩,⟨⟨rfl,rfl,rfl,rfl,rfl,rfl,rfl,rfl,trivial⟩,⟨rfl,rfl,trivial⟩,rfl⟩⟩ ?_
 rintro J2 up2 n d ⟨i2,k2,c2,es2,rfl,hi2,hk2,rfl,hes2⟩
 conv=>cbv
 rintro (_|_) h3
 ·replace h3:=f_lss hO h3
  rw [hlos] at h3
  rw [List.take_of_length_le (by omega),←hnext] at hes2
  conv=>cbv
  exact ⟨_,_,up _ _ ⟨_,k+1,_,_,rfl,by rw [y0Y hO (by omega) (by omega)];omega,by omega,rfl,hes2⟩,⟨⟨rfl,rfl,rfl,rfl,trivial⟩,⟨rfl,trivial⟩,rfl⟩,by omega⟩
 replace h3:=t_lss hO h3
 rw [hlos] at h3
 obtain ⟨z,hz⟩:∃ z,yos[k2]?=some z:=⟨_,List.getElem?_eq_getElem (by omega)⟩
 have hat2:atX xos i2 (ofgD z):=y7Y hz hxos hi2
 have hput:=y7oY kO offD entD yfcY ⟨ynm,z.z,z.k⟩ ((⟨ynm,yc0,yc1,yv0,yv1,yls,yos⟩:TypeV),z) (putL' [] (P++(yos.take k2).map fun x=>((⟨ynm,x.z,x.k⟩:OffV),((⟨ynm,yc0,yc1,yv0,yv1,yls,yos⟩:TypeV),x))))
 obtain ⟨es3,hes3⟩:∃ e,e=(putA (⟨ynm,z.z,z.k⟩:OffV) ((⟨ynm,yc0,yc1,yv0,yv1,yls,yos⟩:TypeV),z) (putL' [] (P++(yos.take k2).map fun x=>((⟨ynm,x.z,x.k⟩:OffV),((⟨ynm,yc0,yc1,yv0,yv1,yls,yos⟩:TypeV),x))))).map (entA offD entD):=⟨_,rfl⟩
 have hes4:es3=mapE (putL' [] (P++(yos.take (k2+1)).map fun x=>((⟨ynm,x.z,x.k⟩:OffV),((⟨ynm,yc0,yc1,yv0,yv1,yls,yos⟩:TypeV),x)))):=by
  rw [hes3]
  conv=>rhs;rw [List.take_add_one,hz,List.map_append,←List.append_assoc,yo8Y]
  rfl
 rw [←hes3] at hput
 change mputD kO _ _ (mapE _)=_ at hput
 rw [←hes2] at hput
 clear hes2 hes3 hz hes hnext up hr
 obtain ⟨zz,zk,zp,zo⟩:=z
 simp only [ofgD,ofgC,offD,entD,entC,typeC,kO,List.cons_append,List.nil_append,←hxls,←hxos] at hat2 hput
 clear hxls hxos
 conv=>cbv
 refine ⟨_,hat2,?_⟩
 conv=>cbv
 intro g7
 conv=>cbv
 refine ⟨_,hput,fun c3=>?_⟩
 conv=>cbv
 exact ⟨_,_,up2 _ _ ⟨_,k2+1,_,_,rfl,by rw [y0Y hO (by omega) (by omega)];omega,by omega,rfl,hes4⟩,⟨⟨rfl,rfl,rfl,rfl,rfl,rfl,rfl,rfl,trivial⟩,⟨rfl,rfl,trivial⟩,rfl⟩,by omega⟩
def tyZ:TypeV:=⟨[],0,0,0,0,[],[]⟩
def ofZ:OfgV:=⟨[],[],0,false⟩
noncomputable def findR (l:List TypeV) (o:OffV):TypeV × OfgV:=(findC l o).getD (tyZ,ofZ)
theorem yoaY {t:TypeV} (h:typE t=0):subE t.c0 t.c1 t.v0 t.v1=(t.c0-t.v0,t.c1-t.v1,0):=by
 obtain ⟨_,h1,h2,h3,_⟩:=yfdY h
 unfold subE
 rw [if_neg (by simp [h1]),if_neg (by simp [h2]),if_pos (fits_iff.1 h3).2.2]
theorem has_R (l:List TypeV) (o:OffV):∃ e,subE (findR l o).1.c0 (findR l o).1.c1 (findR l o).1.v0 (findR l o).1.v1=((hasO l o).1,(hasO l o).2,e)/\isO l o=(findC l o).isSome:=by
 unfold findR hasO isO
 cases h:findC l o with
 | none=>exact ⟨0,rfl,rfl⟩
 | some p =>
   obtain ⟨t,x⟩:=p
   obtain ⟨h1,h2,_⟩:=ynjY h
   exact ⟨0,yoaY ((yfeY h1).2.1 t h2),rfl⟩
theorem yobY (R:Ans) (l:List TypeV) (o:OffV) (h193:R.v 193 [.sl 7 false (l.map typeD)] (.mapv (mapE (allM l)))) (h203:∀ a0 a1 b0 b1 x y e,subE a0 a1 b0 b1=(x,y,e)->R.v 203 [amD a0 a1,amD b0 b1] (.tup [amD x y,jI e])) :
 AnsF R c162 [.sl 7 false (l.map typeD),offD o] (.tup [amD (hasO l o).1 (hasO l o).2,.bool (isO l o)]):=by
 have hlk:=y6dY kO offD entD yfcY o (allM l)
 rw [yn8Y] at hlk
 change lookD kO (offD o) (mapE (allM l))=_ at hlk
 obtain ⟨e,hs,his⟩:=has_R l o
 unfold findR at hs
 have k203:=h203 _ _ _ _ _ _ _ hs
 obtain ⟨⟨m0,m1⟩,hm⟩:∃ m,m=hasO l o:=⟨_,rfl⟩
 rw [his]
 rw [←hm] at k203 ⊢
 obtain ⟨M,hM⟩:∃ M,M=mapE (allM l):=⟨_,rfl⟩
 rw [←hM] at h193 hlk
 obtain ⟨xs,hxs⟩:∃ xs,xs=l.map typeD:=⟨_,rfl⟩
 have cx:CleanL xs:=by rw [hxs];exact y2gY _
 rw [←hxs] at h193 ⊢
 clear hM hm hs his h203
 obtain ⟨ot,oz,ok⟩:=o
 simp only [offD,kO] at hlk ⊢
 cases hf:findC l ⟨ot,oz,ok⟩ with
 | none =>
   rw [hf] at hlk k203
   simp only [Option.map_none,Option.getD_none,tyZ,Option.isSome_none] at hlk k203 ⊢
   unfold amD at *
   refine y2Y ⟨rfl,by decide⟩ fun O hO V hV=>?_;subst hV
   conv=>cbv
   refine ⟨cx,_,h193,?_⟩
   conv=>cbv
   refine ⟨_,hlk,?_⟩
   conv=>cbv
   refine ⟨_,k203,?_⟩
   conv=>cbv
 | some p =>
   obtain ⟨t,x⟩:=p
   rw [hf] at hlk k203
   simp only [Option.map_some,Option.getD_some,Option.isSome_some,entD,entC] at hlk k203 ⊢
   clear hf
   obtain ⟨ynm,yc0,yc1,yv0,yv1,yls,yos⟩:=t
   obtain ⟨zz,zk,zp,zo⟩:=x
   simp only [typeC,ofgC,List.cons_append,List.nil_append] at hlk k203
   obtain ⟨xls,hxls⟩:∃ xs,xs=yls.map labD:=⟨_,rfl⟩
   obtain ⟨xos,hxos⟩:∃ xs,xs=yos.map ofgD:=⟨_,rfl⟩
   simp only [←hxls,←hxos] at hlk
   unfold amD at *
   refine y2Y ⟨rfl,by decide⟩ fun O hO V hV=>?_;subst hV
   conv=>cbv
   refine ⟨cx,_,h193,?_⟩
   conv=>cbv
   refine ⟨_,hlk,?_⟩
   conv=>cbv
   refine ⟨_,k203,?_⟩
   conv=>cbv
def pO (t:TypeV) (o:OffV) (x:OfgV):Bool:=decide (t.name=o.t)&&(decide (x.z=o.z)&&decide (x.k=o.k))
theorem yfmY {o:OffV}:∀ {l:List TypeV} {k:Nat} {t:TypeV} {x:OfgV},(∀ (j:Nat) u,j<k->l[j]?=some u->u.offs.find? (pO u o)=none)->l[k]?=some t->t.offs.find? (pO t o)=some x->findT l o=some (t,x)
 | [],k,t,x,_,h,_=>by simp at h
 | y::r,0,t,x,_,h,hx=>by
   simp only [List.getElem?_cons_zero,Option.some.injEq] at h
   subst h
   unfold findT
   rw [List.findSome?_cons]
   unfold pO at hx
   rw [hx]
   rfl
 | y::r,k+1,t,x,h0,h,hx=>by
   have h1:=h0 0 y (by omega) rfl
   unfold findT
   rw [List.findSome?_cons]
   have h2:y.offs.find? (fun x=>decide (y.name=o.t)&&(decide (x.z=o.z)&&decide (x.k=o.k)))=none:=h1
   rw [h2]
   exact yfmY (l:=r) (k:=k) (fun j u hj hu=>h0 (j+1) u (by omega) (by simpa using hu)) (by simpa using h) hx
theorem yocY {o:OffV} {l:List TypeV} (h0:∀ (j:Nat) u,l[j]?=some u->u.offs.find? (pO u o)=none):findT l o=none:=by
 unfold findT
 rw [List.findSome?_eq_none_iff]
 intro u hu
 obtain ⟨j,hj⟩:=List.mem_iff_getElem?.1 hu
 have h1:u.offs.find? (fun x=>decide (u.name=o.t)&&(decide (x.z=o.z)&&decide (x.k=o.k)))=none:=h0 j u hj
 rw [h1]
 rfl
theorem yodY (R:Ans) (l:List TypeV) (hf:FLs FType l) (o:OffV) (h73:R.v 73 [.sl 7 false (l.map typeD)] (jI (catE l))) :
 AnsF R c152 [.sl 7 false (l.map typeD),offD o] (.tup [typeD (findR l o).1,ofgD (findR l o).2,.bool (isO l o)]):=by
 have hl:=hf.lt
 have hC:catE l≠0->findC l o=none:=fun h=>by unfold findC;rw [if_neg h]
 have hC0:catE l=0->findC l o=findT l o:=fun h=>by unfold findC;rw [if_pos h]
 have hR:∀ t x,findC l o=some (t,x)->findR l o=(t,x)/\isO l o=true:=fun t x h=>by unfold findR isO;rw [h];exact ⟨rfl,rfl⟩
 have hN:findC l o=none->findR l o=(tyZ,ofZ)/\isO l o=false:=fun h=>by unfold findR isO;rw [h];exact ⟨rfl,rfl⟩
 obtain ⟨⟨rt,rx⟩,hr⟩:∃ r,r=findR l o:=⟨_,rfl⟩
 obtain ⟨ri,hri⟩:∃ r,r=isO l o:=⟨_,rfl⟩
 rw [←hr,←hri] at hN ⊢
 rw [←hri] at hR
 replace hR:∀ t x,findC l o=some (t,x)->(rt,rx)=(t,x)/\ri=true:=fun t x h=>by rw [hr];exact hR t x h
 obtain ⟨e,he⟩:∃ e,e=catE l:=⟨_,rfl⟩
 rw [←he] at h73 hC hC0
 obtain ⟨xs,hxs⟩:∃ xs,xs=l.map typeD:=⟨_,rfl⟩
 have cx:CleanL xs:=by rw [hxs];exact y2gY _
 rw [←hxs] at h73 ⊢
 clear hr hri he
 obtain ⟨rd,hrd⟩:∃ r,r=D.tup [typeD rt,ofgD rx,.bool ri]:=⟨_,rfl⟩
 rw [←hrd]
 have fin:findC l o=none->D.tup [.agg [mkS [],jI 0,jI 0,jI 0,jI 0,.sl 2 false [],.sl 4 false []],.agg [mkS [],mkS [],jI 0,.bool false],.bool false]=rd:=fun h=>by
  obtain ⟨a,b⟩:=hN h
  simp only [Prod.mk.injEq] at a
  rw [hrd,a.1,a.2,b];rfl
 have hit:∀ t x,findC l o=some (t,x)->D.tup [typeD t,ofgD x,.bool true]=rd:=fun t x h=>by
  obtain ⟨a,b⟩:=hR t x h
  simp only [Prod.mk.injEq] at a
  rw [hrd,a.1,a.2,b]
 clear hR hN hrd
 obtain ⟨ot,oz,ok⟩:=o
 simp only [offD]
 refine y2Y ⟨rfl,by decide⟩ fun O hO V hV=>?_;subst hV
 have hlen:O .len xs=l.length:=by rw [o_len hO,hxs];simp
 conv=>cbv
 refine ⟨cx,_,h73,?_⟩
 conv=>cbv
 rintro (_|_) h<;>replace h:=ci hO h<;>dsimp only [CmpI] at h
 case true =>
  have:=fin (hC h)
  conv at this=>cbv
  conv=>cbv
  exact ⟨⟨rfl,rfl⟩,⟨rfl,rfl⟩,this⟩
 replace hC0:=hC0 h
 clear hC h73
 conv=>cbv
 refine y4Y (fun n d=>∃ (i:Int) (k:Nat),d=⟨[(0,.sl 7 false xs),(3,.ptr 3 1 0),(4,.ptr 4 1 0),(5,.ptr 5 1 0),(8,jI i)],[(3,⟨1,.rw,.var,[mkS ot,mkS oz,mkS ok]⟩),(4,⟨1,.rw,.var,[mkS [],jI 0,jI 0,jI 0,jI 0,.sl 2 true [],.sl 4 true []]⟩),(5,⟨1,.rw,.var,[mkS [],mkS [],jI 0,.bool false]⟩)],false⟩/\i=k/\k<=l.length/\n=l.length-k/\∀ (j:Nat) u,j<k->l[j]?=some u->u.offs.find? (pO u ⟨ot,oz,ok⟩)=none) ⟨_,_,⟨_,0,rfl,rfl,by omega,rfl,by simp⟩,⟨⟨rfl,rfl,rfl,rfl,rfl,trivial⟩,⟨rfl,rfl,rfl,trivial⟩,rfl⟩⟩ ?_
 rintro J up n d ⟨i,k,rfl,hi,hk,rfl,hno⟩
 conv=>cbv
 rintro (_|_) h1
 ·replace h1:=f_lss hO h1
  rw [hlen] at h1
  have:=fin (hC0.trans (yocY fun j u hu=>hno j u (by have:=(List.getElem?_eq_some_iff.1 hu).1;omega) hu))
  conv at this=>cbv
  clear up
  conv=>cbv
  exact ⟨⟨rfl,rfl⟩,⟨rfl,rfl⟩,this⟩
 replace h1:=t_lss hO h1
 rw [hlen] at h1
 obtain ⟨y,hy⟩:∃ y,l[k]?=some y:=⟨_,List.getElem?_eq_getElem (by omega)⟩
 have hat:atX xs i (typeD y):=y7Y hy hxs hi
 have hlo:=(hf.all y (List.mem_of_getElem? hy)).offs.lt
 have hstep:y.offs.find? (pO y ⟨ot,oz,ok⟩)=none->∀ (j:Nat) u,j<k+1->l[j]?=some u->u.offs.find? (pO u ⟨ot,oz,ok⟩)=none:=fun h j u hj hu=>by
  rcases Nat.lt_succ_iff_lt_or_eq.1 hj with h2|rfl
  ·exact hno j u h2 hu
  ·rw [hy] at hu;simp only [Option.some.injEq] at hu;subst hu;exact h
 have hfound:∀ x,y.offs.find? (pO y ⟨ot,oz,ok⟩)=some x->D.tup [typeD y,ofgD x,.bool true]=rd:=fun x hx=>hit y x (hC0.trans (yfmY hno hy hx))
 clear hno hy hC0 hit fin
 obtain ⟨ynm,yc0,yc1,yv0,yv1,yls,yos⟩:=y
 simp only [typeD,typeC] at hat hfound hlo hstep
 obtain ⟨xls,hxls⟩:∃ xs,xs=yls.map labD:=⟨_,rfl⟩
 obtain ⟨xos,hxos⟩:∃ xs,xs=yos.map ofgD:=⟨_,rfl⟩
 have cls:CleanL xls:=by rw [hxls];exact yeY _
 have cos:CleanL xos:=by rw [hxos];exact y1kY _
 simp only [←hxls,←hxos] at hat hfound
 have hlos:O .len xos=yos.length:=by rw [o_len hO,hxos];simp
 conv=>cbv
 refine y4Y (fun n d=>∃ (i2:Int) (k2:Nat),d=⟨[(0,.sl 7 false xs),(3,.ptr 3 1 0),(4,.ptr 4 1 0),(5,.ptr 5 1 0),(8,jI i),(9,jI i2)],[(3,⟨1,.rw,.var,[mkS ot,mkS oz,mkS ok]⟩),(4,⟨1,.rw,.var,[mkS [],jI 0,jI 0,jI 0,jI 0,.sl 2 true [],.sl 4 true []]⟩),(5,⟨1,.rw,.var,[mkS [],mkS [],jI 0,.bool false]⟩)],false⟩/\i2=k2/\k2<=yos.length/\n=yos.length-k2/\∀ (j:Nat) z,j<k2->yos[j]?=some z->pO ⟨ynm,yc0,yc1,yv0,yv1,yls,yos⟩ ⟨ot,oz,ok⟩ z=false) ⟨_,_,⟨_,0,rfl,rfl,by omega,rfl,by simp⟩,⟨⟨rfl,rfl,rfl,rfl,rfl,rfl,trivial⟩,⟨rfl,rfl,rfl,trivial⟩,rfl⟩⟩ ?_
 rintro J2 up2 n d ⟨i2,k2,rfl,hi2,hk2,rfl,hno2⟩
 conv=>cbv
 refine ⟨_,hat,?_⟩
 conv=>cbv
 rintro (_|_) h3
 ·replace h3:=f_lss hO h3
  rw [hlos] at h3
  have hs:=hstep (yacY fun j z hj hz=>hno2 j z (by omega) hz)
  clear hfound
  conv=>cbv
  exact ⟨_,_,up _ _ ⟨_,k+1,rfl,by rw [y0Y hO (by omega) (by omega)];omega,by omega,rfl,hs⟩,⟨⟨rfl,rfl,rfl,rfl,rfl,trivial⟩,⟨rfl,rfl,rfl,trivial⟩,rfl⟩,by omega⟩
 replace h3:=t_lss hO h3
 rw [hlos] at h3
 obtain ⟨z,hz⟩:∃ z,yos[k2]?=some z:=⟨_,List.getElem?_eq_getElem (by omega)⟩
 have hat2:atX xos i2 (ofgD z):=y7Y hz hxos hi2
 have hst2:pO ⟨ynm,yc0,yc1,yv0,yv1,yls,yos⟩ ⟨ot,oz,ok⟩ z=false->∀ (j:Nat) u,j<k2+1->yos[j]?=some u->pO ⟨ynm,yc0,yc1,yv0,yv1,yls,yos⟩ ⟨ot,oz,ok⟩ u=false:=fun h=>y1mY hno2 hz h
 have hht2:pO ⟨ynm,yc0,yc1,yv0,yv1,yls,yos⟩ ⟨ot,oz,ok⟩ z=true->_:=fun h=>hfound z (yabY hz h hno2)
 clear hz hno2 hfound up hstep
 obtain ⟨zz,zk,zp,zo⟩:=z
 simp only [ofgD,ofgC,pO] at hat2 hst2 hht2
 conv at hht2=>rhs;cbv
 conv=>cbv
 refine ⟨_,hat,?_⟩
 conv=>cbv
 refine ⟨_,hat2,?_⟩
 conv=>cbv
 intro g10
 conv=>cbv
 refine ⟨_,hat,?_⟩
 conv=>cbv
 rintro (_|_) h4<;>replace h4:=cs hO h4<;>dsimp only [CmpS] at h4
 ·conv=>cbv
  exact ⟨_,_,up2 _ _ ⟨_,k2+1,rfl,by rw [y0Y hO (by omega) (by omega)];omega,by omega,rfl,hst2 (by simp [h4])⟩,⟨⟨rfl,rfl,rfl,rfl,rfl,rfl,trivial⟩,⟨rfl,rfl,rfl,trivial⟩,rfl⟩,by omega⟩
 conv=>cbv
 rintro (_|_) h5<;>replace h5:=cs hO h5<;>dsimp only [CmpS] at h5
 ·conv=>cbv
  exact ⟨_,_,up2 _ _ ⟨_,k2+1,rfl,by rw [y0Y hO (by omega) (by omega)];omega,by omega,rfl,hst2 (by simp [h5])⟩,⟨⟨rfl,rfl,rfl,rfl,rfl,rfl,trivial⟩,⟨rfl,rfl,rfl,trivial⟩,rfl⟩,by omega⟩
 conv=>cbv
 rintro (_|_) h6<;>replace h6:=cs hO h6<;>dsimp only [CmpS] at h6
 ·conv=>cbv
  exact ⟨_,_,up2 _ _ ⟨_,k2+1,rfl,by rw [y0Y hO (by omega) (by omega)];omega,by omega,rfl,hst2 (by simp [h6])⟩,⟨⟨rfl,rfl,rfl,rfl,rfl,rfl,trivial⟩,⟨rfl,rfl,rfl,trivial⟩,rfl⟩,by omega⟩
 have hdone:=hht2 (by simp [h4,h5,h6])
 clear hht2 hst2 up2
 conv=>cbv
 refine ⟨_,hat,?_⟩
 conv=>cbv
 exact ⟨cls,cos,hdone⟩
theorem yoeY (R:Ans) (l:List TypeV) (o:OffV) (h152:R.v 152 [.sl 7 false (l.map typeD),offD o] (.tup [typeD (findR l o).1,ofgD (findR l o).2,.bool (isO l o)])) (h178:∀ a0 a1 b0 b1 x y e,subE a0 a1 b0 b1=(x,y,e)->R.v 178 [amD a0 a1,amD b0 b1] (.tup [amD x y,jI e])) :
 AnsF R c123 [.sl 7 false (l.map typeD),offD o] (.tup [amD (hasO l o).1 (hasO l o).2,.bool (isO l o)]):=by
 obtain ⟨e,hs,_⟩:=has_R l o
 have k178:=h178 _ _ _ _ _ _ _ hs
 obtain ⟨⟨m0,m1⟩,hm⟩:∃ m,m=hasO l o:=⟨_,rfl⟩
 obtain ⟨q,hq⟩:∃ m,m=isO l o:=⟨_,rfl⟩
 obtain ⟨⟨t,x⟩,hr⟩:∃ r,r=findR l o:=⟨_,rfl⟩
 rw [←hm] at k178 ⊢
 rw [←hr] at k178 h152
 rw [←hq] at h152 ⊢
 clear hs hm hq hr h178
 obtain ⟨xs,hxs⟩:∃ xs,xs=l.map typeD:=⟨_,rfl⟩
 have cx:CleanL xs:=by rw [hxs];exact y2gY _
 rw [←hxs] at h152 ⊢
 obtain ⟨ot,oz,ok⟩:=o
 obtain ⟨ynm,yc0,yc1,yv0,yv1,yls,yos⟩:=t
 obtain ⟨zz,zk,zp,zo⟩:=x
 simp only [typeD,typeC,ofgD,ofgC,offD] at h152 k178 ⊢
 obtain ⟨xls,hxls⟩:∃ xs,xs=yls.map labD:=⟨_,rfl⟩
 obtain ⟨xos,hxos⟩:∃ xs,xs=yos.map ofgD:=⟨_,rfl⟩
 simp only [←hxls,←hxos] at h152
 unfold amD at *
 refine y2Y ⟨rfl,by decide⟩ fun O hO V hV=>?_;subst hV
 conv=>cbv
 refine ⟨cx,_,h152,?_⟩
 conv=>cbv
 refine ⟨_,k178,?_⟩
 conv=>cbv
theorem yaiY {O:Ops} (hO:O=Ops.std) {a b:Str} (h:true=O .scmp .leq ⟨⟨a⟩⟩ ⟨⟨b⟩⟩):a<b∨a=b:=by rw [ydrY hO] at h;simpa using h.symm
theorem yajY {O:Ops} (hO:O=Ops.std) {a b:Str} (h:false=O .scmp .leq ⟨⟨a⟩⟩ ⟨⟨b⟩⟩):¬(a<b∨a=b):=by rw [ydrY hO] at h;exact of_decide_eq_false h.symm
def lastS {α:Type} (κ:α->Str) (l:List α):Str:=match l.getLast? with|some y=>κ y|none=>[]
theorem yakY {α:Type} {κ:α->Str} {x:α} {ah:List α} (h:κ x≠[]):rizE κ x ah=if κ x<lastS κ ah∨κ x=lastS κ ah then 6 else 0:=by
 unfold rizE lastS
 cases ah.getLast? with
 | none =>
   simp only
   rw [if_neg]
   rintro (h2|h2)
   ·exact absurd h2 (List.not_lt_nil _)
   ·exact h h2
 | some y =>
   simp only
   by_cases h2:κ y<κ x
   ·rw [decide_eq_true h2,if_pos rfl,if_neg]
    rintro (h3|h3)
    ·exact yahY h2 h3
    ·rw [h3] at h2;exact List.lt_irrefl _ h2
   ·rw [decide_eq_false h2,if_neg (by simp),if_pos]
    rcases y55Y (κ x) (κ y) with h3|h3|h3
    ·exact .inl h3
    ·exact .inr h3
    ·exact absurd h3 h2
theorem yalY {α:Type} {κ:α->Str} {l:List α} {k:Nat} {y:α} (h:l[k]?=some y):lastS κ (l.take (k+1))=κ y:=by
 unfold lastS
 rw [y34Y (by omega) (show l[k+1-1]?=some y by simpa using h)]
theorem yamY {s:Str} (h:nameB s=true):s≠[]:=fun e=>by
 subst e
 unfold nameB at h
 simp only [decide_eq_true_eq] at h
 have:=h.1
 simp at this
theorem yofY (R:Ans) (n:Int):AnsF R c96 [jI n] (.bool (btw n 0 1099511627776)):=by
 obtain ⟨r,hr⟩:∃ r,r=btw n 0 1099511627776:=⟨_,rfl⟩
 rw [←hr]
 unfold btw at hr
 refine y2Y ⟨rfl,by decide⟩ fun O hO V hV=>?_
 subst hV
 conv=>cbv
 repeat' (rintro (_|_) h<;>(first|replace h:=ci hO h|replace h:=cs hO h)<;>(dsimp only [CmpI,CmpS] at h)<;>(conv=>cbv))
 all_goals (rw [hr];simp;omega)
theorem yogY (R:Ans) (n:Int):AnsF R c97 [jI n] (.bool (btw n 0 1073741824)):=by
 obtain ⟨r,hr⟩:∃ r,r=btw n 0 1073741824:=⟨_,rfl⟩
 rw [←hr]
 unfold btw at hr
 refine y2Y ⟨rfl,by decide⟩ fun O hO V hV=>?_
 subst hV
 conv=>cbv
 repeat' (rintro (_|_) h<;>(first|replace h:=ci hO h|replace h:=cs hO h)<;>(dsimp only [CmpI,CmpS] at h)<;>(conv=>cbv))
 all_goals (rw [hr];simp;omega)
theorem yohY (R:Ans) (n:Int):AnsF R c71 [jI n] (.bool (btw n 0 1099511627776)):=by
 obtain ⟨r,hr⟩:∃ r,r=btw n 0 1099511627776:=⟨_,rfl⟩
 rw [←hr]
 unfold btw at hr
 refine y2Y ⟨rfl,by decide⟩ fun O hO V hV=>?_
 subst hV
 conv=>cbv
 repeat' (rintro (_|_) h<;>(first|replace h:=ci hO h|replace h:=cs hO h)<;>(dsimp only [CmpI,CmpS] at h)<;>(conv=>cbv))
 all_goals (rw [hr];simp;omega)
theorem yoiY (R:Ans) (n:Int):AnsF R c72 [jI n] (.bool (btw n 0 1073741824)):=by
 obtain ⟨r,hr⟩:∃ r,r=btw n 0 1073741824:=⟨_,rfl⟩
 rw [←hr]
 unfold btw at hr
 refine y2Y ⟨rfl,by decide⟩ fun O hO V hV=>?_
 subst hV
 conv=>cbv
 repeat' (rintro (_|_) h<;>(first|replace h:=ci hO h|replace h:=cs hO h)<;>(dsimp only [CmpI,CmpS] at h)<;>(conv=>cbv))
 all_goals (rw [hr];simp;omega)
theorem yojY (R:Ans) (y:PoolV) (n:Str):AnsF R c204 [poolD y,.vptr (.agg [mkS n]) 0] (.bool (decide (y.name=n))):=by
 obtain ⟨r,hr⟩:∃ r,r=decide (y.name=n):=⟨_,rfl⟩
 rw [←hr]
 obtain ⟨u,hu⟩:∃ u,u=poolD y:=⟨_,rfl⟩
 rw [←hu]
 obtain ⟨ynm,ywe,yl0,yl1,yrs,yts,yge,yex,ybu,yme⟩:=y
 simp only [poolD,poolC] at hr hu
 obtain ⟨xyrs,hxyrs⟩:∃ xs,xs=yrs.map reqD:=⟨_,rfl⟩
 have cxyrs:CleanL xyrs:=by rw [hxyrs];exact y1bY _
 simp only [←hxyrs] at hr hu
 obtain ⟨xyts,hxyts⟩:∃ xs,xs=yts.map labD:=⟨_,rfl⟩
 have cxyts:CleanL xyts:=by rw [hxyts];exact yeY _
 simp only [←hxyts] at hr hu
 subst hu
 refine y2Y ⟨rfl,by decide⟩ fun O hO V hV=>?_
 subst hV
 conv=>cbv
 repeat' (rintro (_|_) h<;>(first|replace h:=ci hO h|replace h:=cs hO h)<;>(dsimp only [CmpI,CmpS] at h)<;>(conv=>cbv))
 all_goals (rw [hr];simp_all)
theorem yokY (R:Ans) (y:ClaimV) (n:Str):AnsF R c207 [y5Y y,.vptr (.agg [mkS n]) 0] (.bool (decide (y.name=n))):=by
 obtain ⟨r,hr⟩:∃ r,r=decide (y.name=n):=⟨_,rfl⟩
 rw [←hr]
 obtain ⟨u,hu⟩:∃ u,u=y5Y y:=⟨_,rfl⟩
 rw [←hu]
 obtain ⟨ynm,ypo,yge,⟨yot,yoz,yok⟩,ypr,yc0,yc1,yos,ytr,yid,yph,ybo,yma⟩:=y
 simp only [y5Y,y12Y] at hr hu
 obtain ⟨xyos,hxyos⟩:∃ xs,xs=yos.map offD:=⟨_,rfl⟩
 have cxyos:CleanL xyos:=by rw [hxyos];exact y11Y _
 simp only [←hxyos] at hr hu
 subst hu
 refine y2Y ⟨rfl,by decide⟩ fun O hO V hV=>?_
 subst hV
 conv=>cbv
 repeat' (rintro (_|_) h<;>(first|replace h:=ci hO h|replace h:=cs hO h)<;>(dsimp only [CmpI,CmpS] at h)<;>(conv=>cbv))
 all_goals (rw [hr];simp_all)
theorem yolY (R:Ans) (s:SnapV) (o:OffV) (h162:∀ o,R.v 162 [.sl 7 false (s.types.map typeD),offD o] (.tup [amD (hasO s.types o).1 (hasO s.types o).2,.bool (isO s.types o)])):AnsF R c206 [offD o,.vptr (snapD s) 0] (.bool (!isO s.types o)):=by
 have k:=h162 o
 obtain ⟨q,hq⟩:∃ q,q=isO s.types o:=⟨_,rfl⟩
 obtain ⟨⟨m0,m1⟩,hm⟩:∃ m,m=hasO s.types o:=⟨_,rfl⟩
 rw [←hm] at k
 rw [←hq] at k ⊢
 clear hq h162 hm
 obtain ⟨ty,po,pl,cl,cm,co,is,no,hce,hsn,cty,cpo,cpl,ccl,ccm,cco,cis,cno⟩:=yxY s
 rw [hsn]
 rw [←hce.ty] at k
 obtain ⟨ot,oz,ok⟩:=o
 simp only [offD] at k ⊢
 unfold amD at k
 refine y2Y ⟨rfl,by decide⟩ fun O hO V hV=>?_
 subst hV
 conv=>cbv
 repeat' (refine And.intro (by first|assumption|exact ⟨rfl⟩|exact ⟨rfl,rfl⟩) ?_)
 refine ⟨_,k,?_⟩
 cases q<;>(conv=>cbv)
 all_goals (first|trivial|rfl)
theorem yomY (R:Ans) (s:SnapV) (os:List OffV) (h205:R.v 205 [.sl 3 false (os.map offD),.fn 206 [] [.vptr (snapD s) 0]] (.bool (os.any fun o=>!isO s.types o))):AnsF R c164 [snapD s,.sl 3 false (os.map offD)] (.bool (yqY s.types os)):=by
 have hq:yqY s.types os=!os.any fun o=>!isO s.types o:=by unfold yqY;rw [List.all_eq_not_any_not]
 rw [hq]
 obtain ⟨q,hq⟩:∃ q,q=os.any fun o=>!isO s.types o:=⟨_,rfl⟩
 rw [←hq] at h205 ⊢
 clear hq
 obtain ⟨xs,hxs⟩:∃ xs,xs=os.map offD:=⟨_,rfl⟩
 have cx:CleanL xs:=by rw [hxs];exact y11Y _
 rw [←hxs] at h205 ⊢
 obtain ⟨ty,po,pl,cl,cm,co,is,no,hce,hsn,cty,cpo,cpl,ccl,ccm,cco,cis,cno⟩:=yxY s
 rw [hsn] at h205 ⊢
 refine y2Y ⟨rfl,by decide⟩ fun O hO V hV=>?_
 subst hV
 conv=>cbv
 repeat' (refine And.intro (by first|assumption|exact ⟨rfl⟩|exact ⟨rfl,rfl⟩) ?_)
 refine ⟨_,h205,?_⟩
 cases q<;>(conv=>cbv)
 all_goals (first|trivial|rfl)
theorem yonY (R:Ans) (s:SnapV) (n:Str) (h:R.v 46 [.sl 10 false (s.pools.map poolD),.fn 204 [] [.vptr (.agg [mkS n]) 0]] (.bool (y1nY s n))):AnsF R c163 [snapD s,mkS n] (.bool (y1nY s n)):=by
 obtain ⟨q,hq⟩:∃ q,q=y1nY s n:=⟨_,rfl⟩
 rw [←hq] at h ⊢
 clear hq
 obtain ⟨ty,po,pl,cl,cm,co,is,no,hce,hsn,cty,cpo,cpl,ccl,ccm,cco,cis,cno⟩:=yxY s
 rw [hsn]
 rw [←hce.pl] at h
 refine y2Y ⟨rfl,by decide⟩ fun O hO V hV=>?_
 subst hV
 conv=>cbv
 repeat' (refine And.intro (by first|assumption|exact ⟨rfl⟩|exact ⟨rfl,rfl⟩) ?_)
 refine ⟨_,h,?_⟩
 conv=>cbv
 all_goals (first|trivial|rfl)
theorem yooY (R:Ans) (s:SnapV) (n:Str) (h:R.v 169 [.sl 15 false (s.claims.map y5Y),.fn 207 [] [.vptr (.agg [mkS n]) 0]] (.bool (y1aY s n))):AnsF R c165 [snapD s,mkS n] (.bool (y1aY s n)):=by
 obtain ⟨q,hq⟩:∃ q,q=y1aY s n:=⟨_,rfl⟩
 rw [←hq] at h ⊢
 clear hq
 obtain ⟨ty,po,pl,cl,cm,co,is,no,hce,hsn,cty,cpo,cpl,ccl,ccm,cco,cis,cno⟩:=yxY s
 rw [hsn]
 rw [←hce.cl] at h
 refine y2Y ⟨rfl,by decide⟩ fun O hO V hV=>?_
 subst hV
 conv=>cbv
 repeat' (refine And.intro (by first|assumption|exact ⟨rfl⟩|exact ⟨rfl,rfl⟩) ?_)
 refine ⟨_,h,?_⟩
 conv=>cbv
 all_goals (first|trivial|rfl)
theorem yopY (R:Ans) (l:List TypeV) (os:List OffV) (hl:os.length<4611686018427387904) (h123:∀ o,R.v 123 [.sl 7 false (l.map typeD),offD o] (.tup [amD (hasO l o).1 (hasO l o).2,.bool (isO l o)])):AnsF R c122 [.sl 7 false (l.map typeD),.sl 3 false (os.map offD)] (.bool (yqY l os)):=by
 obtain ⟨r,hr⟩:∃ r,r=yqY l os:=⟨_,rfl⟩
 rw [←hr]
 unfold yqY at hr
 obtain ⟨ts,hts⟩:∃ xs,xs=l.map typeD:=⟨_,rfl⟩
 have ct:CleanL ts:=by rw [hts];exact y2gY _
 obtain ⟨xs,hxs⟩:∃ xs,xs=os.map offD:=⟨_,rfl⟩
 rw [←hxs,←hts]
 rw [←hts] at h123
 refine y2Y ⟨rfl,by decide⟩ fun O hO V hV=>?_
 subst hV
 have hlen:O .len xs=os.length:=by rw [o_len hO,hxs];simp
 conv=>cbv
 refine y4Y (fun n d=>∃ (i:Int) (k:Nat),d=⟨[(0,.sl 7 false ts),(9,.sl 3 false xs),(10,jI (O .len xs)),(11,jI i)],[],false⟩/\i=k/\k<=os.length/\n=os.length-k/\∀ (j:Nat) z,j<k->os[j]?=some z->isO l z=true) ⟨_,_,⟨_,0,rfl,rfl,by omega,rfl,by simp⟩,⟨⟨rfl,rfl,rfl,rfl,trivial⟩,trivial,rfl⟩⟩ ?_
 rintro J up n d ⟨i,k,rfl,hi,hk,rfl,hno⟩
 conv=>cbv
 rintro (_|_) h1
 ·replace h1:=f_lss hO h1
  rw [hlen] at h1
  conv=>cbv
  rw [hr,y6aY fun j z hj hz=>hno j z (by omega) hz]
 ·replace h1:=t_lss hO h1
  rw [hlen] at h1
  obtain ⟨y,hy⟩:∃ y,os[k]?=some y:=⟨_,List.getElem?_eq_getElem (by omega)⟩
  have hat:atX xs i (offD y):=y7Y hy hxs hi
  have k1:=h123 y
  obtain ⟨q,hq⟩:∃ q,q=isO l y:=⟨_,rfl⟩
  obtain ⟨⟨m0,m1⟩,hm⟩:∃ m,m=hasO l y:=⟨_,rfl⟩
  rw [←hm] at k1
  rw [←hq] at k1
  clear hm
  have hst:q=true->∀ (j:Nat) z,j<k+1->os[j]?=some z->isO l z=true:=fun h=>y6cY hno hy (hq.symm.trans h)
  have hht:q=false->r=false:=fun h=>by rw [hr];exact y6bY hy (hq.symm.trans h)
  clear hq hy h123 hr
  obtain ⟨yt,yz,yk⟩:=y
  simp only [offD] at hat k1
  unfold amD at k1
  conv=>cbv
  refine ⟨_,hat,?_⟩
  conv=>cbv
  intro g4
  conv=>cbv
  refine ⟨ct,_,k1,?_⟩
  conv=>cbv
  try (intro (g6:Nat);(conv=>cbv))
  cases q with
  | true =>
    conv=>cbv
    exact ⟨_,_,up _ _ ⟨_,k+1,rfl,by rw [y0Y hO (by omega) (by omega)];omega,by omega,rfl,hst rfl⟩,⟨⟨rfl,rfl,rfl,rfl,trivial⟩,trivial,rfl⟩,by omega⟩
  | false =>
    conv=>cbv
    rw [hht rfl]
end Go.Proofs.AM
