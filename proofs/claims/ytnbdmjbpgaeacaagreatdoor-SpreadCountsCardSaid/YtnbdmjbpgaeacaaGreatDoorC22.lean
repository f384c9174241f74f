/- Part 22 of the lemmas: AOq, AOr, AOs, AQcool47, AQcool52, AQoffs118, AQoffs63, AQterms113, AQtnts115, AQtnts61, AQtols112, AQtols57, AGMc. -/
import Derived.Test.YtnbdmjbpgaeacaaGreatDoorC16
import Derived.Test.YtnbdmjbpgaeacaaGreatDoorC15
import Derived.Test.YtnbdmjbpgaeacaaGreatDoorC17
import Derived.Test.YtnbdmjbpgaeacaaGreatDoorC13
import Derived.Test.YtnbdmjbpgaeacaaGreatDoorC18
import Derived.Test.YtnbdmjbpgaeacaaGreatDoorC19
import Derived.Test.YtnbdmjbpgaeacaaGreatDoorC20
import Derived.Test.YtnbdmjbpgaeacaaGreatDoorC21
import Derived.Test.YtnbdmjbpgaeacaaGreatDoorC06
set_option maxRecDepth 100000
set_option maxHeartbeats 8000000
set_option linter.all false
namespace Go.Proofs.AM
open Go Go.Lib Cd
theorem ymlY (R:Ans) (l:List OffV) (hl:l.length<4611686018427387904) (hf:FLs FO l) (h116:∀ o,FO o->R.v 176 [offD o] (.bool (nmB o))):AnsF R c177 [.sl 3 false (l.map offD)] (jI (offsE l)):=by
 obtain ⟨xs,hxs⟩:∃ xs,xs=l.map offD:=⟨_,rfl⟩
 obtain ⟨r,hr0⟩:∃ r,r=offsE l:=⟨_,rfl⟩
 have hcx:CleanL xs:=y8Y (fun _=>⟨rfl,rfl⟩) hxs
 rw [←hxs,←hr0]
 unfold offsE tooE at hr0
 refine y2Y ⟨rfl,by decide⟩ fun O hO V hV=>?_
 subst hV
 have hlen:O .len xs=l.length:=by rw [o_len hO,hxs];simp
 conv=>cbv
 rintro (_|_) h0
 ·replace h0:=f_gtr hO h0
  rw [hlen] at h0
  have hr:r=scanE (upE offE l) l.length:=by rw [hr0,if_neg (by omega)]
  conv=>cbv
  refine y4Y (fun n d=>∃ (i:Int) (k:Nat),d=⟨[(0,.sl 3 false xs),(10,.sl 3 false xs),(11,jI (O .len xs)),(12,jI i)],[],false⟩/\i=k/\k<=l.length/\n=l.length-k/\∀ j,j<k->upE offE l j=0) ⟨_,_,⟨_,0,rfl,rfl,by omega,rfl,by simp⟩,⟨⟨rfl,rfl,rfl,rfl,trivial⟩,trivial,rfl⟩⟩ ?_
  rintro J up n d ⟨i,k,rfl,hi,hk,rfl,hno⟩
  conv=>cbv
  rintro (_|_) h1
  ·replace h1:=f_lss hO h1
   rw [hlen] at h1
   conv=>cbv
   rw [hr,ywY (fun j hj=>hno j (by omega))]
  ·replace h1:=t_lss hO h1
   rw [hlen] at h1
   obtain ⟨y,hy⟩:∃ y,l[k]?=some y:=⟨_,List.getElem?_eq_getElem (by omega)⟩
   have hat:atX xs i (offD y):=y7Y hy hxs hi
   have hg:upE offE l k=_:=y14Y hy
   obtain ⟨e,he⟩:∃ e,e=upE offE l k:=⟨_,rfl⟩
   rw [hg] at he
   rw [←he] at hg
   have hk1:=h116 y (hf.all y (List.mem_of_getElem? hy))
   obtain ⟨q1,hq1⟩:∃ q,q=nmB y:=⟨_,rfl⟩
   unfold offE at he
   rw [←hq1] at hk1 he
   clear hq1
   have htk0:O .subL xs 0 i=(l.take k).map offD:=by rw [y20Y hO,hxs,hi,←List.map_take];simp
   obtain ⟨ts,hts⟩:∃ ts,ts=O .subL xs 0 i:=⟨_,rfl⟩
   have htk:ts=(l.take k).map offD:=hts.trans htk0
   have hlt:O .len ts=k:=by rw [o_len hO,htk];simp;omega
   obtain ⟨w,hw⟩:∃ w,w=y:=⟨_,rfl⟩
   rw [show (fun z=>decide (y=z))=fun z=>decide (w=z) by rw [hw]] at he
   obtain ⟨y1,y2,y3⟩:=y
   conv=>cbv
   refine ⟨_,hat,?_⟩
   conv=>cbv
   intro g4
   cases q1<;>(conv=>cbv)
   all_goals (repeat' (first|(rintro (_|_) h<;>(first|replace h:=ci hO h|replace h:=cs hO h)<;>(dsimp only [CmpI,CmpS] at h)<;>(conv=>cbv))|(refine ⟨_,by assumption,?_⟩;(conv=>cbv))|(refine ⟨_,hat,?_⟩;(conv=>cbv))|(refine And.intro (by first|assumption|exact ⟨by omega⟩|exact ⟨by rw [hlen];omega⟩|exact ⟨rfl⟩|exact ⟨rfl,rfl⟩) ?_)))
   all_goals first
    | (exfalso;omega)
    | exact ⟨_,_,up _ _ ⟨_,k+1,rfl,by rw [y0Y hO (by omega) (by omega)];omega,by omega,rfl,yjY hno (by rw [hg];first|exact he|exact he.symm|(rw [he];rfl)|(rw [he];simp [h];done)|exact h)⟩,⟨⟨rfl,rfl,rfl,rfl,trivial⟩,trivial,rfl⟩,by omega⟩
    | exact (by rw [hr];exact congrArg (D.int .i64) (yfY (by omega) hno (by rw [hg];first|exact he|exact he.symm|(rw [he];rfl)|(rw [he];simp [h];done)|rfl) (by first|decide|exact h)).symm)
    | skip
   rw [←hts]
   conv=>cbv
   refine y4Y (fun n d=>∃ (i2:Int) (k2:Nat),d=⟨[(0,.sl 3 false xs),(10,.sl 3 false xs),(11,jI (O .len xs)),(12,jI i),(4,.ptr 4 g4 0),(22,.sl 3 false ts),(23,jI (O .len ts)),(24,jI i2)],[(4,⟨g4,.rw,.var,[mkS y1,mkS y2,mkS y3]⟩)],false⟩/\i2=k2/\k2<=k/\n=k-k2/\∀ (j:Nat) z,j<k2->l[j]?=some z->(fun z=>decide (w=z)) z=false) ⟨_,_,⟨_,0,rfl,rfl,by omega,rfl,by simp⟩,⟨⟨rfl,rfl,rfl,rfl,rfl,rfl,rfl,rfl,trivial⟩,⟨rfl,trivial⟩,rfl⟩⟩ ?_
   rintro J2 up2 n2 d2 ⟨i2,k2,rfl,hi2,hk2,rfl,hno2⟩
   conv=>cbv
   rintro (_|_) h3
   ·replace h3:=f_lss hO h3
    rw [hlt] at h3
    conv=>cbv
    have ha:=y5bY (p:=fun z=>decide (w=z)) (l:=l) (k:=k) (fun j z hj hz=>hno2 j z (by omega) hz)
    rw [ha] at he
    all_goals first
     | (exfalso;omega)
     | exact ⟨_,_,up _ _ ⟨_,k+1,rfl,by rw [y0Y hO (by omega) (by omega)];omega,by omega,rfl,yjY hno (by rw [hg];first|exact he|exact he.symm|(rw [he];rfl)|(rw [he];simp [h];done)|exact h)⟩,⟨⟨rfl,rfl,rfl,rfl,trivial⟩,trivial,rfl⟩,by omega⟩
     | exact (by rw [hr];exact congrArg (D.int .i64) (yfY (by omega) hno (by rw [hg];first|exact he|exact he.symm|(rw [he];rfl)|(rw [he];simp [h];done)|rfl) (by first|decide|exact h)).symm)
   ·replace h3:=t_lss hO h3
    rw [hlt] at h3
    obtain ⟨z,hz⟩:∃ z,l[k2]?=some z:=⟨_,List.getElem?_eq_getElem (by omega)⟩
    have hat2:atX ts i2 (offD z):=y7Y (l:=l.take k) (by rw [List.getElem?_take,if_pos (by omega)];exact hz) htk hi2
    conv=>cbv
    refine ⟨_,hat2,?_⟩
    conv=>cbv
    intro g6
    conv=>cbv
    intro t ht
    replace ht:=yewY (t:=t) (x:=z) (y:=w) hO (by rw [hw];exact ht)
    replace ht:t=decide (w=z):=ht.trans (yeyY _ _)
    cases t
    ·conv=>cbv
     exact ⟨_,_,up2 _ _ ⟨_,k2+1,rfl,by rw [y0Y hO (by omega) (by omega)];omega,by omega,rfl,y1mY hno2 hz ht.symm⟩,⟨⟨rfl,rfl,rfl,rfl,rfl,rfl,rfl,rfl,trivial⟩,⟨rfl,trivial⟩,rfl⟩,by omega⟩
    ·conv=>cbv
     have ha:=y5cY (p:=fun z=>decide (w=z)) (show k2<k by omega) hz ht.symm
     rw [ha] at he
     all_goals first
      | (exfalso;omega)
      | exact ⟨_,_,up _ _ ⟨_,k+1,rfl,by rw [y0Y hO (by omega) (by omega)];omega,by omega,rfl,yjY hno (by rw [hg];first|exact he|exact he.symm|(rw [he];rfl)|(rw [he];simp [h];done)|exact h)⟩,⟨⟨rfl,rfl,rfl,rfl,trivial⟩,trivial,rfl⟩,by omega⟩
      | exact (by rw [hr];exact congrArg (D.int .i64) (yfY (by omega) hno (by rw [hg];first|exact he|exact he.symm|(rw [he];rfl)|(rw [he];simp [h];done)|rfl) (by first|decide|exact h)).symm)
 ·replace h0:=t_gtr hO h0
  rw [hlen] at h0
  conv=>cbv
  rw [hr0,if_pos (by omega)]
theorem ymmY (R:Ans) (l:List OffV) (hl:l.length<4611686018427387904) (hf:FLs FO l) (h55:∀ l:List Str,FL l->R.v 134 [.sl 1 false (l.map mkS)] (.bool (l.all nameB))) (h54:∀ (b:Bool) (e:Int),R.v 133 [.bool b,jI e] (jI (wantI b e))) (h53:∀ l:List Int,l.length<4611686018427387904->R.v 132 [.sl 1 false (l.map iD)] (jI (y3Y l))) (h127:∀ (l:List OffV) (x:OffV),l.length<4611686018427387904->R.v 245 [.sl 3 false (l.map offD),offD x] (.bool (l.any fun y=>decide (x=y)))):AnsF R c202 [.sl 3 false (l.map offD)] (jI (offsE l)):=by
 obtain ⟨xs,hxs⟩:∃ xs,xs=l.map offD:=⟨_,rfl⟩
 obtain ⟨r,hr0⟩:∃ r,r=offsE l:=⟨_,rfl⟩
 have hcx:CleanL xs:=y8Y (fun _=>⟨rfl,rfl⟩) hxs
 rw [←hxs,←hr0]
 unfold offsE tooE at hr0
 refine y2Y ⟨rfl,by decide⟩ fun O hO V hV=>?_
 subst hV
 have hlen:O .len xs=l.length:=by rw [o_len hO,hxs];simp
 conv=>cbv
 rintro (_|_) h0
 ·replace h0:=f_gtr hO h0
  rw [hlen] at h0
  have hr:r=scanE (upE offE l) l.length:=by rw [hr0,if_neg (by omega)]
  conv=>cbv
  refine y4Y (fun n d=>∃ (i:Int) (k:Nat),d=⟨[(0,.sl 3 false xs),(9,.sl 3 false xs),(10,jI (O .len xs)),(11,jI i)],[],false⟩/\i=k/\k<=l.length/\n=l.length-k/\∀ j,j<k->upE offE l j=0) ⟨_,_,⟨_,0,rfl,rfl,by omega,rfl,by simp⟩,⟨⟨rfl,rfl,rfl,rfl,trivial⟩,trivial,rfl⟩⟩ ?_
  rintro J up n d ⟨i,k,rfl,hi,hk,rfl,hno⟩
  conv=>cbv
  rintro (_|_) h1
  ·replace h1:=f_lss hO h1
   rw [hlen] at h1
   conv=>cbv
   rw [hr,ywY (fun j hj=>hno j (by omega))]
  ·replace h1:=t_lss hO h1
   rw [hlen] at h1
   obtain ⟨y,hy⟩:∃ y,l[k]?=some y:=⟨_,List.getElem?_eq_getElem (by omega)⟩
   have hat:atX xs i (offD y):=y7Y hy hxs hi
   have hg:upE offE l k=_:=y14Y hy
   obtain ⟨e,he⟩:∃ e,e=upE offE l k:=⟨_,rfl⟩
   rw [hg] at he
   rw [←he] at hg
   have hk1:=h55 [y.t,y.z,y.k] ⟨by simp,by have:=hf.all y (List.mem_of_getElem? hy);simpa using ⟨this.t,this.z,this.k⟩⟩
   have hk3:=h127 (l.take k) y (by simp;omega)
   obtain ⟨q1,hq1⟩:∃ q,q=nmB y:=⟨_,rfl⟩
   have hq1':([y.t,y.z,y.k].all nameB)=q1:=by rw [hq1];simp [nmB]
   obtain ⟨q3,hq3⟩:∃ q,q=(l.take k).any fun z=>decide (y=z):=⟨_,rfl⟩
   unfold offE at he
   rw [hq1'] at hk1
   rw [←hq1] at he
   rw [←hq3] at hk3 he
   have htk:O .subL xs 0 i=(l.take k).map offD:=by rw [y20Y hO,hxs,hi,←List.map_take];simp
   have hct:CleanL (O .subL xs 0 i):=y8Y (fun _=>⟨rfl,rfl⟩) htk
   rw [←htk] at hk3
   clear hq1 hq3 hq1'
   have w1:=h54 q1 7
   have w2:=h54 (!q3) 6
   have f1:=h53 [wantI q1 7,wantI (!q3) 6] (by simp)
   obtain ⟨yt,yz,yk⟩:=y
   simp only [List.map] at he hk1 f1
   conv=>cbv
   refine ⟨_,hat,?_⟩
   conv=>cbv
   intro g4
   cases q1<;>cases q3<;>simp only [Bool.not_true,Bool.not_false,y1dY,y4dY] at w1 w2 f1<;>(conv=>cbv)
   all_goals (repeat' (first|(rintro (_|_) h<;>(first|replace h:=ci hO h|replace h:=cs hO h)<;>(dsimp only [CmpI,CmpS] at h)<;>(conv=>cbv))|(refine ⟨_,by assumption,?_⟩;(conv=>cbv))|(refine And.intro (by first|assumption|exact ⟨by omega⟩|exact ⟨by rw [hlen];omega⟩|exact ⟨rfl⟩|exact ⟨rfl,rfl⟩) ?_)))
   all_goals first
    | (exfalso;omega)
    | exact ⟨_,_,up _ _ ⟨_,k+1,rfl,by rw [y0Y hO (by omega) (by omega)];omega,by omega,rfl,yjY hno (by rw [hg];first|exact he|exact he.symm|(rw [he];rfl)|(rw [he];simp [h];done)|exact h)⟩,⟨⟨rfl,rfl,rfl,rfl,trivial⟩,trivial,rfl⟩,by omega⟩
    | exact (by rw [hr];exact congrArg (D.int .i64) (yfY (by omega) hno (by rw [hg];first|exact he|exact he.symm|(rw [he];rfl)|(rw [he];simp [h];done)|rfl) (by first|decide|exact h)).symm)
 ·replace h0:=t_gtr hO h0
  rw [hlen] at h0
  conv=>cbv
  rw [hr0,if_pos (by omega)]
theorem ymnY (R:Ans) (l:List LabV) (hl:l.length<4611686018427387904) (hf:FLs FLab l) (h110:∀ s,SL s->R.v 65 [mkS s] (.bool (nameB s))):AnsF R c69 [.sl 2 false (l.map labD)] (jI (y16Y l)):=by
 obtain ⟨xs,hxs⟩:∃ xs,xs=l.map labD:=⟨_,rfl⟩
 obtain ⟨r,hr⟩:∃ r,r=y16Y l:=⟨_,rfl⟩
 have hcx:CleanL xs:=y8Y (fun _=>⟨rfl,rfl⟩) hxs
 rw [←hxs,←hr]
 unfold y16Y at hr
 refine y2Y ⟨rfl,by decide⟩ fun O hO V hV=>?_
 subst hV
 have hlen:O .len xs=l.length:=by rw [o_len hO,hxs];simp
 conv=>cbv
 refine y4Y (fun n d=>∃ (i:Int) (k:Nat),d=⟨[(5,.sl 2 false xs),(6,jI (O .len xs)),(7,jI i)],[],false⟩/\i=k/\k<=l.length/\n=l.length-k/\∀ j,j<k->atE (fun x=>termE x.k x.v) l j=0) ⟨_,_,⟨_,0,rfl,rfl,by omega,rfl,by simp⟩,⟨⟨rfl,rfl,rfl,trivial⟩,trivial,rfl⟩⟩ ?_
 rintro J up n d ⟨i,k,rfl,hi,hk,rfl,hno⟩
 conv=>cbv
 rintro (_|_) h1
 ·replace h1:=f_lss hO h1
  rw [hlen] at h1
  conv=>cbv
  rw [hr,ywY (fun j hj=>hno j (by omega))]
 ·replace h1:=t_lss hO h1
  rw [hlen] at h1
  obtain ⟨y,hy⟩:∃ y,l[k]?=some y:=⟨_,List.getElem?_eq_getElem (by omega)⟩
  have hat:atX xs i (labD y):=y7Y hy hxs hi
  have hg:atE (fun x=>termE x.k x.v) l k=_:=y2pY hy
  obtain ⟨e,he⟩:∃ e,e=atE (fun x=>termE x.k x.v) l k:=⟨_,rfl⟩
  rw [hg] at he
  rw [←he] at hg
  have hk1:=h110 y.v (hf.all y (List.mem_of_getElem? hy)).v
  obtain ⟨q1,hq1⟩:∃ q,q=nameB y.v:=⟨_,rfl⟩
  unfold termE zoneS hostS at he
  rw [←hq1] at hk1 he
  clear hq1
  obtain ⟨y1,y2⟩:=y
  try simp only at he
  conv=>cbv
  refine ⟨_,hat,?_⟩
  conv=>cbv
  intro g4
  cases q1<;>(conv=>cbv)
  all_goals (repeat' (first|(rintro (_|_) h<;>(first|replace h:=ci hO h|replace h:=cs hO h)<;>(dsimp only [CmpI,CmpS] at h)<;>(try simp [h] at he)<;>(conv=>cbv))|(refine ⟨_,by assumption,?_⟩;(conv=>cbv))|(refine ⟨_,hat,?_⟩;(conv=>cbv))|(refine And.intro (by first|assumption|exact ⟨by omega⟩|exact ⟨by rw [hlen];omega⟩|exact ⟨rfl⟩|exact ⟨rfl,rfl⟩) ?_)))
  all_goals first
   | (exfalso;omega)
   | exact ⟨_,_,up _ _ ⟨_,k+1,rfl,by rw [y0Y hO (by omega) (by omega)];omega,by omega,rfl,yjY hno (by rw [hg];first|exact he|exact he.symm|(rw [he];rfl)|(rw [he];simp [h];done)|exact h)⟩,⟨⟨rfl,rfl,rfl,trivial⟩,trivial,rfl⟩,by omega⟩
   | exact (by rw [hr];exact congrArg (D.int .i64) (yfY (by omega) hno (by rw [hg];first|exact he|exact he.symm|(rw [he];rfl)|(rw [he];simp [h];done)|rfl) (by first|decide|exact h)).symm)
theorem ymoY (R:Ans) (l:List LabV) (hl:l.length<4611686018427387904) (hf:FLs FLab l) (h110:∀ s,SL s->R.v 65 [mkS s] (.bool (nameB s))) (h193:∀ s,SL s->R.v 118 [mkS s] (.bool (yiY s))):AnsF R c120 [.sl 2 false (l.map labD)] (jI (tntsE l)):=by
 obtain ⟨xs,hxs⟩:∃ xs,xs=l.map labD:=⟨_,rfl⟩
 obtain ⟨r,hr0⟩:∃ r,r=tntsE l:=⟨_,rfl⟩
 have hcx:CleanL xs:=y8Y (fun _=>⟨rfl,rfl⟩) hxs
 rw [←hxs,←hr0]
 unfold tntsE tooE at hr0
 refine y2Y ⟨rfl,by decide⟩ fun O hO V hV=>?_
 subst hV
 have hlen:O .len xs=l.length:=by rw [o_len hO,hxs];simp
 conv=>cbv
 rintro (_|_) h0
 ·replace h0:=f_gtr hO h0
  rw [hlen] at h0
  have hr:r=scanE (upE tntE l) l.length:=by rw [hr0,if_neg (by omega)]
  conv=>cbv
  refine y4Y (fun n d=>∃ (i:Int) (k:Nat),d=⟨[(0,.sl 2 false xs),(3,jI i)],[],false⟩/\i=k/\k<=l.length/\n=l.length-k/\∀ j,j<k->upE tntE l j=0) ⟨_,_,⟨_,0,rfl,rfl,by omega,rfl,by simp⟩,⟨⟨rfl,rfl,trivial⟩,trivial,rfl⟩⟩ ?_
  rintro J up n d ⟨i,k,rfl,hi,hk,rfl,hno⟩
  conv=>cbv
  rintro (_|_) h1
  ·replace h1:=f_lss hO h1
   rw [hlen] at h1
   conv=>cbv
   rw [hr,ywY (fun j hj=>hno j (by omega))]
  ·replace h1:=t_lss hO h1
   rw [hlen] at h1
   obtain ⟨y,hy⟩:∃ y,l[k]?=some y:=⟨_,List.getElem?_eq_getElem (by omega)⟩
   have hat:atX xs i (labD y):=y7Y hy hxs hi
   have hg:upE tntE l k=_:=y14Y hy
   obtain ⟨e,he⟩:∃ e,e=upE tntE l k:=⟨_,rfl⟩
   rw [hg] at he
   rw [←he] at hg
   have hk1:=h110 y.k (hf.all y (List.mem_of_getElem? hy)).k
   have hk2:=h193 y.v (hf.all y (List.mem_of_getElem? hy)).v
   obtain ⟨q1,hq1⟩:∃ q,q=nameB y.k:=⟨_,rfl⟩
   obtain ⟨q2,hq2⟩:∃ q,q=yiY y.v:=⟨_,rfl⟩
   unfold tntE at he
   rw [←hq1] at hk1 he
   rw [←hq2] at hk2 he
   clear hq1 hq2
   obtain ⟨yk,yv⟩:=y
   simp only at he
   conv=>cbv
   refine ⟨_,hat,?_⟩
   conv=>cbv
   cases q1<;>cases q2<;>(conv=>cbv)
   all_goals (repeat' (first|(rintro (_|_) h<;>(first|replace h:=ci hO h|replace h:=cs hO h)<;>(dsimp only [CmpI,CmpS] at h)<;>(conv=>cbv))|(refine ⟨_,by assumption,?_⟩;(conv=>cbv))|(refine ⟨_,hat,?_⟩;(conv=>cbv))|(refine And.intro (by first|assumption|exact ⟨by omega⟩|exact ⟨by rw [hlen];omega⟩|exact ⟨rfl⟩|exact ⟨rfl,rfl⟩) ?_)))
   all_goals first
    | (exfalso;omega)
    | exact ⟨_,_,up _ _ ⟨_,k+1,rfl,by rw [y0Y hO (by omega) (by omega)];omega,by omega,rfl,yjY hno (by rw [hg];first|exact he|exact he.symm|(rw [he];rfl)|(rw [he];simp [h];done)|exact h)⟩,⟨⟨rfl,rfl,trivial⟩,trivial,rfl⟩,by omega⟩
    | exact (by rw [hr];exact congrArg (D.int .i64) (yfY (by omega) hno (by rw [hg];first|exact he|exact he.symm|(rw [he];rfl)|(rw [he];simp [h];done)|rfl) (by first|decide|exact h)).symm)
    | skip
   all_goals
    refine y4Y (fun n d=>∃ (i2:Int) (k2:Nat),d=⟨[(0,.sl 2 false xs),(3,jI i),(6,jI i2)],[],false⟩/\i2=k2/\k2<=k/\n=k-k2/\∀ (j:Nat) z,j<k2->l[j]?=some z->(fun z=>decide (z.k=yk)) z=false) ⟨_,_,⟨_,0,rfl,rfl,by omega,rfl,by simp⟩,⟨⟨rfl,rfl,rfl,trivial⟩,trivial,rfl⟩⟩ ?_
    rintro J2 up2 n2 d2 ⟨i2,k2,rfl,hi2,hk2,rfl,hno2⟩
    conv=>cbv
    rintro (_|_) h3
    ·replace h3:=f_lss hO h3
     conv=>cbv
     have ha:=y5bY (p:=fun z=>decide (z.k=yk)) (l:=l) (k:=k) (fun j z hj hz=>hno2 j z (by omega) hz)
     rw [ha] at he
     all_goals first
      | (exfalso;omega)
      | exact ⟨_,_,up _ _ ⟨_,k+1,rfl,by rw [y0Y hO (by omega) (by omega)];omega,by omega,rfl,yjY hno (by rw [hg];first|exact he|exact he.symm|(rw [he];rfl)|(rw [he];simp [h];done)|exact h)⟩,⟨⟨rfl,rfl,trivial⟩,trivial,rfl⟩,by omega⟩
      | exact (by rw [hr];exact congrArg (D.int .i64) (yfY (by omega) hno (by rw [hg];first|exact he|exact he.symm|(rw [he];rfl)|(rw [he];simp [h];done)|rfl) (by first|decide|exact h)).symm)
    ·replace h3:=t_lss hO h3
     obtain ⟨z,hz⟩:∃ z,l[k2]?=some z:=⟨_,List.getElem?_eq_getElem (by omega)⟩
     have hat2:atX xs i2 (labD z):=y7Y hz hxs hi2
     conv=>cbv
     refine ⟨_,hat2,?_⟩
     conv=>cbv
     refine ⟨_,hat,?_⟩
     conv=>cbv
     rintro (_|_) ht
     ·replace ht:z.k≠yk:=y3iY hO ht
      conv=>cbv
      exact ⟨_,_,up2 _ _ ⟨_,k2+1,rfl,by rw [y0Y hO (by omega) (by omega)];omega,by omega,rfl,y1mY hno2 hz (by simpa using ht)⟩,⟨⟨rfl,rfl,rfl,trivial⟩,trivial,rfl⟩,by omega⟩
     ·replace ht:z.k=yk:=y3hY hO ht
      conv=>cbv
      have ha:=y5cY (p:=fun z=>decide (z.k=yk)) (show k2<k by omega) hz (by simpa using ht)
      rw [ha] at he
      all_goals first
       | (exfalso;omega)
       | exact ⟨_,_,up _ _ ⟨_,k+1,rfl,by rw [y0Y hO (by omega) (by omega)];omega,by omega,rfl,yjY hno (by rw [hg];first|exact he|exact he.symm|(rw [he];rfl)|(rw [he];simp [h];done)|exact h)⟩,⟨⟨rfl,rfl,trivial⟩,trivial,rfl⟩,by omega⟩
       | exact (by rw [hr];exact congrArg (D.int .i64) (yfY (by omega) hno (by rw [hg];first|exact he|exact he.symm|(rw [he];rfl)|(rw [he];simp [h];done)|rfl) (by first|decide|exact h)).symm)
 ·replace h0:=t_gtr hO h0
  rw [hlen] at h0
  conv=>cbv
  rw [hr0,if_pos (by omega)]
theorem ympY (R:Ans) (l:List LabV) (hl:l.length<4611686018427387904) (hf:FLs FLab l) (h89:∀ s,SL s->R.v 184 [mkS s] (.bool (nameB s))) (h90:∀ s,SL s->R.v 187 [mkS s] (.bool (yiY s))) (h125:∀ (l:List LabV) (x:LabV),l.length<4611686018427387904->R.v 195 [.sl 2 false (l.map labD),.fn 244 [] [.vptr (labD x) 0]] (.bool (l.any fun y=>decide (y.k=x.k)))):AnsF R c201 [.sl 2 false (l.map labD)] (jI (tntsE l)):=by
 obtain ⟨xs,hxs⟩:∃ xs,xs=l.map labD:=⟨_,rfl⟩
 obtain ⟨r,hr0⟩:∃ r,r=tntsE l:=⟨_,rfl⟩
 have hcx:CleanL xs:=y8Y (fun _=>⟨rfl,rfl⟩) hxs
 rw [←hxs,←hr0]
 unfold tntsE tooE at hr0
 refine y2Y ⟨rfl,by decide⟩ fun O hO V hV=>?_
 subst hV
 have hlen:O .len xs=l.length:=by rw [o_len hO,hxs];simp
 conv=>cbv
 rintro (_|_) h0
 ·replace h0:=f_gtr hO h0
  rw [hlen] at h0
  have hr:r=scanE (upE tntE l) l.length:=by rw [hr0,if_neg (by omega)]
  conv=>cbv
  refine y4Y (fun n d=>∃ (i:Int) (k:Nat),d=⟨[(0,.sl 2 false xs),(8,.sl 2 false xs),(9,jI (O .len xs)),(10,jI i)],[],false⟩/\i=k/\k<=l.length/\n=l.length-k/\∀ j,j<k->upE tntE l j=0) ⟨_,_,⟨_,0,rfl,rfl,by omega,rfl,by simp⟩,⟨⟨rfl,rfl,rfl,rfl,trivial⟩,trivial,rfl⟩⟩ ?_
  rintro J up n d ⟨i,k,rfl,hi,hk,rfl,hno⟩
  conv=>cbv
  rintro (_|_) h1
  ·replace h1:=f_lss hO h1
   rw [hlen] at h1
   conv=>cbv
   rw [hr,ywY (fun j hj=>hno j (by omega))]
  ·replace h1:=t_lss hO h1
   rw [hlen] at h1
   obtain ⟨y,hy⟩:∃ y,l[k]?=some y:=⟨_,List.getElem?_eq_getElem (by omega)⟩
   have hat:atX xs i (labD y):=y7Y hy hxs hi
   have hg:upE tntE l k=_:=y14Y hy
   obtain ⟨e,he⟩:∃ e,e=upE tntE l k:=⟨_,rfl⟩
   rw [hg] at he
   rw [←he] at hg
   have hk1:=h89 y.k (hf.all y (List.mem_of_getElem? hy)).k
   have hk2:=h90 y.v (hf.all y (List.mem_of_getElem? hy)).v
   have hk3:=h125 (l.take k) y (by simp;omega)
   obtain ⟨q1,hq1⟩:∃ q,q=nameB y.k:=⟨_,rfl⟩
   obtain ⟨q2,hq2⟩:∃ q,q=yiY y.v:=⟨_,rfl⟩
   obtain ⟨q3,hq3⟩:∃ q,q=(l.take k).any fun z=>decide (z.k=y.k):=⟨_,rfl⟩
   unfold tntE at he
   rw [←hq1] at hk1 he
   rw [←hq2] at hk2 he
   rw [←hq3] at hk3 he
   have htk:O .subL xs 0 i=(l.take k).map labD:=by rw [y20Y hO,hxs,hi,←List.map_take];simp
   have hct:CleanL (O .subL xs 0 i):=y8Y (fun _=>⟨rfl,rfl⟩) htk
   rw [←htk] at hk3
   clear hq1 hq2 hq3
   obtain ⟨yk,yv⟩:=y
   conv=>cbv
   refine ⟨_,hat,?_⟩
   conv=>cbv
   intro g4
   cases q1<;>cases q2<;>cases q3<;>(conv=>cbv)
   all_goals (repeat' (first|(rintro (_|_) h<;>(first|replace h:=ci hO h|replace h:=cs hO h)<;>(dsimp only [CmpI,CmpS] at h)<;>(conv=>cbv))|(refine ⟨_,by assumption,?_⟩;(conv=>cbv))|(refine And.intro (by first|assumption|exact ⟨by omega⟩|exact ⟨by rw [hlen];omega⟩|exact ⟨rfl⟩|exact ⟨rfl,rfl⟩) ?_)))
   all_goals first
    | (exfalso;omega)
    | exact ⟨_,_,up _ _ ⟨_,k+1,rfl,by rw [y0Y hO (by omega) (by omega)];omega,by omega,rfl,yjY hno (by rw [hg];first|exact he|exact he.symm|(rw [he];rfl)|(rw [he];simp [h];done)|exact h)⟩,⟨⟨rfl,rfl,rfl,rfl,trivial⟩,trivial,rfl⟩,by omega⟩
    | exact (by rw [hr];exact congrArg (D.int .i64) (yfY (by omega) hno (by rw [hg];first|exact he|exact he.symm|(rw [he];rfl)|(rw [he];simp [h];done)|rfl) (by first|decide|exact h)).symm)
 ·replace h0:=t_gtr hO h0
  rw [hlen] at h0
  conv=>cbv
  rw [hr0,if_pos (by omega)]
theorem ymqY (R:Ans) (l:List TolV) (hl:l.length<4611686018427387904) (hf:FLs FTol l) (h110:∀ s,SL s->R.v 65 [mkS s] (.bool (nameB s))) (h193:∀ s,SL s->R.v 118 [mkS s] (.bool (yiY s))):AnsF R c68 [.sl 3 false (l.map tolD)] (jI (tolsE l)):=by
 obtain ⟨xs,hxs⟩:∃ xs,xs=l.map tolD:=⟨_,rfl⟩
 obtain ⟨r,hr0⟩:∃ r,r=tolsE l:=⟨_,rfl⟩
 have hcx:CleanL xs:=y8Y (fun _=>⟨rfl,rfl⟩) hxs
 rw [←hxs,←hr0]
 unfold tolsE tooE at hr0
 refine y2Y ⟨rfl,by decide⟩ fun O hO V hV=>?_
 subst hV
 have hlen:O .len xs=l.length:=by rw [o_len hO,hxs];simp
 conv=>cbv
 rintro (_|_) h0
 ·replace h0:=f_gtr hO h0
  rw [hlen] at h0
  have hr:r=scanE (upE tolE l) l.length:=by rw [hr0,if_neg (by omega)]
  conv=>cbv
  refine y4Y (fun n d=>∃ (i:Int) (k:Nat),d=⟨[(0,.sl 3 false xs),(3,jI i)],[],false⟩/\i=k/\k<=l.length/\n=l.length-k/\∀ j,j<k->upE tolE l j=0) ⟨_,_,⟨_,0,rfl,rfl,by omega,rfl,by simp⟩,⟨⟨rfl,rfl,trivial⟩,trivial,rfl⟩⟩ ?_
  rintro J up n d ⟨i,k,rfl,hi,hk,rfl,hno⟩
  conv=>cbv
  rintro (_|_) h1
  ·replace h1:=f_lss hO h1
   rw [hlen] at h1
   conv=>cbv
   rw [hr,ywY (fun j hj=>hno j (by omega))]
  ·replace h1:=t_lss hO h1
   rw [hlen] at h1
   obtain ⟨y,hy⟩:∃ y,l[k]?=some y:=⟨_,List.getElem?_eq_getElem (by omega)⟩
   have hat:atX xs i (tolD y):=y7Y hy hxs hi
   have hg:upE tolE l k=_:=y14Y hy
   obtain ⟨e,he⟩:∃ e,e=upE tolE l k:=⟨_,rfl⟩
   rw [hg] at he
   rw [←he] at hg
   have hk1:=h110 y.k (hf.all y (List.mem_of_getElem? hy)).k
   have hk2:=h193 y.v (hf.all y (List.mem_of_getElem? hy)).v
   obtain ⟨q1,hq1⟩:∃ q,q=nameB y.k:=⟨_,rfl⟩
   obtain ⟨q2,hq2⟩:∃ q,q=yiY y.v:=⟨_,rfl⟩
   unfold tolE at he
   rw [←hq1] at hk1 he
   rw [←hq2] at hk2 he
   clear hq1 hq2
   obtain ⟨w,hw⟩:∃ w,w=y:=⟨_,rfl⟩
   rw [show (fun z=>decide (y=z))=fun z=>decide (w=z) by rw [hw]] at he
   obtain ⟨yk,yv,yy⟩:=y
   simp only at he
   conv=>cbv
   refine ⟨_,hat,?_⟩
   conv=>cbv
   cases yy<;>cases q1<;>cases q2<;>(conv=>cbv)
   all_goals (repeat' (first|(rintro (_|_) h<;>(first|replace h:=ci hO h|replace h:=cs hO h)<;>(dsimp only [CmpI,CmpS] at h)<;>(conv=>cbv))|(refine ⟨_,by assumption,?_⟩;(conv=>cbv))|(refine ⟨_,hat,?_⟩;(conv=>cbv))|(refine And.intro (by first|assumption|exact ⟨by omega⟩|exact ⟨by rw [hlen];omega⟩|exact ⟨rfl⟩|exact ⟨rfl,rfl⟩) ?_)))
   all_goals first
    | (exfalso;omega)
    | exact ⟨_,_,up _ _ ⟨_,k+1,rfl,by rw [y0Y hO (by omega) (by omega)];omega,by omega,rfl,yjY hno (by rw [hg];first|exact he|exact he.symm|(rw [he];rfl)|(rw [he];simp [h];done)|exact h)⟩,⟨⟨rfl,rfl,trivial⟩,trivial,rfl⟩,by omega⟩
    | exact (by rw [hr];exact congrArg (D.int .i64) (yfY (by omega) hno (by rw [hg];first|exact he|exact he.symm|(rw [he];rfl)|(rw [he];simp [h];done)|rfl) (by first|decide|exact h)).symm)
    | skip
   all_goals
    refine y4Y (fun n d=>∃ (i2:Int) (k2:Nat),d=⟨[(0,.sl 3 false xs),(3,jI i),(6,jI i2)],[],false⟩/\i2=k2/\k2<=k/\n=k-k2/\∀ (j:Nat) z,j<k2->l[j]?=some z->(fun z=>decide (w=z)) z=false) ⟨_,_,⟨_,0,rfl,rfl,by omega,rfl,by simp⟩,⟨⟨rfl,rfl,rfl,trivial⟩,trivial,rfl⟩⟩ ?_
    rintro J2 up2 n2 d2 ⟨i2,k2,rfl,hi2,hk2,rfl,hno2⟩
    conv=>cbv
    rintro (_|_) h3
    ·replace h3:=f_lss hO h3
     conv=>cbv
     have ha:=y5bY (p:=fun z=>decide (w=z)) (l:=l) (k:=k) (fun j z hj hz=>hno2 j z (by omega) hz)
     rw [ha] at he
     all_goals first
      | (exfalso;omega)
      | exact ⟨_,_,up _ _ ⟨_,k+1,rfl,by rw [y0Y hO (by omega) (by omega)];omega,by omega,rfl,yjY hno (by rw [hg];first|exact he|exact he.symm|(rw [he];rfl)|(rw [he];simp [h];done)|exact h)⟩,⟨⟨rfl,rfl,trivial⟩,trivial,rfl⟩,by omega⟩
      | exact (by rw [hr];exact congrArg (D.int .i64) (yfY (by omega) hno (by rw [hg];first|exact he|exact he.symm|(rw [he];rfl)|(rw [he];simp [h];done)|rfl) (by first|decide|exact h)).symm)
    ·replace h3:=t_lss hO h3
     obtain ⟨z,hz⟩:∃ z,l[k2]?=some z:=⟨_,List.getElem?_eq_getElem (by omega)⟩
     have hat2:atX xs i2 (tolD z):=y7Y hz hxs hi2
     conv=>cbv
     refine ⟨_,hat2,?_⟩
     conv=>cbv
     refine ⟨_,hat,?_⟩
     conv=>cbv
     intro t ht
     replace ht:=yexY (t:=t) (x:=z) (y:=w) hO (by rw [hw];exact ht)
     replace ht:t=decide (w=z):=ht.trans (yeyY _ _)
     cases t
     ·conv=>cbv
      exact ⟨_,_,up2 _ _ ⟨_,k2+1,rfl,by rw [y0Y hO (by omega) (by omega)];omega,by omega,rfl,y1mY hno2 hz ht.symm⟩,⟨⟨rfl,rfl,rfl,trivial⟩,trivial,rfl⟩,by omega⟩
     ·conv=>cbv
      have ha:=y5cY (p:=fun z=>decide (w=z)) (show k2<k by omega) hz ht.symm
      rw [ha] at he
      all_goals first
       | (exfalso;omega)
       | exact ⟨_,_,up _ _ ⟨_,k+1,rfl,by rw [y0Y hO (by omega) (by omega)];omega,by omega,rfl,yjY hno (by rw [hg];first|exact he|exact he.symm|(rw [he];rfl)|(rw [he];simp [h];done)|exact h)⟩,⟨⟨rfl,rfl,trivial⟩,trivial,rfl⟩,by omega⟩
       | exact (by rw [hr];exact congrArg (D.int .i64) (yfY (by omega) hno (by rw [hg];first|exact he|exact he.symm|(rw [he];rfl)|(rw [he];simp [h];done)|rfl) (by first|decide|exact h)).symm)
 ·replace h0:=t_gtr hO h0
  rw [hlen] at h0
  conv=>cbv
  rw [hr0,if_pos (by omega)]
theorem ymrY (R:Ans) (l:List TolV) (hl:l.length<4611686018427387904) (hf:FLs FTol l) (h89:∀ s,SL s->R.v 184 [mkS s] (.bool (nameB s))) (h90:∀ s,SL s->R.v 187 [mkS s] (.bool (yiY s))) (h123:∀ (l:List TolV) (x:TolV),l.length<4611686018427387904->R.v 188 [.sl 3 false (l.map tolD),tolD x] (.bool (l.any fun y=>decide (x=y)))):AnsF R c137 [.sl 3 false (l.map tolD)] (jI (tolsE l)):=by
 obtain ⟨xs,hxs⟩:∃ xs,xs=l.map tolD:=⟨_,rfl⟩
 obtain ⟨r,hr0⟩:∃ r,r=tolsE l:=⟨_,rfl⟩
 have hcx:CleanL xs:=y8Y (fun _=>⟨rfl,rfl⟩) hxs
 rw [←hxs,←hr0]
 unfold tolsE tooE at hr0
 refine y2Y ⟨rfl,by decide⟩ fun O hO V hV=>?_
 subst hV
 have hlen:O .len xs=l.length:=by rw [o_len hO,hxs];simp
 conv=>cbv
 rintro (_|_) h0
 ·replace h0:=f_gtr hO h0
  rw [hlen] at h0
  have hr:r=scanE (upE tolE l) l.length:=by rw [hr0,if_neg (by omega)]
  conv=>cbv
  refine y4Y (fun n d=>∃ (i:Int) (k:Nat),d=⟨[(0,.sl 3 false xs),(8,.sl 3 false xs),(9,jI (O .len xs)),(10,jI i)],[],false⟩/\i=k/\k<=l.length/\n=l.length-k/\∀ j,j<k->upE tolE l j=0) ⟨_,_,⟨_,0,rfl,rfl,by omega,rfl,by simp⟩,⟨⟨rfl,rfl,rfl,rfl,trivial⟩,trivial,rfl⟩⟩ ?_
  rintro J up n d ⟨i,k,rfl,hi,hk,rfl,hno⟩
  conv=>cbv
  rintro (_|_) h1
  ·replace h1:=f_lss hO h1
   rw [hlen] at h1
   conv=>cbv
   rw [hr,ywY (fun j hj=>hno j (by omega))]
  ·replace h1:=t_lss hO h1
   rw [hlen] at h1
   obtain ⟨y,hy⟩:∃ y,l[k]?=some y:=⟨_,List.getElem?_eq_getElem (by omega)⟩
   have hat:atX xs i (tolD y):=y7Y hy hxs hi
   have hg:upE tolE l k=_:=y14Y hy
   obtain ⟨e,he⟩:∃ e,e=upE tolE l k:=⟨_,rfl⟩
   rw [hg] at he
   rw [←he] at hg
   have hk1:=h89 y.k (hf.all y (List.mem_of_getElem? hy)).k
   have hk2:=h90 y.v (hf.all y (List.mem_of_getElem? hy)).v
   have hk3:=h123 (l.take k) y (by simp;omega)
   obtain ⟨q1,hq1⟩:∃ q,q=nameB y.k:=⟨_,rfl⟩
   obtain ⟨q2,hq2⟩:∃ q,q=yiY y.v:=⟨_,rfl⟩
   obtain ⟨q3,hq3⟩:∃ q,q=(l.take k).any fun z=>decide (y=z):=⟨_,rfl⟩
   unfold tolE at he
   rw [←hq1] at hk1 he
   rw [←hq2] at hk2 he
   rw [←hq3] at hk3 he
   have htk:O .subL xs 0 i=(l.take k).map tolD:=by rw [y20Y hO,hxs,hi,←List.map_take];simp
   have hct:CleanL (O .subL xs 0 i):=y8Y (fun _=>⟨rfl,rfl⟩) htk
   rw [←htk] at hk3
   clear hq1 hq2 hq3
   obtain ⟨yk,yv,yy⟩:=y
   simp only at he
   conv=>cbv
   refine ⟨_,hat,?_⟩
   conv=>cbv
   intro g4
   cases yy<;>cases q1<;>cases q2<;>cases q3<;>(conv=>cbv)
   all_goals (repeat' (first|(rintro (_|_) h<;>(first|replace h:=ci hO h|replace h:=cs hO h)<;>(dsimp only [CmpI,CmpS] at h)<;>(conv=>cbv))|(refine ⟨_,by assumption,?_⟩;(conv=>cbv))|(refine And.intro (by first|assumption|exact ⟨by omega⟩|exact ⟨by rw [hlen];omega⟩|exact ⟨rfl⟩|exact ⟨rfl,rfl⟩) ?_)))
   all_goals first
    | (exfalso;omega)
    | exact ⟨_,_,up _ _ ⟨_,k+1,rfl,by rw [y0Y hO (by omega) (by omega)];omega,by omega,rfl,yjY hno (by rw [hg];first|exact he|exact he.symm|(rw [he];rfl)|(rw [he];simp [h];done)|exact h)⟩,⟨⟨rfl,rfl,rfl,rfl,trivial⟩,trivial,rfl⟩,by omega⟩
    | exact (by rw [hr];exact congrArg (D.int .i64) (yfY (by omega) hno (by rw [hg];first|exact he|exact he.symm|(rw [he];rfl)|(rw [he];simp [h];done)|rfl) (by first|decide|exact h)).symm)
 ·replace h0:=t_gtr hO h0
  rw [hlen] at h0
  conv=>cbv
  rw [hr0,if_pos (by omega)]
theorem m62 (n:Int):PR3.v 185 [jI n] (jI (amtE n)):=pr3 E185 Tryz.func185 T185 (yloY _ n)
theorem m117 (n:Int):PR3.v 116 [jI n] (jI (amtE n)):=pr3 E116 Tryz.func116 T116 (ylpY _ n)
theorem m111 (a b:Int):PR3.v 66 [.agg [jI a,jI b]] (jI (amtsE a b)):=pr3 E66 Tryz.func66 T66 (ylqY _ a b m117)
theorem m56 (a b:Int):PR3.v 135 [.agg [jI a,jI b]] (jI (amtsE a b)):=pr3 E135 Tryz.func135 T135 (ym3Y _ a b m62)
theorem m54 (b:Bool) (e:Int):PR3.v 133 [.bool b,jI e] (jI (wantI b e)):=pr3 E133 Tryz.func133 T133 (ylrY _ b e)
theorem m53 (l:List Int) (hl:l.length<4611686018427387904):PR3.v 132 [.sl 1 false (l.map iD)] (jI (y3Y l)):=pr3 E132 Tryz.func132 T132 (ym2Y _ l hl)
theorem m200 (l:List Int) (hl:l.length<4611686018427387904):PR3.v 208 [.sl 1 false (l.map iD)] (jI (y3Y l)):=pr3 E208 Tryz.func208 T208 (ymbY _ l hl)
theorem m59 (n lo hi:Int):PR3.v 139 [jI n,jI lo,jI hi] (.bool (btw n lo hi)):=pr3 E139 Tryz.func139 T139 (ylsY _ n lo hi)
theorem m114 (n lo hi:Int):PR3.v 70 [jI n,jI lo,jI hi] (.bool (btw n lo hi)):=pr3 E70 Tryz.func70 T70 (yltY _ n lo hi)
theorem m60 (s:Str) (hs:SL s):PR3.v 140 [mkS s] (.bool (noneB s)):=pr3 E140 Tryz.func140 T140 (yluY _ s (k18 s hs))
theorem m122 (s:Str) (hs:SL s):PR3.v 183 [mkS s] (.bool (!nameB s)):=pr3 E183 Tryz.func183 T183 (ylvY _ s (k18 s hs))
theorem m201 (l:List Str) (hl:FL l):∃ n:Int,PR3.v 225 [.sl 1 false (l.map mkS),.fn 183 [] []] (jI n)/\((∃ y∈l,(!nameB y)=true)->0<=n)/\((∀ y∈l,(!nameB y)=false)->n=-1):=by
 obtain ⟨n,h1,h2⟩:=yeqY PR3 183 (fun y=>!nameB y) l hl.len fun y hy=>m122 y (hl.all y hy)
 exact ⟨n,pr3 E225 Tryz.func225 T225 h1,h2⟩
theorem m121 (l:List Str) (hl:FL l) (b:Bool) (hb:b=true↔∃ y∈l,(!nameB y)=true):PR3.v 182 [.sl 1 false (l.map mkS),.fn 183 [] []] (.bool b):=pr3 E182 Tryz.func182 T182 (yerY PR3 183 (fun y=>!nameB y) l b hb (m201 l hl))
theorem m55 (l:List Str) (hl:FL l):PR3.v 134 [.sl 1 false (l.map mkS)] (.bool (l.all nameB)):=pr3 E134 Tryz.func134 T134 (ylwY _ l (m121 l hl))
theorem m116 (o:OffV) (ho:FO o):PR3.v 176 [offD o] (.bool (nmB o)):=pr3 E176 Tryz.func176 T176 (ylxY _ o ho k16)
theorem m202 (l:List TolV) (hl:l.length<4611686018427387904) (x:TolV):PR3.v 228 [.sl 3 false (l.map tolD),tolD x] (jI (idxI (fun y=>decide (x=y)) l)):=pr3 E228 Tryz.func228 T228 (ylyY _ l hl x)
theorem m204 (l:List OffV) (hl:l.length<4611686018427387904) (x:OffV):PR3.v 263 [.sl 3 false (l.map offD),offD x] (jI (idxI (fun y=>decide (x=y)) l)):=pr3 E263 Tryz.func263 T263 (ylzY _ l hl x)
theorem m123 (l:List TolV) (x:TolV) (hl:l.length<4611686018427387904):PR3.v 188 [.sl 3 false (l.map tolD),tolD x] (.bool (l.any fun y=>decide (x=y))):=pr3 E188 Tryz.func188 T188 (ym0Y _ l x (m202 l hl x))
theorem m127 (l:List OffV) (x:OffV) (hl:l.length<4611686018427387904):PR3.v 245 [.sl 3 false (l.map offD),offD x] (.bool (l.any fun y=>decide (x=y))):=pr3 E245 Tryz.func245 T245 (ym1Y _ l x (m204 l hl x))
theorem m126 (x y:LabV):PR3.v 244 [labD x,.vptr (labD y) 0] (.bool (decide (x.k=y.k))):=pr3 E244 Tryz.func244 T244 (ymaY _ x y)
theorem m203 (l:List LabV) (hl:l.length<4611686018427387904) (x:LabV):PR3.v 235 [.sl 2 false (l.map labD),.fn 244 [] [.vptr (labD x) 0]] (jI (idxI (fun y=>decide (y.k=x.k)) l)):=pr3 E235 Tryz.func235 T235 (yf7Y _ 244 _ l hl x fun y _=>m126 y x)
theorem m125 (l:List LabV) (x:LabV) (hl:l.length<4611686018427387904):PR3.v 195 [.sl 2 false (l.map labD),.fn 244 [] [.vptr (labD x) 0]] (.bool (l.any fun y=>decide (y.k=x.k))):=pr3 E195 Tryz.func195 T195 (yf8Y _ 244 _ l x (m203 l hl x))
theorem m57 (l:List TolV) (hl:FLs FTol l):PR3.v 137 [.sl 3 false (l.map tolD)] (jI (tolsE l)):=pr3 E137 Tryz.func137 T137 (ymrY _ l hl.lt hl k18 k19 m123)
theorem m112 (l:List TolV) (hl:FLs FTol l):PR3.v 68 [.sl 3 false (l.map tolD)] (jI (tolsE l)):=pr3 E68 Tryz.func68 T68 (ymqY _ l hl.lt hl k16 k17)
theorem m61 (l:List LabV) (hl:FLs FLab l):PR3.v 201 [.sl 2 false (l.map labD)] (jI (tntsE l)):=pr3 E201 Tryz.func201 T201 (ympY _ l hl.lt hl k18 k19 m125)
theorem m115 (l:List LabV) (hl:FLs FLab l):PR3.v 120 [.sl 2 false (l.map labD)] (jI (tntsE l)):=pr3 E120 Tryz.func120 T120 (ymoY _ l hl.lt hl k16 k17)
theorem m63 (l:List OffV) (hl:FLs FO l):PR3.v 202 [.sl 3 false (l.map offD)] (jI (offsE l)):=pr3 E202 Tryz.func202 T202 (ymmY _ l hl.lt hl m55 m54 m53 m127)
theorem m118 (l:List OffV) (hl:FLs FO l):PR3.v 177 [.sl 3 false (l.map offD)] (jI (offsE l)):=pr3 E177 Tryz.func177 T177 (ymlY _ l hl.lt hl m116)
theorem m113 (l:List LabV) (hl:FLs FLab l):PR3.v 69 [.sl 2 false (l.map labD)] (jI (y16Y l)):=pr3 E69 Tryz.func69 T69 (ymnY _ l hl.lt hl k16)
theorem m124 (k a:Str) (ha:SL a):PR3.v 189 [mkS k,mkS a] (jI (termE k a)):=pr3 E189 Tryz.func189 T189 (ym9Y _ k a ha m55 m54 m53)
theorem m58 (p:PodV) (hp:FPod p):PR3.v 138 [podD p] (jI (allTE p.spr p.near p.apart)):=pr3 E138 Tryz.func138 T138 (ymcY _ p hp.spr hp.near hp.apart hp.spr.lt hp.near.lt hp.apart.lt m124 m54 m53)
theorem m84 (l:List ReqV) (hl:FLs FR l) (n:Nat) (hn:n<=16):PR3.v 186 [.sl 4 false (l.map reqD),jI n] (.tup [.sl 6 false ((setsL n l).map setD),jI (reqsE n l)]):=pr3 E186 Tryz.func186 T186 (ym5Y _ l hl.len hl.all n hn k12)
theorem m36 (l:List ReqV) (hl:FLs FR l):PR3.v 136 [.sl 4 false (l.map reqD)] (jI (reqsE 8 l)):=pr3 E136 Tryz.func136 T136 (ym6Y _ l (m84 l hl 8 (by omega)))
theorem m91 (l:List ReqV) (hl:FLs FR l):PR3.v 117 [.sl 4 false (l.map reqD)] (jI (scanE (atE ysY l) l.length)):=pr3 E117 Tryz.func117 T117 (ym7Y _ l hl.len hl.all k20)
theorem m37 (l:List ReqV) (hl:FLs FR l):PR3.v 67 [.sl 4 false (l.map reqD)] (jI (reqsE 8 l)):=pr3 E67 Tryz.func67 T67 (ym8Y _ l (m91 l hl))
theorem y7nY:CO PR3:=⟨m55,m54,m53,m59,m60,m62,m56,m63⟩
theorem m21 (p:PodV) (hp:FPod p):PR3.v 82 [podD p] (jI (podE p)):=pr3 E82 Tryz.func82 T82 (ymdY _ y7nY p hp (m36 _ hp.reqs) (m57 _ hp.tols) (m58 p hp))
theorem m22 (p:PoolV) (hp:FPool p):PR3.v 160 [poolD p] (jI (poolE p)):=pr3 E160 Tryz.func160 T160 (ymeY _ y7nY p hp (m36 _ hp.reqs) (m61 _ hp.taints))
theorem m23 (c:ClaimV) (hc:FClaim c):PR3.v 161 [y5Y c] (jI (y19Y c)):=pr3 E161 Tryz.func161 T161 (ymfY _ y7nY c hc)
theorem m24 (c:CmdV) (hc:FCmd c):PR3.v 166 [cmdD c] (jI (cmdE c)):=pr3 E166 Tryz.func166 T166 (ymgY _ y7nY c hc)
theorem m48 (p:PodV) (hp:FPod p):PR3.v 32 [podD p] (jI (podE p)):=pr3 E32 Tryz.func32 T32 (ymhY _ p hp k16 m111 (m37 _ hp.reqs) (m112 _ hp.tols) m113 m114)
theorem m49 (p:PoolV) (hp:FPool p):PR3.v 74 [poolD p] (jI (poolE p)):=pr3 E74 Tryz.func74 T74 (ymiY _ p hp k16 m111 (m37 _ hp.reqs) (m115 _ hp.taints) m114)
theorem m50 (c:ClaimV) (hc:FClaim c):PR3.v 121 [y5Y c] (jI (y19Y c)):=pr3 E121 Tryz.func121 T121 (ymjY _ c hc k16 m111 m116 m117 m118 m114)
theorem m51 (c:CmdV) (hc:FCmd c):PR3.v 124 [cmdD c] (jI (cmdE c)):=pr3 E124 Tryz.func124 T124 (ymkY _ c hc k16 m118 m114)
theorem ymsY {s:Str} (h:s.length<=1000):SL s:=by unfold SL;omega
theorem ymtY {n:Int} (h:0<=n/\n<=1099511627776):FI n:=by unfold FI;omega
end Go.Proofs.AM
