/- Part 35 of the lemmas: AHj, AHk, ATryLcc, AMSort, AMGrow, APXb, AXd, ALc, AHs. -/
import Derived.Test.YtnbdmjbpgaeacaaGreatDoorC33
import Derived.Test.YtnbdmjbpgaeacaaGreatDoorC34
import Derived.Shelf.LaysM
import Derived.Shelf.LaysC
import Derived.Shelf.SlSortCmp.NoneTotal
import Derived.Ground.SlsfProg
import Derived.Test.YtnbdmjbpgaeacaaGreatDoorProg
import Derived.Test.YtnbdmjbpgaeacaaGreatDoorC06
import Derived.Shelf.Spec.SlicesGrow
import Derived.Test.YtnbdmjbpgaeacaaGreatDoorC17
import Derived.Test.YtnbdmjbpgaeacaaGreatDoorC23
import Derived.Test.YtnbdmjbpgaeacaaGreatDoorC11
import Derived.Test.YtnbdmjbpgaeacaaGreatDoorC16
set_option maxRecDepth 100000
set_option maxHeartbeats 8000000
set_option linter.all false
namespace Go.Proofs.AM
open Go Go.Lib Cd
theorem yrbY (R:Ans) (s:SnapV) (p:PodV) (key:Str) (hc:s.claims.length<4611686018427387904) (h34:R.v 34 [] (.bool true)) (h35:∀ n,R.v 35 [snapD s,mkS key,mkS p.app,mkS p.name,mkS n] (domsX (domsE s key p.app p.name n))) (h37:∀ n,R.v 37 [snapD s,podD (oneS p key),mkS n] (sfitX (sfitE s (oneS p key) n))):AnsF R c15 [snapD s,podD p,mkS key] (.bool true):=by
 have hd0:=fun n (h:(domsE s key p.app p.name n).2=0)=>yr5Y h
 have hf0:=fun y (hy:y∈s.claims) (h0:snapE s=0) (h:(sfitE s (oneS p key) y.name).2=0)=>yr8Y hy h0 h
 have hln:∀ n,(domsL s key p.app p.name n).length<=s.claims.length:=fun n=>y6kY _ _ _ _ _
 obtain ⟨DE,hDE⟩:∃ f,f=domsE s key p.app p.name:=⟨_,rfl⟩
 obtain ⟨DL,hDL⟩:∃ f,f=domsL s key p.app p.name:=⟨_,rfl⟩
 obtain ⟨SE,hSE⟩:∃ f,f=sfitE s (oneS p key):=⟨_,rfl⟩
 obtain ⟨w,hw⟩:∃ w,w=snapE s:=⟨_,rfl⟩
 simp only [←hDE,←hDL,←hSE,←hw] at h35 h37 hd0 hf0 hln
 unfold domsX at h35
 unfold sfitX at h37
 unfold oneS at h37
 clear hDE hDL hSE hw
 obtain ⟨ty,po,pl,cl,cm,co,is,no,hce,hsn,cty,cpo,cpl,ccl,ccm,cco,cis,cno⟩:=yxY s
 rw [hsn] at h35 h37 ⊢
 have hxs:=hce.cl
 obtain ⟨l,hl0⟩:∃ l,l=s.claims:=⟨_,rfl⟩
 rw [←hl0] at hc hxs hf0
 simp only [←hl0] at hln
 clear hce hsn hl0
 obtain ⟨pnm,pap,pn0,pn1,ppr,prs,pts,pss,pns,pas,psi,pon⟩:=p
 simp only [podD,podC] at h35 h37 ⊢
 obtain ⟨xprs,hxprs⟩:∃ xs,xs=prs.map reqD:=⟨_,rfl⟩
 have cxprs:CleanL xprs:=by rw [hxprs];exact y1bY _
 simp only [←hxprs] at h35 h37 ⊢
 obtain ⟨xpts,hxpts⟩:∃ xs,xs=pts.map tolD:=⟨_,rfl⟩
 have cxpts:CleanL xpts:=by rw [hxpts];exact y2fY _
 simp only [←hxpts] at h35 h37 ⊢
 obtain ⟨xpss,hxpss⟩:∃ xs,xs=pss.map sprD:=⟨_,rfl⟩
 have cxpss:CleanL xpss:=by rw [hxpss];exact y2bY _
 simp only [←hxpss] at h35 h37 ⊢
 obtain ⟨xpns,hxpns⟩:∃ xs,xs=pns.map labD:=⟨_,rfl⟩
 have cxpns:CleanL xpns:=by rw [hxpns];exact yeY _
 simp only [←hxpns] at h35 h37 ⊢
 obtain ⟨xpas,hxpas⟩:∃ xs,xs=pas.map labD:=⟨_,rfl⟩
 have cxpas:CleanL xpas:=by rw [hxpas];exact yeY _
 simp only [←hxpas] at h35 h37 ⊢
 simp only [List.map_cons,List.map_nil,sprD] at h37
 refine y2Y ⟨rfl,by decide⟩ fun O hO V hV=>?_
 subst hV
 have hlen:O .len cl=l.length:=by rw [o_len hO,hxs];simp
 conv=>cbv
 refine ⟨_,h34,?_⟩
 conv=>cbv
 refine y4Y (fun n d=>∃ (i:Int) (k:Nat),d=⟨[(2,mkS key),(3,.ptr 3 1 0),(4,.ptr 4 1 0),(7,.bool true),(21,.sl 15 false cl),(22,jI (O .len cl)),(23,jI i)],[(3,⟨1,.rw,.var,(sB s ty po pl cl cm co is no)⟩),(4,⟨1,.rw,.var,[mkS pnm,mkS pap,jI pn0,jI pn1,jI ppr,.sl 4 false xprs,.sl 3 false xpts,.sl 3 false xpss,.sl 2 false xpns,.sl 2 false xpas,jI psi,mkS pon]⟩)],false⟩/\i=k/\k<=l.length/\n=l.length-k) ⟨_,_,⟨_,0,rfl,rfl,by omega,rfl⟩,⟨⟨rfl,rfl,rfl,rfl,rfl,rfl,rfl,trivial⟩,⟨rfl,rfl,trivial⟩,rfl⟩⟩ ?_
 rintro J up n d ⟨i,k,rfl,hi,hk,rfl⟩
 conv=>cbv
 rintro (_|_) h1<;>(conv=>cbv)
 case false=>first|trivial|rfl
 replace h1:=t_lss hO h1
 rw [hlen] at h1
 obtain ⟨y,hy⟩:∃ y,l[k]?=some y:=⟨_,List.getElem?_eq_getElem (by omega)⟩
 have hat:atX cl i (y5Y y):=y7Y hy hxs hi
 have k35:=h35 y.name
 have k37:=h37 y.name
 have hd1:=hd0 y.name
 have hf1:=hf0 y (List.mem_of_getElem? hy)
 have hcond:=fun (hk:key=zoneS∨key=hostS)=>yr7Y hk y
 have hln1:=hln y.name
 obtain ⟨⟨dl,e⟩,hde⟩:∃ r,r=DE y.name:=⟨_,rfl⟩
 obtain ⟨⟨ok,f⟩,hof⟩:∃ r,r=SE y.name:=⟨_,rfl⟩
 obtain ⟨v,hv⟩:∃ v,v=domOf key y:=⟨_,rfl⟩
 rw [←hde] at k35 hd1
 rw [←hof] at k37 hf1
 rw [←hv] at hf1
 simp only [←hv] at hcond
 simp only at k35 k37 hd1 hf1
 have hf2:e=0->f=0->0<=own1F v dl/\ok=decide (own1F v dl=y1eY dl):=fun h1 h2=>by rw [(hd1 h1).1];exact hf1 (hd1 h1).2.1 h2
 have hcond:e=0->∀ d:Str,(d=y.name/\key=hostS)∨(d=y.off.z/\key=zoneS)↔d=v:=fun h=>hcond (hd1 h).2.2
 have hdlen:e=0->dl.length<=l.length:=fun h=>by rw [(hd1 h).1];exact hln1
 obtain ⟨ds,hds⟩:∃ ds,ds=dl.map domD:=⟨_,rfl⟩
 have cds:CleanL ds:=by rw [hds];exact y39Y _
 rw [←hds] at k35
 unfold hostS zoneS at hcond
 clear hde hof hv hy hd0 hf0 hd1 hf1 h35 h37 hln hln1
 obtain ⟨ynm,ypo,yge,⟨yot,yoz,yok⟩,ypr,yc0,yc1,yos,ytr,yid,yph,ybo,yma⟩:=y
 simp only [y5Y,y12Y] at hat k35 k37 hcond
 obtain ⟨xyos,hxyos⟩:∃ xs,xs=yos.map offD:=⟨_,rfl⟩
 have cxyos:CleanL xyos:=by rw [hxyos];exact y11Y _
 simp only [←hxyos] at hat k35 k37 hcond
 refine ⟨_,hat,?_⟩
 conv=>cbv
 intro g9
 conv=>cbv
 repeat' (first|(refine And.intro (by first|assumption|exact ⟨by omega⟩|exact ⟨by rw [hlen];omega⟩|exact ⟨rfl,rfl⟩|exact ⟨rfl⟩|exact ⟨rfl,rfl⟩) ?_)|(intro (g:Nat);(conv=>cbv)))
 refine ⟨_,k35,?_⟩
 conv=>cbv
 rintro (_|_) h2<;>replace h2:=ci hO h2<;>dsimp only [CmpI] at h2<;>(conv=>cbv)
 case true=>first|trivial|rfl
 replace h2:e=0:=by omega
 replace hf2:=hf2 h2
 replace hcond:=hcond h2
 replace hdlen:=hdlen h2
 have hlo:O .len ds=dl.length:=by rw [o_len hO,hds];simp
 repeat' (first|(refine And.intro (by first|assumption|exact ⟨by omega⟩|exact ⟨by rw [hlen];omega⟩|exact ⟨rfl,rfl⟩|exact ⟨rfl⟩|exact ⟨rfl,rfl⟩) ?_)|(intro (g:Nat);(conv=>cbv)))
 refine y4Y (fun n d=>∃ (i2:Int) (k2:Nat) (ow ls:Int),d=⟨[(2,mkS key),(3,.ptr 3 1 0),(4,.ptr 4 1 0),(7,.bool true),(21,.sl 15 false cl),(22,jI (O .len cl)),(23,jI i),(9,.ptr 9 g9 0),(12,jI ls),(13,jI ow),(42,.sl 3 false ds),(43,jI (O .len ds)),(44,jI i2)],[(3,⟨1,.rw,.var,(sB s ty po pl cl cm co is no)⟩),(4,⟨1,.rw,.var,[mkS pnm,mkS pap,jI pn0,jI pn1,jI ppr,.sl 4 false xprs,.sl 3 false xpts,.sl 3 false xpss,.sl 2 false xpns,.sl 2 false xpas,jI psi,mkS pon]⟩),(9,⟨g9,.rw,.var,[mkS ynm,mkS ypo,jI yge,mkS yot,mkS yoz,mkS yok,jI ypr,jI yc0,jI yc1,.sl 3 false xyos,jI ytr,mkS yid,jI yph,jI ybo,.bool yma]⟩)],false⟩/\i2=k2/\k2<=dl.length/\n=dl.length-k2/\ow=own1F v (dl.take k2)/\ls=y1eY (dl.take k2)) ⟨_,_,⟨_,0,_,_,rfl,rfl,by omega,rfl,rfl,rfl⟩,⟨⟨rfl,rfl,rfl,rfl,rfl,rfl,rfl,rfl,rfl,rfl,rfl,rfl,rfl,trivial⟩,⟨rfl,rfl,rfl,trivial⟩,rfl⟩⟩ ?_
 rintro J2 up2 n2 d2 ⟨i2,k2,ow,ls,rfl,hi2,hk2,rfl,how,hls⟩
 conv=>cbv
 rintro (_|_) h3<;>(conv=>cbv)
 ·replace h3:=f_lss hO h3
  rw [hlo] at h3
  rw [List.take_of_length_le (by omega)] at how hls
  rw [←how,←hls] at hf2
  clear how hls up2 hcond hds
  repeat' (first|(refine And.intro (by first|assumption|exact ⟨by omega⟩|exact ⟨by rw [hlen];omega⟩|exact ⟨rfl,rfl⟩|exact ⟨rfl⟩|exact ⟨rfl,rfl⟩) ?_)|(intro (g:Nat);(conv=>cbv)))
  refine ⟨_,k37,?_⟩
  conv=>cbv
  rintro (_|_) h4<;>replace h4:=ci hO h4<;>dsimp only [CmpI] at h4<;>(conv=>cbv)
  case true=>first|trivial|rfl
  obtain ⟨o1,o2⟩:=hf2 (by omega)
  rintro (_|_) h5<;>replace h5:=ci hO h5<;>dsimp only [CmpI] at h5<;>(conv=>cbv)
  case true=>exfalso;omega
  rintro (_|_) h6<;>replace h6:=ci hO h6<;>dsimp only [CmpI] at h6<;>(conv=>cbv)
  ·obtain rfl:ok=false:=by rw [o2,decide_eq_false_iff_not];exact h6
   rintro t h7
   obtain rfl:t=false:=by rw [b_ne hO h7];rfl
   conv=>cbv
   exact ⟨_,_,up _ _ ⟨_,k+1,rfl,by rw [y0Y hO (by omega) (by omega)];omega,by omega,rfl⟩,⟨⟨rfl,rfl,rfl,rfl,rfl,rfl,rfl,trivial⟩,⟨rfl,rfl,trivial⟩,rfl⟩,by omega⟩
  ·obtain rfl:ok=true:=by rw [o2,decide_eq_true_eq];exact h6
   rintro t h7
   obtain rfl:t=false:=by rw [b_ne hO h7];rfl
   conv=>cbv
   exact ⟨_,_,up _ _ ⟨_,k+1,rfl,by rw [y0Y hO (by omega) (by omega)];omega,by omega,rfl⟩,⟨⟨rfl,rfl,rfl,rfl,rfl,rfl,rfl,trivial⟩,⟨rfl,rfl,trivial⟩,rfl⟩,by omega⟩
 replace h3:=t_lss hO h3
 rw [hlo] at h3
 obtain ⟨z,hz⟩:∃ z,dl[k2]?=some z:=⟨_,List.getElem?_eq_getElem (by omega)⟩
 have hatz:atX ds i2 (domD z):=y7Y hz hds hi2
 have e1:own1F v (dl.take (k2+1))=if z.v=v then z.n else ow:=by rw [List.take_add_one,hz,Option.toList_some,ygaY,how]
 have e2:y1eY (dl.take (k2+1))=if ls<0∨z.n<ls then z.n else ls:=by rw [List.take_add_one,hz,Option.toList_some,y7xY,hls]
 clear hz how hls hf2 k37 up hds
 obtain ⟨zk,zv,zn⟩:=z
 simp only [domD] at hatz e1 e2
 refine ⟨_,hatz,?_⟩
 conv=>cbv
 intro g15
 conv=>cbv
 rintro (_|_) a1<;>replace a1:=ci hO a1<;>dsimp only [CmpI] at a1<;>(conv=>cbv)
 case true =>
  rintro (_|_) b1<;>replace b1:=cs hO b1<;>dsimp only [CmpS] at b1<;>(conv=>cbv)
  ·rintro (_|_) b3<;>replace b3:=cs hO b3<;>dsimp only [CmpS] at b3<;>(conv=>cbv)
   ·exact ⟨_,_,up2 _ _ ⟨_,k2+1,_,_,rfl,by rw [y0Y hO (by omega) (by omega)];omega,by omega,rfl,by rw [e1];first|exact (if_pos ((hcond zv).1 (.inl ⟨b1,b2⟩))).symm|exact (if_pos ((hcond zv).1 (.inr ⟨b3,b4⟩))).symm|exact (if_neg (fun hh=>((hcond zv).2 hh).elim (fun x=>by first|exact b1 x.1|exact b2 x.2) (fun x=>by first|exact b3 x.1|exact b4 x.2))).symm,by rw [e2];split<;>omega⟩,⟨⟨rfl,rfl,rfl,rfl,rfl,rfl,rfl,rfl,rfl,rfl,rfl,rfl,rfl,trivial⟩,⟨rfl,rfl,rfl,trivial⟩,rfl⟩,by omega⟩
   ·rintro (_|_) b4<;>replace b4:=cs hO b4<;>dsimp only [CmpS] at b4<;>(conv=>cbv)
    ·exact ⟨_,_,up2 _ _ ⟨_,k2+1,_,_,rfl,by rw [y0Y hO (by omega) (by omega)];omega,by omega,rfl,by rw [e1];first|exact (if_pos ((hcond zv).1 (.inl ⟨b1,b2⟩))).symm|exact (if_pos ((hcond zv).1 (.inr ⟨b3,b4⟩))).symm|exact (if_neg (fun hh=>((hcond zv).2 hh).elim (fun x=>by first|exact b1 x.1|exact b2 x.2) (fun x=>by first|exact b3 x.1|exact b4 x.2))).symm,by rw [e2];split<;>omega⟩,⟨⟨rfl,rfl,rfl,rfl,rfl,rfl,rfl,rfl,rfl,rfl,rfl,rfl,rfl,trivial⟩,⟨rfl,rfl,rfl,trivial⟩,rfl⟩,by omega⟩
    ·exact ⟨_,_,up2 _ _ ⟨_,k2+1,_,_,rfl,by rw [y0Y hO (by omega) (by omega)];omega,by omega,rfl,by rw [e1];first|exact (if_pos ((hcond zv).1 (.inl ⟨b1,b2⟩))).symm|exact (if_pos ((hcond zv).1 (.inr ⟨b3,b4⟩))).symm|exact (if_neg (fun hh=>((hcond zv).2 hh).elim (fun x=>by first|exact b1 x.1|exact b2 x.2) (fun x=>by first|exact b3 x.1|exact b4 x.2))).symm,by rw [e2];split<;>omega⟩,⟨⟨rfl,rfl,rfl,rfl,rfl,rfl,rfl,rfl,rfl,rfl,rfl,rfl,rfl,trivial⟩,⟨rfl,rfl,rfl,trivial⟩,rfl⟩,by omega⟩
  ·rintro (_|_) b2<;>replace b2:=cs hO b2<;>dsimp only [CmpS] at b2<;>(conv=>cbv)
   ·rintro (_|_) b3<;>replace b3:=cs hO b3<;>dsimp only [CmpS] at b3<;>(conv=>cbv)
    ·exact ⟨_,_,up2 _ _ ⟨_,k2+1,_,_,rfl,by rw [y0Y hO (by omega) (by omega)];omega,by omega,rfl,by rw [e1];first|exact (if_pos ((hcond zv).1 (.inl ⟨b1,b2⟩))).symm|exact (if_pos ((hcond zv).1 (.inr ⟨b3,b4⟩))).symm|exact (if_neg (fun hh=>((hcond zv).2 hh).elim (fun x=>by first|exact b1 x.1|exact b2 x.2) (fun x=>by first|exact b3 x.1|exact b4 x.2))).symm,by rw [e2];split<;>omega⟩,⟨⟨rfl,rfl,rfl,rfl,rfl,rfl,rfl,rfl,rfl,rfl,rfl,rfl,rfl,trivial⟩,⟨rfl,rfl,rfl,trivial⟩,rfl⟩,by omega⟩
    ·rintro (_|_) b4<;>replace b4:=cs hO b4<;>dsimp only [CmpS] at b4<;>(conv=>cbv)
     ·exact ⟨_,_,up2 _ _ ⟨_,k2+1,_,_,rfl,by rw [y0Y hO (by omega) (by omega)];omega,by omega,rfl,by rw [e1];first|exact (if_pos ((hcond zv).1 (.inl ⟨b1,b2⟩))).symm|exact (if_pos ((hcond zv).1 (.inr ⟨b3,b4⟩))).symm|exact (if_neg (fun hh=>((hcond zv).2 hh).elim (fun x=>by first|exact b1 x.1|exact b2 x.2) (fun x=>by first|exact b3 x.1|exact b4 x.2))).symm,by rw [e2];split<;>omega⟩,⟨⟨rfl,rfl,rfl,rfl,rfl,rfl,rfl,rfl,rfl,rfl,rfl,rfl,rfl,trivial⟩,⟨rfl,rfl,rfl,trivial⟩,rfl⟩,by omega⟩
     ·exact ⟨_,_,up2 _ _ ⟨_,k2+1,_,_,rfl,by rw [y0Y hO (by omega) (by omega)];omega,by omega,rfl,by rw [e1];first|exact (if_pos ((hcond zv).1 (.inl ⟨b1,b2⟩))).symm|exact (if_pos ((hcond zv).1 (.inr ⟨b3,b4⟩))).symm|exact (if_neg (fun hh=>((hcond zv).2 hh).elim (fun x=>by first|exact b1 x.1|exact b2 x.2) (fun x=>by first|exact b3 x.1|exact b4 x.2))).symm,by rw [e2];split<;>omega⟩,⟨⟨rfl,rfl,rfl,rfl,rfl,rfl,rfl,rfl,rfl,rfl,rfl,rfl,rfl,trivial⟩,⟨rfl,rfl,rfl,trivial⟩,rfl⟩,by omega⟩
   ·exact ⟨_,_,up2 _ _ ⟨_,k2+1,_,_,rfl,by rw [y0Y hO (by omega) (by omega)];omega,by omega,rfl,by rw [e1];first|exact (if_pos ((hcond zv).1 (.inl ⟨b1,b2⟩))).symm|exact (if_pos ((hcond zv).1 (.inr ⟨b3,b4⟩))).symm|exact (if_neg (fun hh=>((hcond zv).2 hh).elim (fun x=>by first|exact b1 x.1|exact b2 x.2) (fun x=>by first|exact b3 x.1|exact b4 x.2))).symm,by rw [e2];split<;>omega⟩,⟨⟨rfl,rfl,rfl,rfl,rfl,rfl,rfl,rfl,rfl,rfl,rfl,rfl,rfl,trivial⟩,⟨rfl,rfl,rfl,trivial⟩,rfl⟩,by omega⟩
 rintro (_|_) a2<;>replace a2:=ci hO a2<;>dsimp only [CmpI] at a2<;>(conv=>cbv)
 case true =>
  rintro (_|_) b1<;>replace b1:=cs hO b1<;>dsimp only [CmpS] at b1<;>(conv=>cbv)
  ·rintro (_|_) b3<;>replace b3:=cs hO b3<;>dsimp only [CmpS] at b3<;>(conv=>cbv)
   ·exact ⟨_,_,up2 _ _ ⟨_,k2+1,_,_,rfl,by rw [y0Y hO (by omega) (by omega)];omega,by omega,rfl,by rw [e1];first|exact (if_pos ((hcond zv).1 (.inl ⟨b1,b2⟩))).symm|exact (if_pos ((hcond zv).1 (.inr ⟨b3,b4⟩))).symm|exact (if_neg (fun hh=>((hcond zv).2 hh).elim (fun x=>by first|exact b1 x.1|exact b2 x.2) (fun x=>by first|exact b3 x.1|exact b4 x.2))).symm,by rw [e2];split<;>omega⟩,⟨⟨rfl,rfl,rfl,rfl,rfl,rfl,rfl,rfl,rfl,rfl,rfl,rfl,rfl,trivial⟩,⟨rfl,rfl,rfl,trivial⟩,rfl⟩,by omega⟩
   ·rintro (_|_) b4<;>replace b4:=cs hO b4<;>dsimp only [CmpS] at b4<;>(conv=>cbv)
    ·exact ⟨_,_,up2 _ _ ⟨_,k2+1,_,_,rfl,by rw [y0Y hO (by omega) (by omega)];omega,by omega,rfl,by rw [e1];first|exact (if_pos ((hcond zv).1 (.inl ⟨b1,b2⟩))).symm|exact (if_pos ((hcond zv).1 (.inr ⟨b3,b4⟩))).symm|exact (if_neg (fun hh=>((hcond zv).2 hh).elim (fun x=>by first|exact b1 x.1|exact b2 x.2) (fun x=>by first|exact b3 x.1|exact b4 x.2))).symm,by rw [e2];split<;>omega⟩,⟨⟨rfl,rfl,rfl,rfl,rfl,rfl,rfl,rfl,rfl,rfl,rfl,rfl,rfl,trivial⟩,⟨rfl,rfl,rfl,trivial⟩,rfl⟩,by omega⟩
    ·exact ⟨_,_,up2 _ _ ⟨_,k2+1,_,_,rfl,by rw [y0Y hO (by omega) (by omega)];omega,by omega,rfl,by rw [e1];first|exact (if_pos ((hcond zv).1 (.inl ⟨b1,b2⟩))).symm|exact (if_pos ((hcond zv).1 (.inr ⟨b3,b4⟩))).symm|exact (if_neg (fun hh=>((hcond zv).2 hh).elim (fun x=>by first|exact b1 x.1|exact b2 x.2) (fun x=>by first|exact b3 x.1|exact b4 x.2))).symm,by rw [e2];split<;>omega⟩,⟨⟨rfl,rfl,rfl,rfl,rfl,rfl,rfl,rfl,rfl,rfl,rfl,rfl,rfl,trivial⟩,⟨rfl,rfl,rfl,trivial⟩,rfl⟩,by omega⟩
  ·rintro (_|_) b2<;>replace b2:=cs hO b2<;>dsimp only [CmpS] at b2<;>(conv=>cbv)
   ·rintro (_|_) b3<;>replace b3:=cs hO b3<;>dsimp only [CmpS] at b3<;>(conv=>cbv)
    ·exact ⟨_,_,up2 _ _ ⟨_,k2+1,_,_,rfl,by rw [y0Y hO (by omega) (by omega)];omega,by omega,rfl,by rw [e1];first|exact (if_pos ((hcond zv).1 (.inl ⟨b1,b2⟩))).symm|exact (if_pos ((hcond zv).1 (.inr ⟨b3,b4⟩))).symm|exact (if_neg (fun hh=>((hcond zv).2 hh).elim (fun x=>by first|exact b1 x.1|exact b2 x.2) (fun x=>by first|exact b3 x.1|exact b4 x.2))).symm,by rw [e2];split<;>omega⟩,⟨⟨rfl,rfl,rfl,rfl,rfl,rfl,rfl,rfl,rfl,rfl,rfl,rfl,rfl,trivial⟩,⟨rfl,rfl,rfl,trivial⟩,rfl⟩,by omega⟩
    ·rintro (_|_) b4<;>replace b4:=cs hO b4<;>dsimp only [CmpS] at b4<;>(conv=>cbv)
     ·exact ⟨_,_,up2 _ _ ⟨_,k2+1,_,_,rfl,by rw [y0Y hO (by omega) (by omega)];omega,by omega,rfl,by rw [e1];first|exact (if_pos ((hcond zv).1 (.inl ⟨b1,b2⟩))).symm|exact (if_pos ((hcond zv).1 (.inr ⟨b3,b4⟩))).symm|exact (if_neg (fun hh=>((hcond zv).2 hh).elim (fun x=>by first|exact b1 x.1|exact b2 x.2) (fun x=>by first|exact b3 x.1|exact b4 x.2))).symm,by rw [e2];split<;>omega⟩,⟨⟨rfl,rfl,rfl,rfl,rfl,rfl,rfl,rfl,rfl,rfl,rfl,rfl,rfl,trivial⟩,⟨rfl,rfl,rfl,trivial⟩,rfl⟩,by omega⟩
     ·exact ⟨_,_,up2 _ _ ⟨_,k2+1,_,_,rfl,by rw [y0Y hO (by omega) (by omega)];omega,by omega,rfl,by rw [e1];first|exact (if_pos ((hcond zv).1 (.inl ⟨b1,b2⟩))).symm|exact (if_pos ((hcond zv).1 (.inr ⟨b3,b4⟩))).symm|exact (if_neg (fun hh=>((hcond zv).2 hh).elim (fun x=>by first|exact b1 x.1|exact b2 x.2) (fun x=>by first|exact b3 x.1|exact b4 x.2))).symm,by rw [e2];split<;>omega⟩,⟨⟨rfl,rfl,rfl,rfl,rfl,rfl,rfl,rfl,rfl,rfl,rfl,rfl,rfl,trivial⟩,⟨rfl,rfl,rfl,trivial⟩,rfl⟩,by omega⟩
   ·exact ⟨_,_,up2 _ _ ⟨_,k2+1,_,_,rfl,by rw [y0Y hO (by omega) (by omega)];omega,by omega,rfl,by rw [e1];first|exact (if_pos ((hcond zv).1 (.inl ⟨b1,b2⟩))).symm|exact (if_pos ((hcond zv).1 (.inr ⟨b3,b4⟩))).symm|exact (if_neg (fun hh=>((hcond zv).2 hh).elim (fun x=>by first|exact b1 x.1|exact b2 x.2) (fun x=>by first|exact b3 x.1|exact b4 x.2))).symm,by rw [e2];split<;>omega⟩,⟨⟨rfl,rfl,rfl,rfl,rfl,rfl,rfl,rfl,rfl,rfl,rfl,rfl,rfl,trivial⟩,⟨rfl,rfl,rfl,trivial⟩,rfl⟩,by omega⟩
 rintro (_|_) b1<;>replace b1:=cs hO b1<;>dsimp only [CmpS] at b1<;>(conv=>cbv)
 ·rintro (_|_) b3<;>replace b3:=cs hO b3<;>dsimp only [CmpS] at b3<;>(conv=>cbv)
  ·exact ⟨_,_,up2 _ _ ⟨_,k2+1,_,_,rfl,by rw [y0Y hO (by omega) (by omega)];omega,by omega,rfl,by rw [e1];first|exact (if_pos ((hcond zv).1 (.inl ⟨b1,b2⟩))).symm|exact (if_pos ((hcond zv).1 (.inr ⟨b3,b4⟩))).symm|exact (if_neg (fun hh=>((hcond zv).2 hh).elim (fun x=>by first|exact b1 x.1|exact b2 x.2) (fun x=>by first|exact b3 x.1|exact b4 x.2))).symm,by rw [e2];split<;>omega⟩,⟨⟨rfl,rfl,rfl,rfl,rfl,rfl,rfl,rfl,rfl,rfl,rfl,rfl,rfl,trivial⟩,⟨rfl,rfl,rfl,trivial⟩,rfl⟩,by omega⟩
  ·rintro (_|_) b4<;>replace b4:=cs hO b4<;>dsimp only [CmpS] at b4<;>(conv=>cbv)
   ·exact ⟨_,_,up2 _ _ ⟨_,k2+1,_,_,rfl,by rw [y0Y hO (by omega) (by omega)];omega,by omega,rfl,by rw [e1];first|exact (if_pos ((hcond zv).1 (.inl ⟨b1,b2⟩))).symm|exact (if_pos ((hcond zv).1 (.inr ⟨b3,b4⟩))).symm|exact (if_neg (fun hh=>((hcond zv).2 hh).elim (fun x=>by first|exact b1 x.1|exact b2 x.2) (fun x=>by first|exact b3 x.1|exact b4 x.2))).symm,by rw [e2];split<;>omega⟩,⟨⟨rfl,rfl,rfl,rfl,rfl,rfl,rfl,rfl,rfl,rfl,rfl,rfl,rfl,trivial⟩,⟨rfl,rfl,rfl,trivial⟩,rfl⟩,by omega⟩
   ·exact ⟨_,_,up2 _ _ ⟨_,k2+1,_,_,rfl,by rw [y0Y hO (by omega) (by omega)];omega,by omega,rfl,by rw [e1];first|exact (if_pos ((hcond zv).1 (.inl ⟨b1,b2⟩))).symm|exact (if_pos ((hcond zv).1 (.inr ⟨b3,b4⟩))).symm|exact (if_neg (fun hh=>((hcond zv).2 hh).elim (fun x=>by first|exact b1 x.1|exact b2 x.2) (fun x=>by first|exact b3 x.1|exact b4 x.2))).symm,by rw [e2];split<;>omega⟩,⟨⟨rfl,rfl,rfl,rfl,rfl,rfl,rfl,rfl,rfl,rfl,rfl,rfl,rfl,trivial⟩,⟨rfl,rfl,rfl,trivial⟩,rfl⟩,by omega⟩
 ·rintro (_|_) b2<;>replace b2:=cs hO b2<;>dsimp only [CmpS] at b2<;>(conv=>cbv)
  ·rintro (_|_) b3<;>replace b3:=cs hO b3<;>dsimp only [CmpS] at b3<;>(conv=>cbv)
   ·exact ⟨_,_,up2 _ _ ⟨_,k2+1,_,_,rfl,by rw [y0Y hO (by omega) (by omega)];omega,by omega,rfl,by rw [e1];first|exact (if_pos ((hcond zv).1 (.inl ⟨b1,b2⟩))).symm|exact (if_pos ((hcond zv).1 (.inr ⟨b3,b4⟩))).symm|exact (if_neg (fun hh=>((hcond zv).2 hh).elim (fun x=>by first|exact b1 x.1|exact b2 x.2) (fun x=>by first|exact b3 x.1|exact b4 x.2))).symm,by rw [e2];split<;>omega⟩,⟨⟨rfl,rfl,rfl,rfl,rfl,rfl,rfl,rfl,rfl,rfl,rfl,rfl,rfl,trivial⟩,⟨rfl,rfl,rfl,trivial⟩,rfl⟩,by omega⟩
   ·rintro (_|_) b4<;>replace b4:=cs hO b4<;>dsimp only [CmpS] at b4<;>(conv=>cbv)
    ·exact ⟨_,_,up2 _ _ ⟨_,k2+1,_,_,rfl,by rw [y0Y hO (by omega) (by omega)];omega,by omega,rfl,by rw [e1];first|exact (if_pos ((hcond zv).1 (.inl ⟨b1,b2⟩))).symm|exact (if_pos ((hcond zv).1 (.inr ⟨b3,b4⟩))).symm|exact (if_neg (fun hh=>((hcond zv).2 hh).elim (fun x=>by first|exact b1 x.1|exact b2 x.2) (fun x=>by first|exact b3 x.1|exact b4 x.2))).symm,by rw [e2];split<;>omega⟩,⟨⟨rfl,rfl,rfl,rfl,rfl,rfl,rfl,rfl,rfl,rfl,rfl,rfl,rfl,trivial⟩,⟨rfl,rfl,rfl,trivial⟩,rfl⟩,by omega⟩
    ·exact ⟨_,_,up2 _ _ ⟨_,k2+1,_,_,rfl,by rw [y0Y hO (by omega) (by omega)];omega,by omega,rfl,by rw [e1];first|exact (if_pos ((hcond zv).1 (.inl ⟨b1,b2⟩))).symm|exact (if_pos ((hcond zv).1 (.inr ⟨b3,b4⟩))).symm|exact (if_neg (fun hh=>((hcond zv).2 hh).elim (fun x=>by first|exact b1 x.1|exact b2 x.2) (fun x=>by first|exact b3 x.1|exact b4 x.2))).symm,by rw [e2];split<;>omega⟩,⟨⟨rfl,rfl,rfl,rfl,rfl,rfl,rfl,rfl,rfl,rfl,rfl,rfl,rfl,trivial⟩,⟨rfl,rfl,rfl,trivial⟩,rfl⟩,by omega⟩
  ·exact ⟨_,_,up2 _ _ ⟨_,k2+1,_,_,rfl,by rw [y0Y hO (by omega) (by omega)];omega,by omega,rfl,by rw [e1];first|exact (if_pos ((hcond zv).1 (.inl ⟨b1,b2⟩))).symm|exact (if_pos ((hcond zv).1 (.inr ⟨b3,b4⟩))).symm|exact (if_neg (fun hh=>((hcond zv).2 hh).elim (fun x=>by first|exact b1 x.1|exact b2 x.2) (fun x=>by first|exact b3 x.1|exact b4 x.2))).symm,by rw [e2];split<;>omega⟩,⟨⟨rfl,rfl,rfl,rfl,rfl,rfl,rfl,rfl,rfl,rfl,rfl,rfl,rfl,trivial⟩,⟨rfl,rfl,rfl,trivial⟩,rfl⟩,by omega⟩
theorem yrcY (R:Ans) (s:SnapV) (app:Str) (hlc:s.claims.length<4611686018427387904) (hlp:s.pods.length<4611686018427387904) (h34:R.v 34 [] (.bool true)) (h33:R.v 33 [snapD s] (jI (snapE s))) (h35:∀ key n,R.v 35 [snapD s,mkS key,mkS app,mkS [],mkS n] (domsX (domsE s key app [] n))):AnsF R c16 [snapD s,mkS app] (.bool true):=by
 obtain ⟨w,hw⟩:∃ w,w=snapE s:=⟨_,rfl⟩
 have hD:w=0->(∀ c∈s.claims,c.phase=3/\c.marked=false)->∀ key,key=zoneS∨key=hostS->∀ c∈s.claims,∃ dl:List DomV,R.v 35 [snapD s,mkS key,mkS app,mkS [],mkS c.name] (.tup [.sl 3 false (dl.map domD),jI 0])/\sumI (dl.map (·.n))=((s.pods.filter (y2rY app)).length:Int)/\(∀ d∈dl,0<=d.n/\d.n<=24)/\dl.length<=16:=fun h0 hall key hk c hc=>by
  obtain ⟨a,b⟩:=yraY (hw.symm.trans h0) hall (app:=app) hk hc
  have:=h35 key c.name
  rw [a] at this
  exact ⟨_,this,b⟩
 rw [←hw] at h33
 clear h35 hw
 obtain ⟨ty,po,pl,cl,cm,co,is,no,hce,hsn,cty,cpo,cpl,ccl,ccm,cco,cis,cno⟩:=yxY s
 rw [hsn] at h33 hD ⊢
 have hxc:=hce.cl
 have hxp:=hce.po
 obtain ⟨l,hl0⟩:∃ l,l=s.claims:=⟨_,rfl⟩
 obtain ⟨q,hq0⟩:∃ q,q=s.pods:=⟨_,rfl⟩
 rw [←hl0] at hlc hxc hD
 rw [←hq0] at hlp hxp hD
 obtain ⟨N0,hN0⟩:∃ N,N=((q.filter (y2rY app)).length:Int):=⟨_,rfl⟩
 simp only [←hN0] at hD
 clear hce hsn hl0 hq0
 refine y2Y ⟨rfl,by decide⟩ fun O hO V hV=>?_
 subst hV
 have hlen:O .len cl=l.length:=by rw [o_len hO,hxc];simp
 have hlq:O .len po=q.length:=by rw [o_len hO,hxp];simp
 conv=>cbv
 refine ⟨_,h34,?_⟩
 conv=>cbv
 refine y4Y (fun n d=>∃ (i:Int) (k:Nat),d=⟨[(1,mkS app),(2,.ptr 2 1 0),(5,.bool true),(20,.sl 15 false cl),(21,jI (O .len cl)),(22,jI i)],[(2,⟨1,.rw,.var,(sB s ty po pl cl cm co is no)⟩)],false⟩/\i=k/\k<=l.length/\n=l.length-k/\∀ (j:Nat) z,j<k->l[j]?=some z->z.phase=3/\z.marked=false) ⟨_,_,⟨_,0,rfl,rfl,by omega,rfl,by simp⟩,⟨⟨rfl,rfl,rfl,rfl,rfl,rfl,trivial⟩,⟨rfl,trivial⟩,rfl⟩⟩ ?_
 rintro J up n d ⟨i,k,rfl,hi,hk,rfl,hno⟩
 conv=>cbv
 rintro (_|_) h1<;>(conv=>cbv)
 case true =>
  replace h1:=t_lss hO h1
  rw [hlen] at h1
  obtain ⟨y,hy⟩:∃ y,l[k]?=some y:=⟨_,List.getElem?_eq_getElem (by omega)⟩
  have hat:atX cl i (y5Y y):=y7Y hy hxc hi
  have hst:y.phase=3->y.marked=false->∀ (j:Nat) z,j<k+1->l[j]?=some z->z.phase=3/\z.marked=false:=fun a b j z hj hz=>by
   by_cases e:j=k
   ·subst e;rw [hy] at hz;simp only [Option.some.injEq] at hz;subst hz;exact ⟨a,b⟩
   ·exact hno j z (by omega) hz
  clear hy hno hD h33
  obtain ⟨ynm,ypo,yge,⟨yot,yoz,yok⟩,ypr,yc0,yc1,yos,ytr,yid,yph,ybo,yma⟩:=y
  simp only [y5Y,y12Y] at hat hst
  obtain ⟨xyos,hxyos⟩:∃ xs,xs=yos.map offD:=⟨_,rfl⟩
  have cxyos:CleanL xyos:=by rw [hxyos];exact y11Y _
  simp only [←hxyos] at hat hst
  refine ⟨_,hat,?_⟩
  conv=>cbv
  repeat' (first|(refine And.intro (by first|assumption|exact ⟨by omega⟩|exact ⟨by rw [hlen];omega⟩|exact ⟨rfl,rfl⟩|exact ⟨rfl⟩|exact ⟨rfl,rfl⟩) ?_)|(intro (g:Nat);(conv=>cbv)))
  rintro (_|_) a1<;>replace a1:=ci hO a1<;>dsimp only [CmpI] at a1<;>(conv=>cbv)
  case true=>first|trivial|rfl
  cases yma<;>(conv=>cbv)
  case true=>first|trivial|rfl
  exact ⟨_,_,up _ _ ⟨_,k+1,rfl,by rw [y0Y hO (by omega) (by omega)];omega,by omega,rfl,hst (by omega) rfl⟩,⟨⟨rfl,rfl,rfl,rfl,rfl,rfl,trivial⟩,⟨rfl,trivial⟩,rfl⟩,by omega⟩
 replace h1:=f_lss hO h1
 rw [hlen] at h1
 have hall:∀ c∈l,c.phase=3/\c.marked=false:=fun c hc=>by
  obtain ⟨j,hj⟩:=List.getElem?_of_mem hc
  exact hno j c (by have:=(List.getElem?_eq_some_iff.1 hj).1;omega) hj
 replace hD:=fun h=>hD h hall
 clear hall hno up h1 hi hk
 rintro (_|_) h2<;>replace h2:=ci hO h2<;>dsimp only [CmpI] at h2<;>(conv=>cbv)
 case true=>first|trivial|rfl
 rw [hlen] at h2
 repeat' (first|(refine And.intro (by first|assumption|exact ⟨by omega⟩|exact ⟨by rw [hlen];omega⟩|exact ⟨rfl,rfl⟩|exact ⟨rfl⟩|exact ⟨rfl,rfl⟩) ?_)|(intro (g:Nat);(conv=>cbv)))
 refine ⟨_,h33,?_⟩
 conv=>cbv
 rintro (_|_) h3<;>replace h3:=ci hO h3<;>dsimp only [CmpI] at h3<;>(conv=>cbv)
 case true=>first|trivial|rfl
 replace hD:=hD (by omega)
 obtain ⟨c0,hc0⟩:∃ y,l[0]?=some y:=⟨_,List.getElem?_eq_getElem (by omega)⟩
 have hat0:atX cl 0 (y5Y c0):=y7Y hc0 hxc rfl
 have dz:=hD zoneS (.inl rfl) c0 (List.mem_of_getElem? hc0)
 have dh:=hD hostS (.inr rfl) c0 (List.mem_of_getElem? hc0)
 clear hD h33 hc0
 obtain ⟨ynm,ypo,yge,⟨yot,yoz,yok⟩,ypr,yc0,yc1,yos,ytr,yid,yph,ybo,yma⟩:=c0
 simp only [y5Y,y12Y] at hat0 dz dh
 obtain ⟨xyos,hxyos⟩:∃ xs,xs=yos.map offD:=⟨_,rfl⟩
 have cxyos:CleanL xyos:=by rw [hxyos];exact y11Y _
 simp only [←hxyos] at hat0 dz dh
 unfold zoneS at dz
 unfold hostS at dh
 refine y4Y (fun n d=>∃ (i:Int) (k:Nat) (nn:Int),d=⟨[(1,mkS app),(2,.ptr 2 1 0),(5,.bool true),(8,jI nn),(46,.sl 12 false po),(47,jI (O .len po)),(48,jI i)],[(2,⟨1,.rw,.var,(sB s ty po pl cl cm co is no)⟩)],false⟩/\i=k/\k<=q.length/\n=q.length-k/\nn=((q.take k).filter (y2rY app)).length) ⟨_,_,⟨_,0,_,rfl,rfl,by omega,rfl,by simp⟩,⟨⟨rfl,rfl,rfl,rfl,rfl,rfl,rfl,trivial⟩,⟨rfl,trivial⟩,rfl⟩⟩ ?_
 rintro J up n d ⟨i,k,nn,rfl,hi,hk,rfl,hnn⟩
 have hb1:=List.length_filter_le (y2rY app) (q.take k)
 have hb2:=List.length_take_le k q
 conv=>cbv
 rintro (_|_) h4<;>(conv=>cbv)
 case true =>
  replace h4:=t_lss hO h4
  rw [hlq] at h4
  obtain ⟨y,hy⟩:∃ y,q[k]?=some y:=⟨_,List.getElem?_eq_getElem (by omega)⟩
  have hat:atX po i (podD y):=y7Y hy hxp hi
  have e1:(((q.take (k+1)).filter (y2rY app)).length:Int)=nn+if (!decide (y.on=[])&&decide (y.app=app)) then 1 else 0:=by
   rw [List.take_add_one,hy,Option.toList_some,List.filter_append,hnn]
   have hbe:y2rY app y=(!decide (y.on=[])&&decide (y.app=app)):=rfl
   rw [←hbe]
   cases hQy:y2rY app y<;>simp [hQy]
  clear hy dz dh hat0
  obtain ⟨znm,zap,zn0,zn1,zpr,zrs,zts,zss,zns,zas,zsi,zon⟩:=y
  simp only [podD,podC] at hat e1
  obtain ⟨xzrs,hxzrs⟩:∃ xs,xs=zrs.map reqD:=⟨_,rfl⟩
  have cxzrs:CleanL xzrs:=by rw [hxzrs];exact y1bY _
  simp only [←hxzrs] at hat e1
  obtain ⟨xzts,hxzts⟩:∃ xs,xs=zts.map tolD:=⟨_,rfl⟩
  have cxzts:CleanL xzts:=by rw [hxzts];exact y2fY _
  simp only [←hxzts] at hat e1
  obtain ⟨xzss,hxzss⟩:∃ xs,xs=zss.map sprD:=⟨_,rfl⟩
  have cxzss:CleanL xzss:=by rw [hxzss];exact y2bY _
  simp only [←hxzss] at hat e1
  obtain ⟨xzns,hxzns⟩:∃ xs,xs=zns.map labD:=⟨_,rfl⟩
  have cxzns:CleanL xzns:=by rw [hxzns];exact yeY _
  simp only [←hxzns] at hat e1
  obtain ⟨xzas,hxzas⟩:∃ xs,xs=zas.map labD:=⟨_,rfl⟩
  have cxzas:CleanL xzas:=by rw [hxzas];exact yeY _
  simp only [←hxzas] at hat e1
  refine ⟨_,hat,?_⟩
  conv=>cbv
  repeat' (first|(refine And.intro (by first|assumption|exact ⟨by omega⟩|exact ⟨by rw [hlen];omega⟩|exact ⟨rfl,rfl⟩|exact ⟨rfl⟩|exact ⟨rfl,rfl⟩) ?_)|(intro (g:Nat);(conv=>cbv)))
  rintro (_|_) a1<;>replace a1:=cs hO a1<;>dsimp only [CmpS] at a1<;>(conv=>cbv)
  case false =>
   replace a1:zon=[]:=by first|exact a1|exact Classical.not_not.1 a1
   exact ⟨_,_,up _ _ ⟨_,k+1,_,rfl,by rw [y0Y hO (by omega) (by omega)];omega,by omega,rfl,by rw [e1];simp [a1]⟩,⟨⟨rfl,rfl,rfl,rfl,rfl,rfl,rfl,trivial⟩,⟨rfl,trivial⟩,rfl⟩,by omega⟩
  rintro (_|_) a2<;>replace a2:=cs hO a2<;>dsimp only [CmpS] at a2<;>(conv=>cbv)
  ·exact ⟨_,_,up _ _ ⟨_,k+1,_,rfl,by rw [y0Y hO (by omega) (by omega)];omega,by omega,rfl,by rw [e1];simp [a2]⟩,⟨⟨rfl,rfl,rfl,rfl,rfl,rfl,rfl,trivial⟩,⟨rfl,trivial⟩,rfl⟩,by omega⟩
  ·exact ⟨_,_,up _ _ ⟨_,k+1,_,rfl,by rw [y0Y hO (by omega) (by omega)];omega,by omega,rfl,by rw [e1,y0Y hO (by omega) (by omega)];simp [a1,a2]⟩,⟨⟨rfl,rfl,rfl,rfl,rfl,rfl,rfl,trivial⟩,⟨rfl,trivial⟩,rfl⟩,by omega⟩
 replace h4:=f_lss hO h4
 rw [hlq] at h4
 rw [List.take_of_length_le (by omega)] at hnn
 have hNN:nn=N0:=by rw [hnn,hN0]
 subst hNN
 clear hnn hN0 up h4 hi hk hb1 hb2
 repeat' (first|(refine And.intro (by first|assumption|exact ⟨by omega⟩|exact ⟨by rw [hlen];omega⟩|exact ⟨rfl,rfl⟩|exact ⟨rfl⟩|exact ⟨rfl,rfl⟩) ?_)|(intro (g:Nat);(conv=>cbv)))
 obtain ⟨fs,hfs⟩:∃ fs:List D,fs=[.str ⟨⟨[122,111,110,101]⟩⟩,.str ⟨⟨[104,111,115,116]⟩⟩]:=⟨_,rfl⟩
 have hlf:O .len fs=2:=by rw [o_len hO,hfs];rfl
 rw [←hfs]
 have hall:∀ k,k<2->∃ (key:Str) (dl:List DomV),fs[k]?=some (mkS key)/\V.v 35 [.agg (sB s ty po pl cl cm co is no),mkS key,mkS app,mkS [],mkS ynm] (.tup [.sl 3 false (dl.map domD),jI 0])/\sumI (dl.map (·.n))=nn/\(∀ d∈dl,0<=d.n/\d.n<=24)/\dl.length<=16:=by
  intro k hk
  rw [hfs]
  match k,hk with
  | 0,_=>obtain ⟨dl,a⟩:=dz;exact ⟨_,dl,rfl,a⟩
  | 1,_=>obtain ⟨dl,a⟩:=dh;exact ⟨_,dl,rfl,a⟩
 clear dz dh hfs
 refine y4Y (fun n d=>∃ (i:Int) (k g64:Nat),d=⟨[(1,mkS app),(2,.ptr 2 1 0),(5,.bool true),(8,jI nn),(64,.own 64 g64),(65,jI (O .len fs)),(66,jI i)],[(2,⟨1,.rw,.var,(sB s ty po pl cl cm co is no)⟩),(64,⟨g64,.rw,.arr 1 9,fs⟩)],false⟩/\i=k/\k<=2/\n=2-k) ⟨_,_,⟨_,0,_,rfl,rfl,by omega,rfl⟩,⟨⟨rfl,rfl,rfl,rfl,rfl,rfl,rfl,trivial⟩,⟨rfl,rfl,trivial⟩,rfl⟩⟩ ?_
 rintro J up n d ⟨i,k,g64,rfl,hi,hk,rfl⟩
 conv=>cbv
 rintro (_|_) h5<;>(conv=>cbv)
 case false=>first|trivial|rfl
 replace h5:=t_lss hO h5
 rw [hlf] at h5
 obtain ⟨key,dl,g1,k35,g3,g4,g5⟩:=hall k (by omega)
 have hgt:fs[O .nat i]?=some (mkS key):=by rw [o_nat hO,hi];simpa using g1
 obtain ⟨ds,hds⟩:∃ ds,ds=dl.map domD:=⟨_,rfl⟩
 have cds:CleanL ds:=by rw [hds];exact y39Y _
 rw [←hds] at k35
 have hlo:O .len ds=dl.length:=by rw [o_len hO,hds];simp
 have hsum:=yr9Y g4
 clear hall g1
 refine ⟨⟨by omega⟩,⟨by show i<O .len fs;rw [hlf];omega⟩,_,hgt,?_⟩
 conv=>cbv
 repeat' (first|(refine And.intro (by first|assumption|exact ⟨by omega⟩|exact ⟨by rw [hlen];omega⟩|exact ⟨rfl,rfl⟩|exact ⟨rfl⟩|exact ⟨rfl,rfl⟩) ?_)|(intro (g:Nat);(conv=>cbv)))
 refine ⟨_,hat0,?_⟩
 conv=>cbv
 repeat' (first|(refine And.intro (by first|assumption|exact ⟨by omega⟩|exact ⟨by rw [hlen];omega⟩|exact ⟨rfl,rfl⟩|exact ⟨rfl⟩|exact ⟨rfl,rfl⟩) ?_)|(intro (g:Nat);(conv=>cbv)))
 refine ⟨_,k35,?_⟩
 conv=>cbv
 repeat' (first|(refine And.intro (by first|assumption|exact ⟨by omega⟩|exact ⟨by rw [hlen];omega⟩|exact ⟨rfl,rfl⟩|exact ⟨rfl⟩|exact ⟨rfl,rfl⟩) ?_)|(intro (g:Nat);(conv=>cbv)))
 refine y4Y (fun n d=>∃ (i2:Int) (k2:Nat) (m:Int),d=⟨[(1,mkS app),(2,.ptr 2 1 0),(5,.bool true),(8,jI nn),(64,.own 64 g64),(65,jI (O .len fs)),(66,jI i),(13,.sl 3 false ds),(14,jI 0),(15,jI m),(82,.sl 3 false ds),(83,jI (O .len ds)),(84,jI i2)],[(2,⟨1,.rw,.var,(sB s ty po pl cl cm co is no)⟩),(64,⟨g64,.rw,.arr 1 9,fs⟩)],false⟩/\i2=k2/\k2<=dl.length/\n=dl.length-k2/\m=sumI ((dl.take k2).map (·.n))) ⟨_,_,⟨_,0,_,rfl,rfl,by omega,rfl,rfl⟩,⟨⟨rfl,rfl,rfl,rfl,rfl,rfl,rfl,rfl,rfl,rfl,rfl,rfl,rfl,trivial⟩,⟨rfl,rfl,trivial⟩,rfl⟩⟩ ?_
 rintro J2 up2 n2 d2 ⟨i2,k2,m,rfl,hi2,hk2,rfl,hm⟩
 have hs2:=hsum k2
 rw [←hm] at hs2
 conv=>cbv
 rintro (_|_) h6<;>(conv=>cbv)
 ·replace h6:=f_lss hO h6
  rw [hlo] at h6
  rw [List.take_of_length_le (by omega),g3] at hm
  rintro (_|_) h7<;>replace h7:=ci hO h7<;>dsimp only [CmpI] at h7<;>(conv=>cbv)
  case true=>exact absurd rfl h7
  rintro (_|_) h8<;>replace h8:=ci hO h8<;>dsimp only [CmpI] at h8<;>(conv=>cbv)
  case true=>exact absurd hm h8
  exact ⟨_,_,up _ _ ⟨_,k+1,_,rfl,by rw [y0Y hO (by omega) (by omega)];omega,by omega,rfl⟩,⟨⟨rfl,rfl,rfl,rfl,rfl,rfl,rfl,trivial⟩,⟨rfl,rfl,trivial⟩,rfl⟩,by omega⟩
 replace h6:=t_lss hO h6
 rw [hlo] at h6
 obtain ⟨z,hz⟩:∃ z,dl[k2]?=some z:=⟨_,List.getElem?_eq_getElem (by omega)⟩
 have hatz:atX ds i2 (domD z):=y7Y hz hds hi2
 have hzr:=g4 z (List.mem_of_getElem? hz)
 have e1:sumI ((dl.take (k2+1)).map (·.n))=m+z.n:=by
  rw [List.take_add_one,hz,List.map_append,yfjY,←hm]
  simp only [Option.toList_some,List.map_cons,List.map_nil,y4hY]
  have h0:sumI []=0:=rfl
  omega
 clear hz hm g3 hsum hds
 obtain ⟨zk,zv,zn⟩:=z
 simp only [domD] at hatz e1 hzr
 refine ⟨_,hatz,?_⟩
 conv=>cbv
 repeat' (first|(refine And.intro (by first|assumption|exact ⟨by omega⟩|exact ⟨by rw [hlen];omega⟩|exact ⟨rfl,rfl⟩|exact ⟨rfl⟩|exact ⟨rfl,rfl⟩) ?_)|(intro (g:Nat);(conv=>cbv)))
 exact ⟨_,_,up2 _ _ ⟨_,k2+1,_,rfl,by rw [y0Y hO (by omega) (by omega)];omega,by omega,rfl,by rw [e1,y0Y hO (by omega) (by omega)]⟩,⟨⟨rfl,rfl,rfl,rfl,rfl,rfl,rfl,rfl,rfl,rfl,rfl,rfl,rfl,trivial⟩,⟨rfl,rfl,trivial⟩,rfl⟩,by omega⟩
end Go.Proofs.AM
namespace Go.Proofs
open Go.Shelf
def Tryz.sortD_ren:Go.Shelf.Ren:=⟨fun|6=>129|15=>180|14=>179|28=>222|29=>223|20=>214|21=>215|22=>216|23=>217|24=>218|25=>219|26=>220|27=>221|46=>248|47=>249|48=>250|49=>251|50=>252|57=>264|n=>n,fun|22=>68|24=>75|25=>172|3=>3|39=>202|0=>0|53=>241|55=>243|4=>4|46=>234|45=>233|50=>238|5=>5|9=>9|66=>260|70=>264|76=>279|77=>280|n=>n,fun|n=>n⟩
theorem Tryz.sortD:Go.Proofs.SlLaysF0.n6 Tryz.prog Tryz.sortD_ren:={
 mixed:=by kernel_rfl
 f6:=⟨Tryz.f129.name,by decide,Tryz.func129.trans (congrArg some (by kernel_rfl))⟩
 f14:=⟨Tryz.f179.name,by decide,Tryz.func179.trans (congrArg some (by kernel_rfl))⟩
 f15:=Tryz.func180.trans (congrArg some (by kernel_rfl))
 f20:=⟨Tryz.f214.name,by decide,Tryz.func214.trans (congrArg some (by kernel_rfl))⟩
 f21:=⟨Tryz.f215.name,by decide,Tryz.func215.trans (congrArg some (by kernel_rfl))⟩
 f22:=⟨Tryz.f216.name,by decide,Tryz.func216.trans (congrArg some (by kernel_rfl))⟩
 f23:=⟨Tryz.f217.name,by decide,Tryz.func217.trans (congrArg some (by kernel_rfl))⟩
 f24:=⟨Tryz.f218.name,by decide,Tryz.func218.trans (congrArg some (by kernel_rfl))⟩
 f25:=⟨Tryz.f219.name,by decide,Tryz.func219.trans (congrArg some (by kernel_rfl))⟩
 f26:=⟨Tryz.f220.name,by decide,Tryz.func220.trans (congrArg some (by kernel_rfl))⟩
 f27:=⟨Tryz.f221.name,by decide,Tryz.func221.trans (congrArg some (by kernel_rfl))⟩
 f28:=Tryz.func222.trans (congrArg some (by kernel_rfl))
 f29:=Tryz.func223.trans (congrArg some (by kernel_rfl))
 f46:=⟨Tryz.f248.name,by decide,Tryz.func248.trans (congrArg some (by kernel_rfl))⟩
 f47:=Tryz.func249.trans (congrArg some (by kernel_rfl))
 f48:=Tryz.func250.trans (congrArg some (by kernel_rfl))
 f49:=⟨Tryz.f251.name,by decide,Tryz.func251.trans (congrArg some (by kernel_rfl))⟩
 f50:=⟨Tryz.f252.name,by decide,Tryz.func252.trans (congrArg some (by kernel_rfl))⟩
 f57:=⟨Tryz.f264.name,by decide,Tryz.func264.trans (congrArg some (by kernel_rfl))⟩
 t0:=Tryz.underlying0
 a0:=Tryz.isAgg0
 z0:=Tryz.sizeOf0
 v0:=Tryz.zeroValue0
 t3:=Tryz.underlying3
 a3:=Tryz.isAgg3
 z3:=Tryz.sizeOf3
 v3:=Tryz.zeroValue3
 t4:=Tryz.underlying4
 a4:=Tryz.isAgg4
 z4:=Tryz.sizeOf4
 v4:=Tryz.zeroValue4
 t5:=Tryz.underlying5
 a5:=Tryz.isAgg5
 z5:=Tryz.sizeOf5
 v5:=Tryz.zeroValue5
 t9:=Tryz.underlying9
 a9:=Tryz.isAgg9
 z9:=Tryz.sizeOf9
 v9:=Tryz.zeroValue9
 t22:=Tryz.underlying68
 a22:=Tryz.isAgg68
 z22:=Tryz.sizeOf68
 v22:=Tryz.zeroValue68
 t25:=Tryz.underlying172
 a25:=Tryz.isAgg172
 z25:=Tryz.sizeOf172
 v25:=Tryz.zeroValue172
 t39:=Tryz.underlying202
 a39:=Tryz.isAgg202
 z39:=Tryz.sizeOf202
 v39:=Tryz.zeroValue202
 t45:=Tryz.underlying233
 a45:=Tryz.isAgg233
 z45:=Tryz.sizeOf233
 v45:=Tryz.zeroValue233
 t46:=Tryz.underlying234
 a46:=Tryz.isAgg234
 z46:=Tryz.sizeOf234
 v46:=Tryz.zeroValue234
 t50:=Tryz.underlying238
 a50:=Tryz.isAgg238
 z50:=Tryz.sizeOf238
 v50:=Tryz.zeroValue238
 t53:=Tryz.underlying241
 a53:=Tryz.isAgg241
 z53:=Tryz.sizeOf241
 v53:=Tryz.zeroValue241
 t55:=Tryz.underlying243
 a55:=Tryz.isAgg243
 z55:=Tryz.sizeOf243
 v55:=Tryz.zeroValue243
 t66:=Tryz.underlying260
 a66:=Tryz.isAgg260
 z66:=Tryz.sizeOf260
 v66:=Tryz.zeroValue260
 t70:=Tryz.underlying264
 a70:=Tryz.isAgg264
 z70:=Tryz.sizeOf264
 v70:=Tryz.zeroValue264
 t76:=Tryz.underlying279
 a76:=Tryz.isAgg279
 z76:=Tryz.sizeOf279
 v76:=Tryz.zeroValue279
 t77:=Tryz.underlying280
 a77:=Tryz.isAgg280
 z77:=Tryz.sizeOf280
 v77:=Tryz.zeroValue280 }
end Go.Proofs
namespace Go.Proofs.AM
open Go Go.RowKit Go.Shelf Go.Sort
theorem y6mY {α β:Type} (f:α->β):∀ {m l:List β},m.Perm l->∀ p:List α,p.map f=m->∃ p',p.Perm p'/\p'.map f=l
 | _,_,.nil,p,hp=>by
   have:p=[]:=by simpa using hp
   subst this
   exact ⟨[],.nil,rfl⟩
 | _,_,.cons x h,p,hp=>by
   cases p with
   | nil=>simp at hp
   | cons a p =>
     simp only [List.map_cons,List.cons.injEq] at hp
     obtain ⟨rfl,hp⟩:=hp
     obtain ⟨p',h1,h2⟩:=y6mY f h p hp
     exact ⟨a::p',h1.cons a,by rw [List.map_cons,h2]⟩
 | _,_,.swap x y l,p,hp=>by
   cases p with
   | nil=>simp at hp
   | cons a p =>
     cases p with
     | nil=>simp at hp
     | cons b p =>
       simp only [List.map_cons,List.cons.injEq] at hp
       obtain ⟨rfl,rfl,rfl⟩:=hp
       exact ⟨b::a::p,.swap b a p,rfl⟩
 | _,_,.trans h1 h2,p,hp=>by
   obtain ⟨p1,q1,e1⟩:=y6mY f h1 p hp
   obtain ⟨p2,q2,e2⟩:=y6mY f h2 p1 e1
   exact ⟨p2,q1.trans q2,e2⟩
structure Row (k:Nat) (W:List Value->Prop) where
 cs:List Value
 len:cs.length=k
 one:∀ v∈cs,v.oneCell'=true
 wf:W cs
section
variable {c:Cx} {k:Nat} {W:List Value->Prop}
theorem ygbY:∀ {xs:List D} {vals:List Value},REl c k xs vals->(∀ x∈xs,∀ ev:Value,RV c x ev->ev.cells.size=k->W ev.cells.toList/\ev=.agg ev.cells) ->
 ∃ p:List (D × Row k W),p.map (·.1)=xs/\(p.map fun z=>z.2.cs).flatten=vals/\∀ z∈p,RV c z.1 (.agg z.2.cs.toArray)
 | [],vals,h,_=>by
   simp only [REl] at h
   subst h
   exact ⟨[],rfl,rfl,by simp⟩
 | x::xs,vals,h,hw=>by
   simp only [REl] at h
   obtain ⟨ev,rest,rfl,h1,h2,h3,h4⟩:=h
   obtain ⟨hW,he⟩:=hw x (by simp) ev h2 h1
   obtain ⟨p,p1,p2,p3⟩:=ygbY h4 fun y hy=>hw y (by simp [hy])
   refine ⟨(x,⟨ev.cells.toList,by simpa using h1,h3,hW⟩)::p,by simp [p1],by simp [p2],fun z hz=>?_⟩
   rcases List.mem_cons.1 hz with rfl|hz
   ·simp only [Array.toArray_toList]
    rw [←he];exact h2
   ·exact p3 z hz
theorem ygcY:∀ p:List (D × Row k W),(∀ z∈p,RV c z.1 (.agg z.2.cs.toArray))->REl c k (p.map (·.1)) (p.map fun z=>z.2.cs).flatten
 | [],_=>by simp [REl]
 | z::p,h=>by
   simp only [List.map_cons,List.flatten_cons,REl]
   exact ⟨.agg z.2.cs.toArray,_,by simp [Value.cells],by simp [Value.cells,z.2.len],h z (by simp),by simpa [Value.cells] using z.2.one,ygcY p fun y hy=>h y (by simp [hy])⟩
end
theorem ygdY {α:Type} {k:Nat} (hk:0<k):∀ (l:List (List α)),(∀ x∈l,x.length=k)->∀ t,l.flatten[t]?=(l[t / k]?).bind (·[t % k]?)
 | [],_,t=>by simp
 | x::l,h,t=>by
   have hx:=h x (by simp)
   rw [List.flatten_cons,List.getElem?_append]
   split
   ·rename_i hlt
    rw [Nat.div_eq_of_lt (by omega),Nat.mod_eq_of_lt (by omega)]
    rfl
   ·rename_i hge
    rw [ygdY hk l (fun y hy=>h y (by simp [hy])),hx]
    rw [show t / k=(t-k) / k+1 from Nat.div_eq_sub_div hk (by omega)]
    rw [show (t-k) % k=t % k by rw [←Nat.mod_eq_sub_mod (by omega)]]
    rfl
section
variable {P:Program} {ρ:Ren} {k:Nat} {W:List Value->Prop} [Inhabited (Row k W)]
theorem ygeY (hk:0<k) (l:List (Row k W)):(flatK Row.cs k l.toArray).toList=(l.map Row.cs).flatten:=by
 apply List.ext_getElem?
 intro t
 have hl:∀ x∈l.map Row.cs,x.length=k:=fun x hx=>by
  obtain ⟨y,_,rfl⟩:=List.mem_map.1 hx
  exact y.len
 rw [ygdY hk _ hl]
 by_cases ht:t<l.length*k
 ·have h1:=get_flatK Row.cs k l.toArray t (by simpa using ht)
  have hd:t / k<l.length:=Nat.div_lt_of_lt_mul (by rw [Nat.mul_comm];exact ht)
  have hm:t % k<k:=Nat.mod_lt _ hk
  have hs:t<(flatK Row.cs k l.toArray).size:=by simpa using ht
  rw [Array.getElem?_toList,Array.getElem?_eq_getElem hs,←getElem!_pos _ t hs,h1]
  rw [getElem!_pos l.toArray (t / k) (by simpa using hd)]
  rw [getElem!_pos _ (t % k) (by rw [Row.len];exact hm)]
  simp [List.getElem?_eq_getElem hd,List.getElem?_eq_getElem (show t % k<(l[t / k]).cs.length by rw [Row.len];exact hm)]
 ·rw [List.getElem?_eq_none (by simp;omega),List.getElem?_eq_none (l:=l.map Row.cs) (by simp;exact (Nat.le_div_iff_mul_le hk).2 (by omega))]
  rfl
theorem yrdY {w:World} {b:Nat} {cur:Array Value} {e:TypeId} (hh:w.heap[b]?=some (.cells cur e (0,0))) (F:Array Value) (hF:F.size<=cur.size) :
 ∃ cur',(putRow id w b 0 F).heap[b]?=some (.cells cur' e (0,0))/\cur'.size=cur.size/\cur'.toList.take F.size=F.toList/\∀ b',b'≠b->(putRow id w b 0 F).heap[b']?=w.heap[b']?:=by
 refine ⟨putCells id 0 F cur,?_,by simp [putCells],?_,fun b' hb=>?_⟩
 ·simp [putRow,mapBlock,Array.getElem?_modify,hh,onCells]
 ·apply List.ext_getElem?
  intro t
  rw [List.getElem?_take]
  split
  ·rename_i ht
   rw [Array.getElem?_toList,Array.getElem?_toList]
   simp only [putCells,Array.getElem?_mapIdx]
   rw [Array.getElem?_eq_getElem (show t<cur.size by omega),Array.getElem?_eq_getElem ht]
   simp [ht]
  ·rename_i ht
   rw [List.getElem?_eq_none (by simp;omega)]
 ·simp [putRow,mapBlock,Array.getElem?_modify,Ne.symm hb]
theorem yreY {G:World->Prop} (L:SlLaysF0.n6 P ρ) (hent:y1Y P (ρ.f 6)) (hk:0<k) (aE:∀ w,(isAgg (ρ.t 24)).run P w=.ok true w) (zE:∀ w,(Go.sizeOf (ρ.t 24)).run P w=.ok k w) (e:Nat)
 (cf:Row k W->Row k W->Int) (hO:SWO (ltOf cf)) (g:Nat) (eg:∀ args w,(callFunc g args).run P w=.ok (.enter g args) w)
 (hcmp:∀ (x y:Row k W) (w:World),Calls P g #[.agg x.cs.toArray,.agg y.cs.toArray] w fun e w'=>e=.returned (.int .i64 (cf x y))/\∃ q os',w'=grow (w.drewN q) os')
 (lt:D->D->Bool) (q gen cb:Nat) (xs:List D) (hn:xs.length<4611686018427387904)
 (hW:∀ (c:Cx),∀ x∈xs,∀ ev:Value,RV c x ev->ev.cells.size=k->W ev.cells.toList/\ev=.agg ev.cells)
 (hlt:∀ (c:Cx) (x y:D) (a b:Row k W),x∈xs->y∈xs->RV c x (.agg a.cs.toArray)->RV c y (.agg b.cs.toArray)->lt x y=ltOf cf a b)
 (hex:∃ ys,xs.Perm ys/\∀ (i j:Nat) x y,i<j->ys[i]?=some x->ys[j]?=some y->lt y x=false) :
 SCall (PR P G) cb (ρ.f 6) [.own q gen,.fn g [] []] [(q,⟨gen,.rw,.arr k e,xs⟩)]
  (fun r kn=>r=.tup []/\∃ ys,xs.Perm ys/\(∀ (i j:Nat) x y,i<j->ys[i]?=some x->ys[j]?=some y->lt y x=false)/\kn=[(q,⟨gen,.rw,.arr k e,ys⟩)]):=by
 intro bx hbx
 have hb:bx q=⟨gen,.rw,.arr k e,xs⟩:=hbx q _ (by simp [find])
 refine ⟨fun r bx'=>r=.tup []/\∃ ys,xs.Perm ys/\(∀ (i j:Nat) x y,i<j->ys[i]?=some x->ys[j]?=some y->lt y x=false)/\bx'=upd bx q ⟨gen,.rw,.arr k e,ys⟩,⟨hent,?_⟩,?_,?_⟩
 ·intro B0 S w0 lc w vs hG hmem hvs
  have hvs0:=hvs
  simp only [RVs,RV] at hvs
  obtain ⟨v,_,e1,⟨_,_,hv⟩,f,_,rfl,⟨x1,y1,rfl,hx1,hy1⟩,rfl⟩:=hvs
  have hv':v=lc q:=hv (by show (bx q).gen=gen;rw [hb])
  obtain rfl:x1=#[]:=by simpa using hx1
  obtain rfl:y1=#[]:=by simpa using hy1
  obtain rfl:vs=#[v,.func (.func g) #[] #[]]:=by apply Array.toList_inj.1;rw [e1]
  have hbr:=hmem.hbx q
  have hbr2:∃ vals,0<k/\w.ownsRow B0 e k (lc q) xs.length vals/\REl (cxOf B0 S bx lc w) k xs vals:=by
   have:=hbr (by show (bx q).st≠.dead;rw [hb];intro h;cases h)
   have hkd:((cxOf B0 S bx lc w).bx q)=⟨gen,.rw,.arr k e,xs⟩:=hb
   rw [hkd] at this
   exact this
  obtain ⟨vals,_,⟨hvl,hown⟩,hrel⟩:=hbr2
  have R:=ydmY (n:=2) hmem (by simp) hvs0
  rcases hown with ⟨hnil,h0⟩|⟨b,cap,cur,hsl,hB,hh,hnc,hcm,hcs,htk⟩
  ·have hxs:xs=[]:=List.length_eq_zero_iff.1 h0
   subst hxs
   rw [hv',hnil]
   refine (AnyF.slices_SortFunc_none (P:=P) (ρ:=ρ) { L with } none 0 _ w).mono ?_
   rintro ex w' ⟨rfl,rfl⟩
   have hup:upd bx q ⟨gen,.rw,.arr k e,[]⟩=bx:=by
    funext i
    by_cases hi:i=q
    ·subst hi;rw [ykY,hb]
    ·rw [y10Y hi]
   exact ⟨.tup [],bx,.tuple #[],lc,⟨rfl,[],.nil,by simp,hup.symm⟩,rfl,hmem,Keeps.refl _,by simp [RV,RVs]⟩
  ·obtain ⟨p,hp1,hp2,hp3⟩:=ygbY (k:=k) (W:=W) hrel fun x hx ev h1 h2=>hW _ x hx ev h1 h2
   have hpl:p.length=xs.length:=by rw [←hp1,List.length_map]
   obtain ⟨d,hd⟩:∃ d:Array (Row k W),d=(p.map (·.2)).toArray:=⟨_,rfl⟩
   have hds:d.size=xs.length:=by rw [hd];simp [hpl]
   have hflat:(flatK Row.cs k d).toList=vals:=by
    rw [hd,ygeY hk,List.map_map]
    exact hp2
   have hcur:xs.length*k<=cur.size:=by rw [hcs];exact Nat.mul_le_mul_right _ hnc
   have hH:HoldsK Row.cs k w b 0 d:=by
    intro j hj
    have hj':j<xs.length*k:=by simpa [hds] using hj
    have hget:cur[j]?=some (flatK Row.cs k d)[j]! := by
     have e2:(cur.toList.take (xs.length*k))[j]?=cur[j]?:=by rw [List.getElem?_take,if_pos hj',Array.getElem?_toList]
     rw [←e2,htk,←hflat,Array.getElem?_toList,Array.getElem?_eq_getElem hj,getElem!_pos _ j hj]
    refine ⟨?_,?_⟩
    ·simp only [World.cell?,hh,Nat.zero_add]
     simpa using hget
    ·simp only [World.frozen?,hh]
     simp
   rw [hv',hsl,←hds]
   refine (AnyQ.slices_SortFunc (P:=P) (ρ:=ρ) L k aE zE Row.cs (fun x=>x.len) (fun x=>x.one) cf hO g #[] b 0 cap d w eg (fun m os dk hs x y=>hcmp x y _) hH (Array.getElem?_eq_some_iff.1 hh).1 (by rw [hds];exact hn)).mono ?_
   rintro ex w' ⟨rfl,d',n',os,⟨hP1,_,hP2⟩,hS,rfl⟩
   have hperm:(p.map (·.2)).Perm d'.toList:=by
    have:d'.toList.Perm d.toList:=by
     rw [Array.extract_eq_self_of_le (by omega),Array.extract_eq_self_of_le (by omega)] at hP2
     exact hP2
    rw [hd] at this
    simpa using this.symm
   obtain ⟨p',hq1,hq2⟩:=y6mY (·.2) hperm p rfl
   have hys:xs.Perm (p'.map (·.1)):=by rw [←hp1];exact hq1.map _
   have hp3':∀ z∈p',RV (cxOf B0 S bx lc w) z.1 (.agg z.2.cs.toArray):=fun z hz=>hp3 z (hq1.mem_iff.2 hz)
   have hl':p'.length=xs.length:=by rw [←hpl];exact hq1.length_eq.symm
   have hsorted:∀ (i j:Nat) x y,i<j->(p'.map (·.1))[i]?=some x->(p'.map (·.1))[j]?=some y->lt y x=false:=by
    intro i j x y hij hi hj
    rw [List.getElem?_map,Option.map_eq_some_iff] at hi hj
    obtain ⟨zi,hzi,rfl⟩:=hi
    obtain ⟨zj,hzj,rfl⟩:=hj
    have hj2:=(List.getElem?_eq_some_iff.1 hzj).1
    have at':∀ (i:Nat) z,p'[i]?=some z->d'[i]! = z.2:=fun i z hz=>by
     have h1:d'.toList[i]?=some z.2:=by rw [←hq2,List.getElem?_map,hz];rfl
     have h2:=(List.getElem?_eq_some_iff.1 h1).1
     rw [getElem!_pos d' i (by simpa using h2)]
     rw [Array.getElem?_toList,Array.getElem?_eq_getElem (by simpa using h2)] at h1
     exact Option.some.inj h1
    rw [hlt (cxOf B0 S bx lc w) zj.1 zi.1 zj.2 zi.2 (by rw [←hp1];exact List.mem_map.2 ⟨zj,hq1.mem_iff.2 (List.mem_of_getElem? hzj),rfl⟩) (by rw [←hp1];exact List.mem_map.2 ⟨zi,hq1.mem_iff.2 (List.mem_of_getElem? hzi),rfl⟩) (hp3' zj (List.mem_of_getElem? hzj)) (hp3' zi (List.mem_of_getElem? hzi))]
    have:=hS i j (Nat.zero_le _) hij (by rw [hds];omega)
    rwa [at' i zi hzi,at' j zj hzj] at this
   have hd's:d'.size=xs.length:=hP1.trans hds
   obtain ⟨cur',g1,g2,g3,g4⟩:=yrdY (w:=Sort.ahead w n') (b:=b) hh (flatK Row.cs k d') (by simp [hd's];exact hcur)
   have hflat':(flatK Row.cs k d').toList=(p'.map fun z=>z.2.cs).flatten:=by
    have:d'=(p'.map (·.2)).toArray:=by apply Array.toList_inj.1;rw [hq2]
    rw [this,ygeY hk,List.map_map]
    rfl
   obtain ⟨R1,hkp⟩:=R.turned (k:=q) (by show (bx q).st=.rw;rw [hb]) ⟨gen,.rw,.arr k e,p'.map (·.1)⟩ (by show gen=(bx q).gen/\_=(bx q).kd/\_;rw [hb];exact ⟨rfl,rfl,rfl⟩) (w':=putRowK Row.cs k (Sort.ahead w n') b 0 d')
    ⟨rfl,rfl,rfl⟩ (by simp [putRowK]) (fun b' hb'=>g4 b' fun hbb=>hb' (by rw [hsl,hbb];rfl))
    (fun b' mes clk hm=>by
     refine ⟨mes,clk,?_,Nat.le_refl _,fun e he _=>⟨e,he,rfl,rfl⟩⟩
     rw [←hm]
     refine g4 b' fun hbb=>?_
     rw [hbb,hh] at hm
     simp at hm)
    (fun hkp=>by
     refine BR.arr (by show (upd bx q _ q).kd=_;rw [ykY]) hk (xs:=(p'.map fun z=>z.2.cs).flatten) ?_ ?_
     ·show World.ownsRow _ B0 e k (lc q) (upd bx q _ q).cs.length _
      rw [ykY]
      refine ⟨?_,.inr ⟨b,cap,cur',?_,hB,g1,?_,hcm,by rw [g2,hcs],?_⟩⟩
      ·rw [←hflat'];simp [hd's,hl']
      ·rw [hsl];simp [hl']
      ·simpa [hl'] using hnc
      ·rw [←hflat',←g3];simp [hd's,hl']
     ·show REl _ k (upd bx q _ q).cs _
      rw [ykY]
      exact ygcY p' fun z hz=>RV.keep hkp _ _ (hp3' z hz))
   have hbl:Below (putRowK Row.cs k (Sort.ahead w n') b 0 d').heap.size (putRowK Row.cs k (Sort.ahead w n') b 0 d') (Sort.grow (putRowK Row.cs k (Sort.ahead w n') b 0 d') os) :=
    ⟨rfl,rfl,rfl,by simp [Sort.grow],fun i hi=>by
     show (_++os)[i]?=_
     rw [Array.getElem?_append_left hi]⟩
   have R2:=R1.world hbl
   exact ⟨.tup [],upd bx q ⟨gen,.rw,.arr k e,p'.map (·.1)⟩,.tuple #[],lc,⟨rfl,_,hys,hsorted,rfl⟩,rfl,R2.mem,hkp.trans (y42Y (s:=⟨tm0 [D.own q gen,.fn g [] []],upd bx q ⟨gen,.rw,.arr k e,p'.map (·.1)⟩⟩) hbl),by simp [RV,RVs]⟩
 ·obtain ⟨ys,h1,h2⟩:=hex
  exact ⟨_,_,rfl,ys,h1,h2,rfl⟩
 ·rintro r bx' ⟨rfl,ys,h1,h2,rfl⟩
  refine ⟨_,⟨rfl,ys,h1,h2,rfl⟩,fun i b hi=>?_,fun i hi hi2=>?_⟩
  ·simp only [find] at hi
   split at hi
   ·rename_i hq
    rw [Nat.beq_eq] at hq
    simp only [Option.some.injEq] at hi
    subst hq hi
    exact ykY ..
   ·simp at hi
  ·simp only [find] at hi2 ⊢
   split at hi2
   ·simp at hi2
   ·rename_i hq
    have hne:i≠q:=fun h=>by subst h;rw [Nat.beq_refl] at hq;cases hq
    exact ⟨y10Y hne,by simp⟩
end
end Go.Proofs.AM
namespace Go.Proofs.AM
open Go Go.RowKit Go.Shelf
section
variable {P:Program} {ρ:Ren} {G:World->Prop}
end
end Go.Proofs.AM
namespace Go.Proofs.AM
open Go Cd
end Go.Proofs.AM
namespace Go.Proofs.AM
open Go Go.Lib Cd
end Go.Proofs.AM
namespace Go.Proofs.AM
open Go Go.Lib Go.RowKit Go.Maps Go.Sort Go.Shelf
theorem SCall.mono0 {V:Ans} {b g:Nat} {l:List D} {gv:List (Nat × Box)} {Q Q':D->List (Nat × Box)->Prop} (h:SCall V b g l gv Q) (hq:∀ r kn,Q r kn->Q' r kn):SCall V b g l gv Q':=by
 intro bx hbx
 obtain ⟨post,h1,h2,h3⟩:=h bx hbx
 refine ⟨post,h1,h2,fun r bx' hp=>?_⟩
 obtain ⟨kn,k1,k2⟩:=h3 r bx' hp
 exact ⟨kn,hq _ _ k1,k2⟩
def keyW (l:List Value):Prop:=∃ s r,l=.string s::r
abbrev RowK:=Row 7 keyW
instance:Inhabited RowK:=⟨⟨.string ⟨#[]⟩::List.replicate 6 (.bool false),rfl,by simp [Value.oneCell'],⟨_,_,rfl⟩⟩⟩
def domS:List Value->Str
 | _::.string s::_=>s.data.toList
 | _=>[]
def valW (l:List Value):Prop:=∃ a s r,l=a::.string s::r
abbrev RowV:=Row 3 valW
instance:Inhabited RowV:=⟨⟨[.bool false,.string ⟨#[]⟩,.bool false],rfl,by simp [Value.oneCell'],⟨_,_,_,rfl⟩⟩⟩
def cfV (x y:RowV):Int:=Lib.compareBytes (domS x.cs) (domS y.cs)
theorem ltV' (x y:RowV):ltOf cfV x y=decide (domS x.cs<domS y.cs):=by
 unfold ltOf cfV
 rw [yaaY]
 unfold cmpS
 by_cases h:domS x.cs<domS y.cs
 ·simp [h]
 ·by_cases h2:domS x.cs=domS y.cs
  ·rw [if_neg h,if_pos h2,decide_eq_false h];rfl
  ·rw [if_neg h,if_neg h2,decide_eq_false h];rfl
theorem swoV:SWO (ltOf cfV) where
 irrefl x:=by rw [ltV'];simp
 trans x y z h1 h2:=by rw [ltV'] at *;simp only [decide_eq_true_eq] at *;exact List.lt_trans h1 h2
 ntrans x y z h1 h2:=by
  rw [ltV'] at *
  simp only [decide_eq_false_iff_not] at *
  intro h3
  rcases y55Y (domS y.cs) (domS z.cs) with h|h|h
  ·rcases y55Y (domS x.cs) (domS y.cs) with h'|h'|h'
   ·exact h1 h'
   ·rw [←h'] at h;exact h2 (h' ▸ h)
   ·exact h2 h
  ·rw [←h] at h3;exact h1 h3
  ·exact h1 (List.lt_trans h3 h)
theorem yrfY (x y:RowV) (W:World):Calls Tryz.prog 130 #[.agg x.cs.toArray,.agg y.cs.toArray] W fun e w'=>e=.returned (.int .i64 (cfV x y))/\∃ q os',w'=grow (W.drewN q) os':=by
 obtain ⟨cs,hl,h1,a,s,r,rfl⟩:=x
 obtain ⟨ds,hl',h1',a',s',r',rfl⟩:=y
 have hcon:=fun W'=>Any.strings_Compare Tryz.laysCmp s s' W'
 change ∀ W',Calls Tryz.prog 131 _ _ _ at hcon
 unfold cfV
 simp only [domS]
 obtain ⟨q,hq⟩:∃ q,q=Lib.compareBytes s.data.toList s'.data.toList:=⟨_,rfl⟩
 rw [←hq] at hcon ⊢
 clear hq
 match r,hl with
 | [a1],_ =>
 match r',hl' with
 | [b1],_ =>
 clear h1 h1'
 simp only [List.toArray]
 go_enter Tryz.func130,Tryz.ntmps130
 go_wp2_with (go_at_call 131;refine (hcon _).mono ?_;rintro e w' ⟨rfl,rfl⟩)
 go_ret
 exact ⟨rfl,0,_,by rw [alloc_eq_grow,alloc_eq_grow,grow_grow];rfl⟩
def ltV:D->D->Bool
 | .agg (_::.str a::_),.agg (_::.str b::_)=>decide (a.data.toList<b.data.toList)
 | _,_=>false
theorem yawY (x y:DomV):ltV (domD x) (domD y)=decide (x.v<y.v):=rfl
theorem yrgY (c:Cx) (x y:DomV) (a b:RowV) (ha:RV c (domD x) (.agg a.cs.toArray)) (hb:RV c (domD y) (.agg b.cs.toArray)):ltV (domD x) (domD y)=ltOf cfV a b:=by
 have get:∀ (x:DomV) (a:RowV),RV c (domD x) (.agg a.cs.toArray)->domS a.cs=x.v:=by
  intro x a ha
  simp only [domD,RV,RVs,mkS] at ha
  obtain ⟨vs,e1,⟨v,r,e2,rfl,v2,r2,e3,rfl,_⟩,_⟩:=ha
  simp only [Value.agg.injEq] at e1
  subst e1
  simp only at e2
  rw [e2,e3]
  rfl
 rw [yawY,ltV',get x a ha,get y b hb]
theorem h129 (g:Nat) (a out:List DomV) (hp:a.Perm out) (ho:OrdV out) (hl:a.length<=1024) :
 SCall (PR Tryz.prog (Gd Tryz.prog)) 500 129 [.own 66 g,.fn 130 [] []] [(66,⟨g,.rw,.arr 3 75,a.map domD⟩)] (fun r kn=>r=.tup []/\kn=[(66,⟨g,.rw,.arr 3 75,out.map domD⟩)]):=by
 have hS:=yreY (G:=Gd Tryz.prog) (k:=3) (W:=valW) Tryz.sortD (enters_of Tryz.func129 (by kernel_rfl) rfl) (by decide) Tryz.isAgg75 Tryz.sizeOf75 75 cfV swoV 130 (enters_of Tryz.func130 (by kernel_rfl) rfl) yrfY ltV 66 g 500 (a.map domD) (by simp;omega)
  (fun c x hx ev hv _=>by
   obtain ⟨y,_,rfl⟩:=List.mem_map.1 hx
   simp only [domD,RV,RVs,mkS] at hv
   obtain ⟨vs,rfl,⟨v,r,e2,rfl,v2,r2,e3,rfl,_⟩,_⟩:=hv
   exact ⟨⟨_,_,r2,by show vs.toList=_;rw [e2,e3]⟩,rfl⟩)
  (fun c x y p q hx hy hp hq=>by
   obtain ⟨x,_,rfl⟩:=List.mem_map.1 hx
   obtain ⟨y,_,rfl⟩:=List.mem_map.1 hy
   exact yrgY c x y p q hp hq)
  ⟨out.map domD,hp.map _,fun i j x y hij hx hy=>by
   rw [List.getElem?_map] at hx hy
   obtain ⟨u,hu,rfl⟩:=Option.map_eq_some_iff.1 hx
   obtain ⟨v,hv,rfl⟩:=Option.map_eq_some_iff.1 hy
   rw [yawY,decide_eq_false_iff_not]
   obtain ⟨hi,rfl⟩:=List.getElem?_eq_some_iff.1 hu
   obtain ⟨hj,rfl⟩:=List.getElem?_eq_some_iff.1 hv
   exact fun h=>yahY h (List.pairwise_iff_getElem.1 ho i j hi hj hij)⟩
 refine SCall.mono0 hS ?_
 rintro r kn ⟨rfl,ys,h1,h2,rfl⟩
 refine ⟨rfl,?_⟩
 obtain ⟨b,hb1,hb2⟩:=y6mY domD h1 a rfl
 subst hb2
 have hbo:OrdB (fun d:DomV=>d.v) b:=by
  refine yniY (κ:=fun d:DomV=>d.v) (fun i j x y hij hx hy=>?_) ?_
  ·have h3:=h2 i j (domD x) (domD y) hij (by simp [hx]) (by simp [hy])
   rw [yawY,decide_eq_false_iff_not] at h3
   exact h3
  ·exact ((hb1.symm.trans hp).map _).nodup_iff.2 (ynhY (κ:=fun d:DomV=>d.v) ho)
 rw [yfkY (κ:=fun d:DomV=>d.v) (hb1.symm.trans hp) hbo ho]
end Go.Proofs.AM
