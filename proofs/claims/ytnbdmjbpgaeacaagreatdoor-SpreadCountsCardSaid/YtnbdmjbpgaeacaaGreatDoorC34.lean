/- Part 34 of the lemmas: AHe, AHf, AHg, AHh, AHi, PZm. -/
import Derived.Test.YtnbdmjbpgaeacaaGreatDoorC33
import Derived.Test.YtnbdmjbpgaeacaaGreatDoorC06
set_option maxRecDepth 100000
set_option maxHeartbeats 8000000
set_option linter.all false
namespace Go.Proofs.AM
open Go Go.Lib Cd
theorem yqpY (R:Ans) (s:SnapV) (hl:s.pods.length<4611686018427387904) (hne:∀ c∈s.claims,c.name≠[]) (key val app but:Str) (h76:∀ n,R.v 76 [snapD s,mkS n] (.tup [y5Y ((s.claims.find? fun x=>decide (x.name=n)).getD zeroC),.bool (s.claims.find? fun x=>decide (x.name=n)).isSome])) (h85:∀ key c,R.v 85 [mkS key,y5Y c] (mkS (domOf key c))):AnsF R c84 [snapD s,mkS key,mkS val,mkS app,mkS but] (jI (y1cY s key app but val)):=by
 obtain ⟨r,hr⟩:∃ r,r=y1cY s key app but val:=⟨_,rfl⟩
 rw [←hr]
 unfold y1cY at hr
 obtain ⟨CO,hCO⟩:∃ C,C=ygY s:=⟨_,rfl⟩
 have h76:∀ n,R.v 76 [snapD s,mkS n] (.tup [y5Y ((CO n).getD zeroC),.bool (CO n).isSome]):=fun n=>by rw [hCO];exact h76 n
 have hpn:∀ n,(CO n).isSome=true->n≠[]:=fun n h=>by
  rw [hCO] at h
  cases hc:ygY s n with
  | none=>rw [hc] at h;exact absurd h (by decide)
  | some c=>obtain ⟨h1,h2⟩:=y37Y hc;rw [←h2];exact hne c h1
 have hQe:∀ p,inDom s key app but val p=(match CO p.on with|some c=>decide (p.app=app)&&(!decide (p.name=but)&&decide (domOf key c=val))|none=>false):=fun p=>by rw [hCO];rfl
 obtain ⟨Q,hQ⟩:∃ Q,Q=inDom s key app but val:=⟨_,rfl⟩
 rw [←hQ] at hr hQe
 replace h85:=h85 key
 clear hCO hQ hne
 obtain ⟨ty,po,pl,cl,cm,co,is,no,hce,hsn,cty,cpo,cpl,ccl,ccm,cco,cis,cno⟩:=yxY s
 rw [hsn] at h76 ⊢
 have hxs:=hce.po
 obtain ⟨l,hl0⟩:∃ l,l=s.pods:=⟨_,rfl⟩
 rw [←hl0] at hl hxs hr
 clear hce hsn hl0
 refine y2Y ⟨rfl,by decide⟩ fun O hO V hV=>?_
 subst hV
 have hlen:O .len po=l.length:=by rw [o_len hO,hxs];simp
 conv=>cbv
 refine y4Y (fun n d=>∃ (i:Int) (k:Nat) (c:Int),d=⟨[(1,mkS key),(2,mkS val),(3,mkS app),(4,mkS but),(5,.ptr 5 1 0),(11,jI c),(17,.sl 12 false po),(18,jI (O .len po)),(19,jI i)],[(5,⟨1,.rw,.var,(sB s ty po pl cl cm co is no)⟩)],false⟩/\i=k/\k<=l.length/\n=l.length-k/\c=((l.take k).filter Q).length) ⟨_,_,⟨_,0,_,rfl,rfl,by omega,rfl,by simp⟩,⟨⟨rfl,rfl,rfl,rfl,rfl,rfl,rfl,rfl,rfl,trivial⟩,⟨rfl,trivial⟩,rfl⟩⟩ ?_
 rintro J up n d ⟨i,k,c,rfl,hi,hk,rfl,hc⟩
 conv=>cbv
 rintro (_|_) h1<;>(conv=>cbv)
 ·replace h1:=f_lss hO h1
  rw [hlen] at h1
  rw [List.take_of_length_le (by omega)] at hc
  rw [hr,hc]
 replace h1:=t_lss hO h1
 rw [hlen] at h1
 obtain ⟨y,hy⟩:∃ y,l[k]?=some y:=⟨_,List.getElem?_eq_getElem (by omega)⟩
 have hat:atX po i (podD y):=y7Y hy hxs hi
 have hk1:=h76 y.on
 obtain ⟨cx,hcx⟩:∃ cx,cx=(CO y.on).getD zeroC:=⟨_,rfl⟩
 obtain ⟨q,hq⟩:∃ q,q=(CO y.on).isSome:=⟨_,rfl⟩
 have hk85:=h85 cx
 rw [←hcx,←hq] at hk1
 obtain ⟨v,hv⟩:∃ v,v=domOf key cx:=⟨_,rfl⟩
 rw [←hv] at hk85
 have hpn2:=hpn y.on
 rw [←hq] at hpn2
 have hQy:Q y=(q&&(decide (y.app=app)&&(!decide (y.name=but)&&decide (v=val)))):=by
  rw [hQe]
  cases hc0:CO y.on with
  | none=>rw [hc0] at hq;rw [hq];rfl
  | some c0 =>
    rw [hc0] at hq hcx
    simp only [Option.getD_some] at hcx
    subst hcx
    rw [hq,hv]
    rfl
 have hb1:=List.length_filter_le Q (l.take k)
 have hb2:=List.length_take_le k l
 have e1:(((l.take (k+1)).filter Q).length:Int)=c+if (q&&(decide (y.app=app)&&(!decide (y.name=but)&&decide (v=val)))) then 1 else 0:=by
  rw [List.take_add_one,hy,Option.toList_some,List.filter_append,hc,←hQy]
  cases hQy:Q y<;>simp [hQy]
 clear hQy hQe hy hpn hcx hq hv h76 h85 hr
 obtain ⟨ynm,yap,yn0,yn1,ypr,yrs,yts,yss,yns,yas,ysi,yon⟩:=y
 simp only [podD,podC] at hat hk1 e1 hpn2
 obtain ⟨xyrs,hxyrs⟩:∃ xs,xs=yrs.map reqD:=⟨_,rfl⟩
 have cxyrs:CleanL xyrs:=by rw [hxyrs];exact y1bY _
 simp only [←hxyrs] at hat hk1 e1 hpn2
 obtain ⟨xyts,hxyts⟩:∃ xs,xs=yts.map tolD:=⟨_,rfl⟩
 have cxyts:CleanL xyts:=by rw [hxyts];exact y2fY _
 simp only [←hxyts] at hat hk1 e1 hpn2
 obtain ⟨xyss,hxyss⟩:∃ xs,xs=yss.map sprD:=⟨_,rfl⟩
 have cxyss:CleanL xyss:=by rw [hxyss];exact y2bY _
 simp only [←hxyss] at hat hk1 e1 hpn2
 obtain ⟨xyns,hxyns⟩:∃ xs,xs=yns.map labD:=⟨_,rfl⟩
 have cxyns:CleanL xyns:=by rw [hxyns];exact yeY _
 simp only [←hxyns] at hat hk1 e1 hpn2
 obtain ⟨xyas,hxyas⟩:∃ xs,xs=yas.map labD:=⟨_,rfl⟩
 have cxyas:CleanL xyas:=by rw [hxyas];exact yeY _
 simp only [←hxyas] at hat hk1 e1 hpn2
 obtain ⟨znm,zpo,zge,⟨zot,zoz,zok⟩,zpr,zc0,zc1,zos,ztr,zid,zph,zbo,zma⟩:=cx
 simp only [y5Y,y12Y] at hk1 hk85
 obtain ⟨xzos,hxzos⟩:∃ xs,xs=zos.map offD:=⟨_,rfl⟩
 have cxzos:CleanL xzos:=by rw [hxzos];exact y11Y _
 simp only [←hxzos] at hk1 hk85
 refine ⟨_,hat,?_⟩
 conv=>cbv
 repeat' (first|(refine And.intro (by first|assumption|exact ⟨by omega⟩|exact ⟨by rw [hlen];omega⟩|exact ⟨rfl,rfl⟩|exact ⟨rfl⟩|exact ⟨rfl,rfl⟩) ?_)|(intro (g:Nat);(conv=>cbv)))
 refine ⟨_,hk1,?_⟩
 conv=>cbv
 repeat' (first|(refine And.intro (by first|assumption|exact ⟨by omega⟩|exact ⟨by rw [hlen];omega⟩|exact ⟨rfl,rfl⟩|exact ⟨rfl⟩|exact ⟨rfl,rfl⟩) ?_)|(intro (g:Nat);(conv=>cbv)))
 cases q<;>(conv=>cbv)
 case false=>exact ⟨_,_,up _ _ ⟨_,k+1,c,rfl,by rw [y0Y hO (by omega) (by omega)];omega,by omega,rfl,by rw [e1];simp⟩,⟨⟨rfl,rfl,rfl,rfl,rfl,rfl,rfl,rfl,rfl,trivial⟩,⟨rfl,trivial⟩,rfl⟩,by omega⟩
 replace hpn2:=hpn2 rfl
 repeat' (first|(refine And.intro (by first|assumption|exact ⟨by omega⟩|exact ⟨by rw [hlen];omega⟩|exact ⟨rfl,rfl⟩|exact ⟨rfl⟩|exact ⟨rfl,rfl⟩) ?_)|(intro (g:Nat);(conv=>cbv)))
 rintro (_|_) a0<;>replace a0:=cs hO a0<;>dsimp only [CmpS] at a0<;>(conv=>cbv)
 case false=>exact absurd (by first|exact a0|exact Classical.not_not.1 a0) hpn2
 repeat' (first|(refine And.intro (by first|assumption|exact ⟨by omega⟩|exact ⟨by rw [hlen];omega⟩|exact ⟨rfl,rfl⟩|exact ⟨rfl⟩|exact ⟨rfl,rfl⟩) ?_)|(intro (g:Nat);(conv=>cbv)))
 rintro (_|_) a1<;>replace a1:=cs hO a1<;>dsimp only [CmpS] at a1<;>(conv=>cbv)
 case false=>exact ⟨_,_,up _ _ ⟨_,k+1,c,rfl,by rw [y0Y hO (by omega) (by omega)];omega,by omega,rfl,by rw [e1];simp [a1]⟩,⟨⟨rfl,rfl,rfl,rfl,rfl,rfl,rfl,rfl,rfl,trivial⟩,⟨rfl,trivial⟩,rfl⟩,by omega⟩
 repeat' (first|(refine And.intro (by first|assumption|exact ⟨by omega⟩|exact ⟨by rw [hlen];omega⟩|exact ⟨rfl,rfl⟩|exact ⟨rfl⟩|exact ⟨rfl,rfl⟩) ?_)|(intro (g:Nat);(conv=>cbv)))
 rintro (_|_) a2<;>replace a2:=cs hO a2<;>dsimp only [CmpS] at a2<;>(conv=>cbv)
 case false=>exact ⟨_,_,up _ _ ⟨_,k+1,c,rfl,by rw [y0Y hO (by omega) (by omega)];omega,by omega,rfl,by rw [e1];simp [a1,a2]⟩,⟨⟨rfl,rfl,rfl,rfl,rfl,rfl,rfl,rfl,rfl,trivial⟩,⟨rfl,trivial⟩,rfl⟩,by omega⟩
 repeat' (first|(refine And.intro (by first|assumption|exact ⟨by omega⟩|exact ⟨by rw [hlen];omega⟩|exact ⟨rfl,rfl⟩|exact ⟨rfl⟩|exact ⟨rfl,rfl⟩) ?_)|(intro (g:Nat);(conv=>cbv)))
 refine ⟨_,hk85,?_⟩
 conv=>cbv
 repeat' (first|(refine And.intro (by first|assumption|exact ⟨by omega⟩|exact ⟨by rw [hlen];omega⟩|exact ⟨rfl,rfl⟩|exact ⟨rfl⟩|exact ⟨rfl,rfl⟩) ?_)|(intro (g:Nat);(conv=>cbv)))
 rintro (_|_) a3<;>replace a3:=cs hO a3<;>dsimp only [CmpS] at a3<;>(conv=>cbv)
 case false=>exact ⟨_,_,up _ _ ⟨_,k+1,c,rfl,by rw [y0Y hO (by omega) (by omega)];omega,by omega,rfl,by rw [e1];simp [a1,a2,a3]⟩,⟨⟨rfl,rfl,rfl,rfl,rfl,rfl,rfl,rfl,rfl,trivial⟩,⟨rfl,trivial⟩,rfl⟩,by omega⟩
 exact ⟨_,_,up _ _ ⟨_,k+1,_,rfl,by rw [y0Y hO (by omega) (by omega)];omega,by omega,rfl,by rw [e1,y0Y hO (by omega) (by omega)];simp [a1,a2,a3]⟩,⟨⟨rfl,rfl,rfl,rfl,rfl,rfl,rfl,rfl,rfl,trivial⟩,⟨rfl,trivial⟩,rfl⟩,by omega⟩
theorem yqqY (R:Ans) (s:SnapV) (hl:s.claims.length<=1024) (key app but claim:Str) (h84:∀ v,R.v 84 [snapD s,mkS key,mkS v,mkS app,mkS but] (jI (y1cY s key app but v))) (h85:∀ key c,R.v 85 [mkS key,y5Y c] (mkS (domOf key c))):AnsF R c81 [snapD s,mkS key,mkS app,mkS but,mkS claim] (.sl 3 false ((domsL s key app but claim).map domD)):=by
 obtain ⟨DM,hDM⟩:∃ f,f=domM s key app but:=⟨_,rfl⟩
 obtain ⟨rs,hrs⟩:∃ r,r=(domsL s key app but claim).map domD:=⟨_,rfl⟩
 have crs:CleanL rs:=by rw [hrs];exact y39Y _
 rw [←hrs]
 rw [y3qY,←hDM] at hrs
 replace hrs:rs=((putsL key claim s.claims).map DM).map domD:=hrs
 have hnv:∀ v,y1cY s key app but v=(DM v).n:=fun v=>by rw [hDM];rfl
 have hdm:∀ v,domD (DM v)=.agg [mkS key,mkS v,jI (DM v).n]:=fun v=>by rw [hDM];rfl
 have hdv:∀ v,(DM v).v=v:=fun v=>by rw [hDM];rfl
 simp only [hnv] at h84
 replace h85:=h85 key
 have hsn0:=yqbY key claim
 have hln0:=yqcY key claim
 have h0:putsL key claim []=[]:=rfl
 obtain ⟨PS,hPS⟩:∃ P,P=putsL key claim:=⟨_,rfl⟩
 rw [←hPS] at hrs hsn0 h0
 simp only [←hPS] at hln0
 clear hDM hnv hPS
 obtain ⟨ty,po,pl,cl,cm,co,is,no,hce,hsn,cty,cpo,cpl,ccl,ccm,cco,cis,cno⟩:=yxY s
 rw [hsn] at h84 ⊢
 have hxs:=hce.cl
 obtain ⟨l,hl0⟩:∃ l,l=s.claims:=⟨_,rfl⟩
 rw [←hl0] at hl hxs hrs
 clear hce hsn hl0
 refine y2Y ⟨rfl,by decide⟩ fun O hO V hV=>?_
 subst hV
 have hlen:O .len cl=l.length:=by rw [o_len hO,hxs];simp
 have hl1:∀ v:D,O .len [v]=1:=fun v=>by rw [o_len hO];rfl
 conv=>cbv
 repeat' (first|(refine And.intro (by first|assumption|exact ⟨by omega⟩|exact ⟨by rw [hlen];omega⟩|exact ⟨rfl,rfl⟩|exact ⟨rfl⟩|exact ⟨rfl,rfl⟩) ?_)|(intro (g:Nat);(conv=>cbv)))
 refine y4Y (fun n d=>∃ (i:Int) (k gg:Nat) (ys:List D),d=⟨[(1,mkS key),(2,mkS app),(3,mkS but),(4,mkS claim),(5,.ptr 5 1 0),(11,.own 71 gg),(18,.sl 15 false cl),(19,jI (O .len cl)),(20,jI i)],[(5,⟨1,.rw,.var,(sB s ty po pl cl cm co is no)⟩),(71,⟨gg,.rw,.arr 3 76,ys⟩)],false⟩/\i=k/\k<=l.length/\n=l.length-k/\ys=((PS (l.take k)).map DM).map domD) ⟨_,_,⟨_,0,_,[],rfl,rfl,by omega,rfl,by rw [List.take_zero,h0];rfl⟩,⟨⟨rfl,rfl,rfl,rfl,rfl,rfl,rfl,rfl,rfl,trivial⟩,⟨rfl,rfl,trivial⟩,rfl⟩⟩ ?_
 rintro J up n d ⟨i,k,gg,ys,rfl,hi,hk,rfl,hys⟩
 conv=>cbv
 rintro (_|_) h1<;>(conv=>cbv)
 ·replace h1:=f_lss hO h1
  rw [hlen] at h1
  rw [List.take_of_length_le (by omega),←hrs] at hys
  rw [hys]
  exact ⟨crs,by first|trivial|rfl⟩
 replace h1:=t_lss hO h1
 rw [hlen] at h1
 obtain ⟨y,hy⟩:∃ y,l[k]?=some y:=⟨_,List.getElem?_eq_getElem (by omega)⟩
 have hat:atX cl i (y5Y y):=y7Y hy hxs hi
 have hk85:=h85 y
 obtain ⟨v,hv⟩:∃ v,v=domOf key y:=⟨_,rfl⟩
 rw [←hv] at hk85
 have hk84:=h84 v
 have hdmv:=hdm v
 obtain ⟨nv,hnv⟩:∃ n,n=(DM v).n:=⟨_,rfl⟩
 rw [←hnv] at hk84 hdmv
 have hlt:=hln0 (l.take k)
 have htl:=List.length_take_le k l
 have hsn2:=hsn0 (l.take k) y
 have htk:l.take (k+1)=l.take k++[y]:=by rw [List.take_add_one,hy];rfl
 obtain ⟨M,hM⟩:∃ M,M=PS (l.take k):=⟨_,rfl⟩
 rw [←hM] at hys hlt hsn2
 rw [←htk,←hv] at hsn2
 have hct:y25Y claim y=(decide (y.name=claim)||(decide (y.phase=3)&&!y.marked)):=rfl
 rw [hct] at hsn2
 obtain ⟨N1,hN1⟩:∃ N,N=PS (l.take (k+1)):=⟨_,rfl⟩
 rw [←hN1] at hsn2
 have hskip:(decide (y.name=claim)||(decide (y.phase=3)&&!y.marked))=false->ys=(N1.map DM).map domD:=fun h=>by rw [hsn2,h];exact hys
 have hput:(decide (y.name=claim)||(decide (y.phase=3)&&!y.marked))=true->N1=putS v M:=fun h=>by rw [hsn2,h];rfl
 have hly:O .len ys=M.length:=by rw [o_len hO,hys];simp
 have cys:ClosedX ys:=(show CleanL ys by rw [hys,List.map_map];exact y8Y (f:=domD ∘ DM) (fun _=>⟨rfl,rfl⟩) rfl).x
 have hML:M.length<=1024:=by omega
 have up:∀ n d,(∃ (i:Int) (k gg:Nat) (ys:List D),d=⟨[(1,mkS key),(2,mkS app),(3,mkS but),(4,mkS claim),(5,.ptr 5 1 0),(11,.own 71 gg),(18,.sl 15 false cl),(19,jI (O .len cl)),(20,jI i)],[(5,⟨1,.rw,.var,(sB s ty po pl cl cm co is no)⟩),(71,⟨gg,.rw,.arr 3 76,ys⟩)],false⟩/\i=k/\k<=l.length/\n=l.length-k/\ys=((PS (l.take k)).map DM).map domD)->J n d:=up
 clear hsn2 htk hM hy h85 h84 hsn0 hln0 hv hct hdm
 obtain ⟨ynm,ypo,yge,⟨yot,yoz,yok⟩,ypr,yc0,yc1,yos,ytr,yid,yph,ybo,yma⟩:=y
 simp only [y5Y,y12Y] at hat hk85 hskip hput
 obtain ⟨xyos,hxyos⟩:∃ xs,xs=yos.map offD:=⟨_,rfl⟩
 have cxyos:CleanL xyos:=by rw [hxyos];exact y11Y _
 simp only [←hxyos] at hat hk85 hskip hput
 refine ⟨_,hat,?_⟩
 conv=>cbv
 repeat' (first|(refine And.intro (by first|assumption|exact ⟨by omega⟩|exact ⟨by rw [hlen];omega⟩|exact ⟨rfl,rfl⟩|exact ⟨rfl⟩|exact ⟨rfl,rfl⟩) ?_)|(intro (g:Nat);(conv=>cbv)))
 rintro (_|_) a1<;>replace a1:=cs hO a1<;>dsimp only [CmpS] at a1<;>(conv=>cbv)
 case false =>
  replace a1:ynm=claim:=by first|exact a1|exact Classical.not_not.1 a1
  have hNp:N1=putS v M:=hput (by simp [a1])
  repeat' (first|(refine And.intro (by first|assumption|exact ⟨by omega⟩|exact ⟨by rw [hlen];omega⟩|exact ⟨rfl,rfl⟩|exact ⟨rfl⟩|exact ⟨rfl,rfl⟩) ?_)|(intro (g:Nat);(conv=>cbv)))
  refine ⟨_,hk85,?_⟩
  conv=>cbv
  repeat' (first|(refine And.intro (by first|assumption|exact ⟨by omega⟩|exact ⟨by rw [hlen];omega⟩|exact ⟨rfl,rfl⟩|exact ⟨rfl⟩|exact ⟨rfl,rfl⟩) ?_)|(intro (g:Nat);(conv=>cbv)))
  refine y4Y (fun n d=>∃ (a:Int) (j:Nat),d=⟨[(1,mkS key),(2,mkS app),(3,mkS but),(4,mkS claim),(5,.ptr 5 1 0),(11,.own 71 gg),(18,.sl 15 false cl),(19,jI (O .len cl)),(20,jI i),(14,mkS v),(15,jI a)],[(5,⟨1,.rw,.var,(sB s ty po pl cl cm co is no)⟩),(71,⟨gg,.rw,.arr 3 76,ys⟩)],false⟩/\a=j/\j<=M.length/\n=M.length-j/\∀ (x:Nat) z,x<j->M[x]?=some z->z<v) ⟨_,_,⟨_,0,rfl,rfl,by omega,rfl,by simp⟩,⟨⟨rfl,rfl,rfl,rfl,rfl,rfl,rfl,rfl,rfl,rfl,rfl,trivial⟩,⟨rfl,rfl,trivial⟩,rfl⟩⟩ ?_
  rintro J2 up2 n2 d2 ⟨a,j,rfl,ha,hj,rfl,hno⟩
  have lay:(∀ z,M[j]?=some z->¬z<v)->M[j]?≠some v->O .app (O .app (O .subL ys 0 a) [.agg [mkS key,mkS v,jI nv]]) (O .subL ys a (O .len ys))=((PS (l.take (k+1))).map DM).map domD/\CleanL (O .subL ys 0 a)/\CleanL (O .subL ys a (O .len ys))/\O .len (O .subL ys 0 a)=j/\O .len [D.agg [mkS key,mkS v,jI nv]]=1/\O .len (O .app (O .subL ys 0 a) [.agg [mkS key,mkS v,jI nv]])=j+1/\O .len (O .subL ys a (O .len ys))=M.length-j:=by
   intro n1 n2
   obtain ⟨_,hp⟩:=y4bY v M j hj hno n1
   have e1:O .subL ys 0 a=(M.take j).map (domD ∘ DM):=by rw [y20Y hO,hys,ha,List.map_map,←List.map_take];simp
   have e2:O .subL ys a (O .len ys)=(M.drop j).map (domD ∘ DM):=by rw [y20Y hO,hly,hys,ha,List.map_map,List.take_of_length_le (by simp)];simp
   refine ⟨?_,y8Y (f:=domD ∘ DM) (fun _=>⟨rfl,rfl⟩) e1,y8Y (f:=domD ∘ DM) (fun _=>⟨rfl,rfl⟩) e2,?_,?_,?_,?_⟩
   ·rw [←hN1,hNp,hp n2,e1,e2,o_app hO,o_app hO,←hdmv];simp
   ·rw [o_len hO,e1];simp;omega
   ·rw [o_len hO];rfl
   ·rw [o_len hO,o_app hO,e1];simp;omega
   ·rw [o_len hO,e2];simp;omega
  conv=>cbv
  rintro (_|_) b1<;>(conv=>cbv)
  ·replace b1:=f_lss hO b1
   rw [hly] at b1
   have hn:M[j]?=none:=List.getElem?_eq_none (by omega)
   rintro (_|_) b2<;>(conv=>cbv)
   ·obtain ⟨hr,hc1,hc2,g1,g2,g3,g4⟩:=lay (by rw [hn];simp) (by rw [hn];simp)
    obtain ⟨us,hus⟩:∃ us,us=O .subL ys 0 a:=⟨_,rfl⟩
    obtain ⟨zs,hzs⟩:∃ zs,zs=O .subL ys a (O .len ys):=⟨_,rfl⟩
    obtain ⟨ws,hws⟩:∃ ws,ws=O .app us [.agg [mkS key,mkS v,jI nv]]:=⟨_,rfl⟩
    rw [←hus,←hzs] at hr
    rw [←hus] at hc1 g1
    rw [←hzs] at hc2 g4
    rw [←hus,←hws] at g3
    have cz:ClosedX us:=hc1.x
    have cz2:ClosedX zs:=hc2.x
    refine And.intro cys ?_
    conv=>cbv
    refine ⟨⟨by omega⟩,⟨by omega⟩,⟨by omega⟩,?_⟩
    rw [←hus]
    conv=>cbv
    refine ⟨cz,⟨by rw [g1];omega⟩,?_⟩
    conv=>cbv
    repeat' (first|(refine And.intro (by first|assumption|exact ⟨by omega⟩|exact ⟨by rw [hlen];omega⟩|exact ⟨rfl,rfl⟩|exact ⟨rfl⟩|exact ⟨rfl,rfl⟩) ?_)|(intro (g:Nat);(conv=>cbv)))
    refine ⟨_,hk84,?_⟩
    conv=>cbv
    repeat' (first|(refine And.intro (by first|assumption|exact ⟨by omega⟩|exact ⟨by rw [hlen];omega⟩|exact ⟨rfl,rfl⟩|exact ⟨rfl⟩|exact ⟨rfl,rfl⟩) ?_)|(intro (g:Nat);(conv=>cbv)))
    refine ⟨⟨?_⟩,?_⟩
    ·show (O .len us+O .len [_])*((40:Nat):Int)<=_
     rw [g1,hl1];omega
    conv=>cbv
    refine ⟨⟨by omega⟩,⟨by omega⟩,⟨by omega⟩,?_⟩
    rw [←hzs]
    conv=>cbv
    refine ⟨cz2,⟨?_⟩,?_⟩
    ·show (O .len (O .app us [.agg [mkS key,mkS v,jI nv]])+O .len zs)*((40:Nat):Int)<=_
     rw [←hws,g3,g4];omega
    conv=>cbv
    exact ⟨_,_,up _ _ ⟨_,k+1,gg+1+1+1,_,rfl,by rw [y0Y hO (by omega) (by omega)];omega,by omega,rfl,hr⟩,⟨⟨rfl,rfl,rfl,rfl,rfl,rfl,rfl,rfl,rfl,trivial⟩,⟨rfl,rfl,trivial⟩,rfl⟩,by omega⟩
   ·replace b2:=t_lss hO b2
    rw [hly] at b2
    exfalso
    omega
  replace b1:=t_lss hO b1
  rw [hly] at b1
  obtain ⟨z,hz⟩:∃ z,M[j]?=some z:=⟨_,List.getElem?_eq_getElem (by omega)⟩
  have hzy:ys[O .nat a]?=some (domD (DM z)):=by rw [o_nat hO,hys,ha];simp [hz]
  have hzd:domD (DM z)=.agg [mkS (DM z).k,mkS z,jI (DM z).n]:=by have:=hdv z;unfold domD;rw [this]
  rw [hzd] at hzy
  obtain ⟨zk,hzk⟩:∃ x,x=(DM z).k:=⟨_,rfl⟩
  obtain ⟨zn,hzn⟩:∃ x,x=(DM z).n:=⟨_,rfl⟩
  rw [←hzk,←hzn] at hzy
  clear hzk hzn hzd
  refine ⟨⟨by omega⟩,⟨by rw [hly];omega⟩,?_⟩
  conv=>cbv
  refine ⟨_,hzy,?_⟩
  conv=>cbv
  rintro (_|_) b2<;>(conv=>cbv)
  case true =>
   replace b2:z<v:=y76Y hO b2
   exact ⟨_,_,up2 _ _ ⟨_,j+1,rfl,by rw [y0Y hO (by omega) (by omega)];omega,by omega,rfl,fun x u hx hu=>by
    by_cases e:x=j
    ·subst e;rw [hz] at hu;simp only [Option.some.injEq] at hu;subst hu;exact b2
    ·exact hno x u (by omega) hu⟩,⟨⟨rfl,rfl,rfl,rfl,rfl,rfl,rfl,rfl,rfl,rfl,rfl,trivial⟩,⟨rfl,rfl,trivial⟩,rfl⟩,by omega⟩
  replace b2:¬z<v:=y77Y hO b2
  rintro (_|_) b3<;>(conv=>cbv)
  ·replace b3:=f_lss hO b3
   rw [hly] at b3
   exfalso
   omega
  refine ⟨⟨by omega⟩,⟨by rw [hly];omega⟩,?_⟩
  conv=>cbv
  refine ⟨_,hzy,?_⟩
  conv=>cbv
  rintro (_|_) b4<;>(conv=>cbv)
  ·replace b4:¬z=v:=y3iY hO b4
   obtain ⟨hr,hc1,hc2,g1,g2,g3,g4⟩:=lay (by rw [hz];simpa using b2) (by rw [hz];simpa using b4)
   obtain ⟨us,hus⟩:∃ us,us=O .subL ys 0 a:=⟨_,rfl⟩
   obtain ⟨zs,hzs⟩:∃ zs,zs=O .subL ys a (O .len ys):=⟨_,rfl⟩
   obtain ⟨ws,hws⟩:∃ ws,ws=O .app us [.agg [mkS key,mkS v,jI nv]]:=⟨_,rfl⟩
   rw [←hus,←hzs] at hr
   rw [←hus] at hc1 g1
   rw [←hzs] at hc2 g4
   rw [←hus,←hws] at g3
   have cz:ClosedX us:=hc1.x
   have cz2:ClosedX zs:=hc2.x
   refine And.intro cys ?_
   conv=>cbv
   refine ⟨⟨by omega⟩,⟨by omega⟩,⟨by omega⟩,?_⟩
   rw [←hus]
   conv=>cbv
   refine ⟨cz,⟨by rw [g1];omega⟩,?_⟩
   conv=>cbv
   repeat' (first|(refine And.intro (by first|assumption|exact ⟨by omega⟩|exact ⟨by rw [hlen];omega⟩|exact ⟨rfl,rfl⟩|exact ⟨rfl⟩|exact ⟨rfl,rfl⟩) ?_)|(intro (g:Nat);(conv=>cbv)))
   refine ⟨_,hk84,?_⟩
   conv=>cbv
   repeat' (first|(refine And.intro (by first|assumption|exact ⟨by omega⟩|exact ⟨by rw [hlen];omega⟩|exact ⟨rfl,rfl⟩|exact ⟨rfl⟩|exact ⟨rfl,rfl⟩) ?_)|(intro (g:Nat);(conv=>cbv)))
   refine ⟨⟨?_⟩,?_⟩
   ·show (O .len us+O .len [_])*((40:Nat):Int)<=_
    rw [g1,hl1];omega
   conv=>cbv
   refine ⟨⟨by omega⟩,⟨by omega⟩,⟨by omega⟩,?_⟩
   rw [←hzs]
   conv=>cbv
   refine ⟨cz2,⟨?_⟩,?_⟩
   ·show (O .len (O .app us [.agg [mkS key,mkS v,jI nv]])+O .len zs)*((40:Nat):Int)<=_
    rw [←hws,g3,g4];omega
   conv=>cbv
   exact ⟨_,_,up _ _ ⟨_,k+1,gg+1+1+1,_,rfl,by rw [y0Y hO (by omega) (by omega)];omega,by omega,rfl,hr⟩,⟨⟨rfl,rfl,rfl,rfl,rfl,rfl,rfl,rfl,rfl,trivial⟩,⟨rfl,rfl,trivial⟩,rfl⟩,by omega⟩
  replace b4:z=v:=y3hY hO b4
  have hsame:ys=((PS (l.take (k+1))).map DM).map domD:=by
   rw [←hN1,hNp,(y4bY v M j hj hno (by rw [hz];simpa using b2)).1 (by rw [hz,b4])]
   exact hys
  exact ⟨_,_,up _ _ ⟨_,k+1,gg,_,rfl,by rw [y0Y hO (by omega) (by omega)];omega,by omega,rfl,hsame⟩,⟨⟨rfl,rfl,rfl,rfl,rfl,rfl,rfl,rfl,rfl,trivial⟩,⟨rfl,rfl,trivial⟩,rfl⟩,by omega⟩
 rintro (_|_) a2<;>replace a2:=ci hO a2<;>dsimp only [CmpI] at a2<;>(conv=>cbv)
 case true=>exact ⟨_,_,up _ _ ⟨_,k+1,gg,_,rfl,by rw [y0Y hO (by omega) (by omega)];omega,by omega,rfl,by rw [←hN1];exact hskip (by simp [a1,a2])⟩,⟨⟨rfl,rfl,rfl,rfl,rfl,rfl,rfl,rfl,rfl,trivial⟩,⟨rfl,rfl,trivial⟩,rfl⟩,by omega⟩
 replace a2:yph=3:=by omega
 cases yma<;>(conv=>cbv)
 case true=>exact ⟨_,_,up _ _ ⟨_,k+1,gg,_,rfl,by rw [y0Y hO (by omega) (by omega)];omega,by omega,rfl,by rw [←hN1];exact hskip (by simp [a1])⟩,⟨⟨rfl,rfl,rfl,rfl,rfl,rfl,rfl,rfl,rfl,trivial⟩,⟨rfl,rfl,trivial⟩,rfl⟩,by omega⟩
 have hNp:N1=putS v M:=hput (by simp [a2])
 repeat' (first|(refine And.intro (by first|assumption|exact ⟨by omega⟩|exact ⟨by rw [hlen];omega⟩|exact ⟨rfl,rfl⟩|exact ⟨rfl⟩|exact ⟨rfl,rfl⟩) ?_)|(intro (g:Nat);(conv=>cbv)))
 refine ⟨_,hk85,?_⟩
 conv=>cbv
 repeat' (first|(refine And.intro (by first|assumption|exact ⟨by omega⟩|exact ⟨by rw [hlen];omega⟩|exact ⟨rfl,rfl⟩|exact ⟨rfl⟩|exact ⟨rfl,rfl⟩) ?_)|(intro (g:Nat);(conv=>cbv)))
 refine y4Y (fun n d=>∃ (a:Int) (j:Nat),d=⟨[(1,mkS key),(2,mkS app),(3,mkS but),(4,mkS claim),(5,.ptr 5 1 0),(11,.own 71 gg),(18,.sl 15 false cl),(19,jI (O .len cl)),(20,jI i),(14,mkS v),(15,jI a)],[(5,⟨1,.rw,.var,(sB s ty po pl cl cm co is no)⟩),(71,⟨gg,.rw,.arr 3 76,ys⟩)],false⟩/\a=j/\j<=M.length/\n=M.length-j/\∀ (x:Nat) z,x<j->M[x]?=some z->z<v) ⟨_,_,⟨_,0,rfl,rfl,by omega,rfl,by simp⟩,⟨⟨rfl,rfl,rfl,rfl,rfl,rfl,rfl,rfl,rfl,rfl,rfl,trivial⟩,⟨rfl,rfl,trivial⟩,rfl⟩⟩ ?_
 rintro J2 up2 n2 d2 ⟨a,j,rfl,ha,hj,rfl,hno⟩
 have lay:(∀ z,M[j]?=some z->¬z<v)->M[j]?≠some v->O .app (O .app (O .subL ys 0 a) [.agg [mkS key,mkS v,jI nv]]) (O .subL ys a (O .len ys))=((PS (l.take (k+1))).map DM).map domD/\CleanL (O .subL ys 0 a)/\CleanL (O .subL ys a (O .len ys))/\O .len (O .subL ys 0 a)=j/\O .len [D.agg [mkS key,mkS v,jI nv]]=1/\O .len (O .app (O .subL ys 0 a) [.agg [mkS key,mkS v,jI nv]])=j+1/\O .len (O .subL ys a (O .len ys))=M.length-j:=by
  intro n1 n2
  obtain ⟨_,hp⟩:=y4bY v M j hj hno n1
  have e1:O .subL ys 0 a=(M.take j).map (domD ∘ DM):=by rw [y20Y hO,hys,ha,List.map_map,←List.map_take];simp
  have e2:O .subL ys a (O .len ys)=(M.drop j).map (domD ∘ DM):=by rw [y20Y hO,hly,hys,ha,List.map_map,List.take_of_length_le (by simp)];simp
  refine ⟨?_,y8Y (f:=domD ∘ DM) (fun _=>⟨rfl,rfl⟩) e1,y8Y (f:=domD ∘ DM) (fun _=>⟨rfl,rfl⟩) e2,?_,?_,?_,?_⟩
  ·rw [←hN1,hNp,hp n2,e1,e2,o_app hO,o_app hO,←hdmv];simp
  ·rw [o_len hO,e1];simp;omega
  ·rw [o_len hO];rfl
  ·rw [o_len hO,o_app hO,e1];simp;omega
  ·rw [o_len hO,e2];simp;omega
 conv=>cbv
 rintro (_|_) b1<;>(conv=>cbv)
 ·replace b1:=f_lss hO b1
  rw [hly] at b1
  have hn:M[j]?=none:=List.getElem?_eq_none (by omega)
  rintro (_|_) b2<;>(conv=>cbv)
  ·obtain ⟨hr,hc1,hc2,g1,g2,g3,g4⟩:=lay (by rw [hn];simp) (by rw [hn];simp)
   obtain ⟨us,hus⟩:∃ us,us=O .subL ys 0 a:=⟨_,rfl⟩
   obtain ⟨zs,hzs⟩:∃ zs,zs=O .subL ys a (O .len ys):=⟨_,rfl⟩
   obtain ⟨ws,hws⟩:∃ ws,ws=O .app us [.agg [mkS key,mkS v,jI nv]]:=⟨_,rfl⟩
   rw [←hus,←hzs] at hr
   rw [←hus] at hc1 g1
   rw [←hzs] at hc2 g4
   rw [←hus,←hws] at g3
   have cz:ClosedX us:=hc1.x
   have cz2:ClosedX zs:=hc2.x
   refine And.intro cys ?_
   conv=>cbv
   refine ⟨⟨by omega⟩,⟨by omega⟩,⟨by omega⟩,?_⟩
   rw [←hus]
   conv=>cbv
   refine ⟨cz,⟨by rw [g1];omega⟩,?_⟩
   conv=>cbv
   repeat' (first|(refine And.intro (by first|assumption|exact ⟨by omega⟩|exact ⟨by rw [hlen];omega⟩|exact ⟨rfl,rfl⟩|exact ⟨rfl⟩|exact ⟨rfl,rfl⟩) ?_)|(intro (g:Nat);(conv=>cbv)))
   refine ⟨_,hk84,?_⟩
   conv=>cbv
   repeat' (first|(refine And.intro (by first|assumption|exact ⟨by omega⟩|exact ⟨by rw [hlen];omega⟩|exact ⟨rfl,rfl⟩|exact ⟨rfl⟩|exact ⟨rfl,rfl⟩) ?_)|(intro (g:Nat);(conv=>cbv)))
   refine ⟨⟨?_⟩,?_⟩
   ·show (O .len us+O .len [_])*((40:Nat):Int)<=_
    rw [g1,hl1];omega
   conv=>cbv
   refine ⟨⟨by omega⟩,⟨by omega⟩,⟨by omega⟩,?_⟩
   rw [←hzs]
   conv=>cbv
   refine ⟨cz2,⟨?_⟩,?_⟩
   ·show (O .len (O .app us [.agg [mkS key,mkS v,jI nv]])+O .len zs)*((40:Nat):Int)<=_
    rw [←hws,g3,g4];omega
   conv=>cbv
   exact ⟨_,_,up _ _ ⟨_,k+1,gg+1+1+1,_,rfl,by rw [y0Y hO (by omega) (by omega)];omega,by omega,rfl,hr⟩,⟨⟨rfl,rfl,rfl,rfl,rfl,rfl,rfl,rfl,rfl,trivial⟩,⟨rfl,rfl,trivial⟩,rfl⟩,by omega⟩
  ·replace b2:=t_lss hO b2
   rw [hly] at b2
   exfalso
   omega
 replace b1:=t_lss hO b1
 rw [hly] at b1
 obtain ⟨z,hz⟩:∃ z,M[j]?=some z:=⟨_,List.getElem?_eq_getElem (by omega)⟩
 have hzy:ys[O .nat a]?=some (domD (DM z)):=by rw [o_nat hO,hys,ha];simp [hz]
 have hzd:domD (DM z)=.agg [mkS (DM z).k,mkS z,jI (DM z).n]:=by have:=hdv z;unfold domD;rw [this]
 rw [hzd] at hzy
 obtain ⟨zk,hzk⟩:∃ x,x=(DM z).k:=⟨_,rfl⟩
 obtain ⟨zn,hzn⟩:∃ x,x=(DM z).n:=⟨_,rfl⟩
 rw [←hzk,←hzn] at hzy
 clear hzk hzn hzd
 refine ⟨⟨by omega⟩,⟨by rw [hly];omega⟩,?_⟩
 conv=>cbv
 refine ⟨_,hzy,?_⟩
 conv=>cbv
 rintro (_|_) b2<;>(conv=>cbv)
 case true =>
  replace b2:z<v:=y76Y hO b2
  exact ⟨_,_,up2 _ _ ⟨_,j+1,rfl,by rw [y0Y hO (by omega) (by omega)];omega,by omega,rfl,fun x u hx hu=>by
   by_cases e:x=j
   ·subst e;rw [hz] at hu;simp only [Option.some.injEq] at hu;subst hu;exact b2
   ·exact hno x u (by omega) hu⟩,⟨⟨rfl,rfl,rfl,rfl,rfl,rfl,rfl,rfl,rfl,rfl,rfl,trivial⟩,⟨rfl,rfl,trivial⟩,rfl⟩,by omega⟩
 replace b2:¬z<v:=y77Y hO b2
 rintro (_|_) b3<;>(conv=>cbv)
 ·replace b3:=f_lss hO b3
  rw [hly] at b3
  exfalso
  omega
 refine ⟨⟨by omega⟩,⟨by rw [hly];omega⟩,?_⟩
 conv=>cbv
 refine ⟨_,hzy,?_⟩
 conv=>cbv
 rintro (_|_) b4<;>(conv=>cbv)
 ·replace b4:¬z=v:=y3iY hO b4
  obtain ⟨hr,hc1,hc2,g1,g2,g3,g4⟩:=lay (by rw [hz];simpa using b2) (by rw [hz];simpa using b4)
  obtain ⟨us,hus⟩:∃ us,us=O .subL ys 0 a:=⟨_,rfl⟩
  obtain ⟨zs,hzs⟩:∃ zs,zs=O .subL ys a (O .len ys):=⟨_,rfl⟩
  obtain ⟨ws,hws⟩:∃ ws,ws=O .app us [.agg [mkS key,mkS v,jI nv]]:=⟨_,rfl⟩
  rw [←hus,←hzs] at hr
  rw [←hus] at hc1 g1
  rw [←hzs] at hc2 g4
  rw [←hus,←hws] at g3
  have cz:ClosedX us:=hc1.x
  have cz2:ClosedX zs:=hc2.x
  refine And.intro cys ?_
  conv=>cbv
  refine ⟨⟨by omega⟩,⟨by omega⟩,⟨by omega⟩,?_⟩
  rw [←hus]
  conv=>cbv
  refine ⟨cz,⟨by rw [g1];omega⟩,?_⟩
  conv=>cbv
  repeat' (first|(refine And.intro (by first|assumption|exact ⟨by omega⟩|exact ⟨by rw [hlen];omega⟩|exact ⟨rfl,rfl⟩|exact ⟨rfl⟩|exact ⟨rfl,rfl⟩) ?_)|(intro (g:Nat);(conv=>cbv)))
  refine ⟨_,hk84,?_⟩
  conv=>cbv
  repeat' (first|(refine And.intro (by first|assumption|exact ⟨by omega⟩|exact ⟨by rw [hlen];omega⟩|exact ⟨rfl,rfl⟩|exact ⟨rfl⟩|exact ⟨rfl,rfl⟩) ?_)|(intro (g:Nat);(conv=>cbv)))
  refine ⟨⟨?_⟩,?_⟩
  ·show (O .len us+O .len [_])*((40:Nat):Int)<=_
   rw [g1,hl1];omega
  conv=>cbv
  refine ⟨⟨by omega⟩,⟨by omega⟩,⟨by omega⟩,?_⟩
  rw [←hzs]
  conv=>cbv
  refine ⟨cz2,⟨?_⟩,?_⟩
  ·show (O .len (O .app us [.agg [mkS key,mkS v,jI nv]])+O .len zs)*((40:Nat):Int)<=_
   rw [←hws,g3,g4];omega
  conv=>cbv
  exact ⟨_,_,up _ _ ⟨_,k+1,gg+1+1+1,_,rfl,by rw [y0Y hO (by omega) (by omega)];omega,by omega,rfl,hr⟩,⟨⟨rfl,rfl,rfl,rfl,rfl,rfl,rfl,rfl,rfl,trivial⟩,⟨rfl,rfl,trivial⟩,rfl⟩,by omega⟩
 replace b4:z=v:=y3hY hO b4
 have hsame:ys=((PS (l.take (k+1))).map DM).map domD:=by
  rw [←hN1,hNp,(y4bY v M j hj hno (by rw [hz];simpa using b2)).1 (by rw [hz,b4])]
  exact hys
 exact ⟨_,_,up _ _ ⟨_,k+1,gg,_,rfl,by rw [y0Y hO (by omega) (by omega)];omega,by omega,rfl,hsame⟩,⟨⟨rfl,rfl,rfl,rfl,rfl,rfl,rfl,rfl,rfl,trivial⟩,⟨rfl,rfl,trivial⟩,rfl⟩,by omega⟩
theorem yqrY (R:Ans) (s:SnapV) (key app but claim:Str) (h45:R.v 33 [snapD s] (jI (snapE s))) (h79:∀ n,R.v 76 [snapD s,mkS n] (.tup [y5Y ((s.claims.find? fun x=>decide (x.name=n)).getD zeroC),.bool (s.claims.find? fun x=>decide (x.name=n)).isSome])) (h80:snapE s=0->∀ c,c∈s.claims->R.v 81 [snapD s,mkS key,mkS app,mkS but,mkS c.name] (.sl 3 false ((domsL s key app but c.name).map domD))):AnsF R c36 [snapD s,mkS key,mkS app,mkS but,mkS claim] (domsX (domsE s key app but claim)):=by
 obtain ⟨rd,hrd⟩:∃ r,r=domsX (domsE s key app but claim):=⟨_,rfl⟩
 rw [←hrd]
 have k:=h79 claim
 replace k:R.v 76 [snapD s,mkS claim] (.tup [y5Y ((ygY s claim).getD zeroC),.bool (ygY s claim).isSome]):=k
 obtain ⟨cx,hcx⟩:∃ cx,cx=(ygY s claim).getD zeroC:=⟨_,rfl⟩
 obtain ⟨q,hq⟩:∃ q,q=(ygY s claim).isSome:=⟨_,rfl⟩
 rw [←hcx,←hq] at k
 have hn:q=true->cx∈s.claims/\cx.name=claim:=fun h=>by
  cases hc:ygY s claim with
  | none=>rw [hc] at hq;rw [hq] at h;exact absurd h (by decide)
  | some c=>rw [hcx,hc];exact y37Y hc
 rw [y6eY] at hq
 have k80:snapE s=0->q=true->R.v 81 [snapD s,mkS key,mkS app,mkS but,mkS claim] (.sl 3 false ((domsL s key app but claim).map domD)):=fun h0 h1=>by
  have:=h80 h0 cx (hn h1).1
  rw [(hn h1).2] at this
  exact this
 obtain ⟨w,hw⟩:∃ w,w=snapE s:=⟨_,rfl⟩
 unfold domsE at hrd
 rw [←hw,←hq] at hrd
 rw [←hw] at h45 k80
 obtain ⟨xs,hxs⟩:∃ xs,xs=(domsL s key app but claim).map domD:=⟨_,rfl⟩
 have cxs:CleanL xs:=by rw [hxs];exact y39Y _
 rw [←hxs] at k80
 have g1:w≠0->rd=.tup [.sl 3 false [],jI w]:=fun h=>by rw [hrd,if_pos h];rfl
 have g2:w=0->¬key=zoneS->¬key=hostS->rd=.tup [.sl 3 false [],jI 1]:=fun h a b=>by
  have hb:(decide (key=zoneS)||decide (key=hostS))=false:=by simp [a,b]
  rw [hrd,if_neg (fun hh=>hh h),hb];rfl
 have g3:w=0->(key=zoneS∨key=hostS)->q=false->rd=.tup [.sl 3 false [],jI 5]:=fun h a b=>by
  have hb:(decide (key=zoneS)||decide (key=hostS))=true:=by rcases a with a|a<;>simp [a]
  rw [hrd,if_neg (fun hh=>hh h),if_pos hb,b];rfl
 have g4:w=0->(key=zoneS∨key=hostS)->q=true->rd=.tup [.sl 3 false xs,jI 0]:=fun h a b=>by
  have hb:(decide (key=zoneS)||decide (key=hostS))=true:=by rcases a with a|a<;>simp [a]
  rw [hrd,if_neg (fun hh=>hh h),if_pos hb,b,if_pos rfl,hxs];rfl
 unfold zoneS hostS at g2 g3 g4
 clear h79 h80 hrd hcx hq hn hw hxs
 obtain ⟨ty,po,pl,cl,cm,co,is,no,hce,hsn,cty,cpo,cpl,ccl,ccm,cco,cis,cno⟩:=yxY s
 rw [hsn] at h45 k k80 ⊢
 clear hce hsn
 obtain ⟨znm,zpo,zge,⟨zot,zoz,zok⟩,zpr,zc0,zc1,zos,ztr,zid,zph,zbo,zma⟩:=cx
 simp only [y5Y,y12Y] at k k80
 obtain ⟨xzos,hxzos⟩:∃ xs,xs=zos.map offD:=⟨_,rfl⟩
 have cxzos:CleanL xzos:=by rw [hxzos];exact y11Y _
 simp only [←hxzos] at k k80
 refine y2Y ⟨rfl,by decide⟩ fun O hO V hV=>?_
 subst hV
 conv=>cbv
 repeat' (first|(refine And.intro (by first|assumption|exact ⟨by omega⟩|exact ⟨rfl,rfl⟩|exact ⟨rfl⟩|exact ⟨rfl,rfl⟩) ?_)|(intro (g:Nat);(conv=>cbv)))
 refine ⟨_,h45,?_⟩
 conv=>cbv
 repeat' (first|(refine And.intro (by first|assumption|exact ⟨by omega⟩|exact ⟨rfl,rfl⟩|exact ⟨rfl⟩|exact ⟨rfl,rfl⟩) ?_)|(intro (g:Nat);(conv=>cbv)))
 rintro (_|_) h<;>replace h:=ci hO h<;>dsimp only [CmpI] at h<;>(conv=>cbv)
 case true =>
  repeat' (first|(refine And.intro (by first|assumption|exact ⟨by omega⟩|exact ⟨rfl,rfl⟩|exact ⟨rfl⟩|exact ⟨rfl,rfl⟩) ?_)|(intro (g:Nat);(conv=>cbv)))
  exact (g1 h).symm
 replace h:w=0:=by omega
 replace g2:=g2 h
 replace g3:=g3 h
 replace g4:=g4 h
 replace k80:=k80 h
 clear g1
 rintro (_|_) a1<;>replace a1:=cs hO a1<;>dsimp only [CmpS] at a1<;>(conv=>cbv)
 case false =>
  replace a1:key=[122,111,110,101]:=by first|exact a1|exact Classical.not_not.1 a1
  repeat' (first|(refine And.intro (by first|assumption|exact ⟨by omega⟩|exact ⟨rfl,rfl⟩|exact ⟨rfl⟩|exact ⟨rfl,rfl⟩) ?_)|(intro (g:Nat);(conv=>cbv)))
  refine ⟨_,k,?_⟩
  cases q<;>(conv=>cbv)
  case false =>
   repeat' (first|(refine And.intro (by first|assumption|exact ⟨by omega⟩|exact ⟨rfl,rfl⟩|exact ⟨rfl⟩|exact ⟨rfl,rfl⟩) ?_)|(intro (g:Nat);(conv=>cbv)))
   exact (g3 (by simp [a1]) rfl).symm
  repeat' (first|(refine And.intro (by first|assumption|exact ⟨by omega⟩|exact ⟨rfl,rfl⟩|exact ⟨rfl⟩|exact ⟨rfl,rfl⟩) ?_)|(intro (g:Nat);(conv=>cbv)))
  refine ⟨_,k80 rfl,?_⟩
  conv=>cbv
  repeat' (first|(refine And.intro (by first|assumption|exact ⟨by omega⟩|exact ⟨rfl,rfl⟩|exact ⟨rfl⟩|exact ⟨rfl,rfl⟩) ?_)|(intro (g:Nat);(conv=>cbv)))
  exact (g4 (by simp [a1]) rfl).symm
 rintro (_|_) a2<;>replace a2:=cs hO a2<;>dsimp only [CmpS] at a2<;>(conv=>cbv)
 case false =>
  replace a2:key=[104,111,115,116]:=by first|exact a2|exact Classical.not_not.1 a2
  repeat' (first|(refine And.intro (by first|assumption|exact ⟨by omega⟩|exact ⟨rfl,rfl⟩|exact ⟨rfl⟩|exact ⟨rfl,rfl⟩) ?_)|(intro (g:Nat);(conv=>cbv)))
  refine ⟨_,k,?_⟩
  cases q<;>(conv=>cbv)
  case false =>
   repeat' (first|(refine And.intro (by first|assumption|exact ⟨by omega⟩|exact ⟨rfl,rfl⟩|exact ⟨rfl⟩|exact ⟨rfl,rfl⟩) ?_)|(intro (g:Nat);(conv=>cbv)))
   exact (g3 (by simp [a2]) rfl).symm
  repeat' (first|(refine And.intro (by first|assumption|exact ⟨by omega⟩|exact ⟨rfl,rfl⟩|exact ⟨rfl⟩|exact ⟨rfl,rfl⟩) ?_)|(intro (g:Nat);(conv=>cbv)))
  refine ⟨_,k80 rfl,?_⟩
  conv=>cbv
  repeat' (first|(refine And.intro (by first|assumption|exact ⟨by omega⟩|exact ⟨rfl,rfl⟩|exact ⟨rfl⟩|exact ⟨rfl,rfl⟩) ?_)|(intro (g:Nat);(conv=>cbv)))
  exact (g4 (by simp [a2]) rfl).symm
 repeat' (first|(refine And.intro (by first|assumption|exact ⟨by omega⟩|exact ⟨rfl,rfl⟩|exact ⟨rfl⟩|exact ⟨rfl,rfl⟩) ?_)|(intro (g:Nat);(conv=>cbv)))
 exact (g2 a1 a2).symm
theorem yqsY (R:Ans) (s:SnapV) (p:PodV) (claim:Str) (hl:p.spr.length<4611686018427387904) (hpo:s.pods.length<4611686018427387904) (hcl:s.claims.length<4611686018427387904) (h45:R.v 33 [snapD s] (jI (snapE s))) (h82:R.v 32 [podD p] (jI (podE p))) (h79:∀ n,R.v 76 [snapD s,mkS n] (.tup [y5Y ((s.claims.find? fun x=>decide (x.name=n)).getD zeroC),.bool (s.claims.find? fun x=>decide (x.name=n)).isSome])) (h80:snapE s=0->∀ key app,R.v 81 [snapD s,mkS key,mkS app,mkS p.name,mkS claim] (.sl 3 false ((domsL s key app p.name claim).map domD))) (h84:snapE s=0->∀ key v app,R.v 84 [snapD s,mkS key,mkS v,mkS app,mkS p.name] (jI (y1cY s key app p.name v))) (h85:∀ key c,R.v 85 [mkS key,y5Y c] (mkS (domOf key c))):AnsF R c38 [snapD s,podD p,mkS claim] (sfitX (sfitE s p claim)):=by
 obtain ⟨rd,hrd⟩:∃ r,r=sfitX (sfitE s p claim):=⟨_,rfl⟩
 rw [←hrd]
 have k:=h79 claim
 replace k:R.v 76 [snapD s,mkS claim] (.tup [y5Y ((ygY s claim).getD zeroC),.bool (ygY s claim).isSome]):=k
 obtain ⟨cx,hcx⟩:∃ cx,cx=(ygY s claim).getD zeroC:=⟨_,rfl⟩
 obtain ⟨q,hq⟩:∃ q,q=(ygY s claim).isSome:=⟨_,rfl⟩
 rw [←hcx,←hq] at k
 have hn:q=true->cx∈s.claims/\cx.name=claim:=fun h=>by
  cases hc:ygY s claim with
  | none=>rw [hc] at hq;rw [hq] at h;exact absurd h (by decide)
  | some c=>rw [hcx,hc];exact y37Y hc
 rw [y6eY] at hq
 obtain ⟨w1,hw1⟩:∃ w,w=snapE s:=⟨_,rfl⟩
 obtain ⟨w2,hw2⟩:∃ w,w=podE p:=⟨_,rfl⟩
 unfold sfitE y1pY at hrd
 rw [←hw1,←hw2,←hq,←hcx] at hrd
 rw [←hw1] at h45 h80 h84
 rw [←hw2] at h82
 unfold sfitB at hrd
 obtain ⟨T,hT⟩:∃ T,T=fit1B s p cx:=⟨_,rfl⟩
 rw [←hT] at hrd
 have g1:w1≠0->rd=.tup [.bool false,jI w1]:=fun h=>by rw [hrd];simp [y3Y,h,sfitX]
 have g2:w1=0->w2≠0->rd=.tup [.bool false,jI w2]:=fun h h2=>by rw [hrd];simp [y3Y,h,h2,sfitX]
 have g3:w1=0->w2=0->q=false->rd=.tup [.bool false,jI 5]:=fun h h2 h3=>by rw [hrd];simp [y3Y,wantI,h,h2,h3,sfitX]
 have g4:w1=0->w2=0->q=true->rd=.tup [.bool (p.spr.all T),jI 0]:=fun h h2 h3=>by rw [hrd];simp [y3Y,wantI,h,h2,h3,sfitX]
 have k80:w1=0->q=true->∀ y:SprV,∃ (dl:List DomV) (ct:Int),R.v 81 [snapD s,mkS y.k,mkS y.a,mkS p.name,mkS claim] (.sl 3 false (dl.map domD))/\R.v 84 [snapD s,mkS y.k,mkS (domOf y.k cx),mkS y.a,mkS p.name] (jI ct)/\(∀ d∈dl,0<=d.n/\d.n<=(s.pods.length:Int))/\dl.length<4611686018427387904/\(0<=ct/\ct<=(s.pods.length:Int))/\T y=dl.all fun d=>decide (ct+(if p.app=y.a then 1 else 0)-d.n<=y.n):=fun a b y=>by
  refine ⟨_,_,h80 a y.k y.a,h84 a y.k _ y.a,y6lY,?_,⟨yagY _ _ _ _ _,yg7Y _ _ _ _ _⟩,?_⟩
  ·have:=y6kY s y.k y.a p.name claim
   omega
  ·rw [hT];unfold fit1B;rw [(hn b).2]
 have k85:=fun key=>h85 key cx
 obtain ⟨dm,hdm⟩:∃ f:Str->Str,f=fun key=>domOf key cx:=⟨_,rfl⟩
 have hdm2:∀ key,domOf key cx=dm key:=fun key=>by rw [hdm]
 simp only [hdm2] at k80 k85
 clear h79 h80 h84 h85 hrd hcx hq hn hw1 hw2 hT hdm hdm2
 obtain ⟨ty,po,pl,cl,cm,co,is,no,hce,hsn,cty,cpo,cpl,ccl,ccm,cco,cis,cno⟩:=yxY s
 rw [hsn] at h45 k k80 ⊢
 clear hce hsn
 obtain ⟨pnm,pap,pn0,pn1,ppr,prs,pts,pss,pns,pas,psi,pon⟩:=p
 simp only [podD,podC] at h82 k80 g4 hl  ⊢
 obtain ⟨xprs,hxprs⟩:∃ xs,xs=prs.map reqD:=⟨_,rfl⟩
 have cxprs:CleanL xprs:=by rw [hxprs];exact y1bY _
 simp only [←hxprs] at h82 k80 g4 hl  ⊢
 obtain ⟨xpts,hxpts⟩:∃ xs,xs=pts.map tolD:=⟨_,rfl⟩
 have cxpts:CleanL xpts:=by rw [hxpts];exact y2fY _
 simp only [←hxpts] at h82 k80 g4 hl  ⊢
 obtain ⟨xpss,hxpss⟩:∃ xs,xs=pss.map sprD:=⟨_,rfl⟩
 have cxpss:CleanL xpss:=by rw [hxpss];exact y2bY _
 simp only [←hxpss] at h82 k80 g4 hl  ⊢
 obtain ⟨xpns,hxpns⟩:∃ xs,xs=pns.map labD:=⟨_,rfl⟩
 have cxpns:CleanL xpns:=by rw [hxpns];exact yeY _
 simp only [←hxpns] at h82 k80 g4 hl  ⊢
 obtain ⟨xpas,hxpas⟩:∃ xs,xs=pas.map labD:=⟨_,rfl⟩
 have cxpas:CleanL xpas:=by rw [hxpas];exact yeY _
 simp only [←hxpas] at h82 k80 g4 hl  ⊢
 obtain ⟨knm,kpo,kge,⟨kot,koz,kok⟩,kpr,kc0,kc1,kos,ktr,kid,kph,kbo,kma⟩:=cx
 simp only [y5Y,y12Y] at k k80 k85
 obtain ⟨xkos,hxkos⟩:∃ xs,xs=kos.map offD:=⟨_,rfl⟩
 have cxkos:CleanL xkos:=by rw [hxkos];exact y11Y _
 simp only [←hxkos] at k k80 k85
 refine y2Y ⟨rfl,by decide⟩ fun O hO V hV=>?_
 subst hV
 have hlen:O .len xpss=pss.length:=by rw [o_len hO,hxpss];simp
 conv=>cbv
 repeat' (first|(refine And.intro (by first|assumption|exact ⟨by omega⟩|exact ⟨by rw [hlen];omega⟩|exact ⟨rfl,rfl⟩|exact ⟨rfl⟩|exact ⟨rfl,rfl⟩) ?_)|(intro (g:Nat);(conv=>cbv)))
 refine ⟨_,h45,?_⟩
 conv=>cbv
 repeat' (first|(refine And.intro (by first|assumption|exact ⟨by omega⟩|exact ⟨by rw [hlen];omega⟩|exact ⟨rfl,rfl⟩|exact ⟨rfl⟩|exact ⟨rfl,rfl⟩) ?_)|(intro (g:Nat);(conv=>cbv)))
 rintro (_|_) h<;>replace h:=ci hO h<;>dsimp only [CmpI] at h<;>(conv=>cbv)
 case true =>
  repeat' (first|(refine And.intro (by first|assumption|exact ⟨by omega⟩|exact ⟨by rw [hlen];omega⟩|exact ⟨rfl,rfl⟩|exact ⟨rfl⟩|exact ⟨rfl,rfl⟩) ?_)|(intro (g:Nat);(conv=>cbv)))
  exact (g1 h).symm
 replace h:w1=0:=by omega
 replace g2:=g2 h
 replace g3:=g3 h
 replace g4:=g4 h
 replace k80:=k80 h
 clear g1 h45
 repeat' (first|(refine And.intro (by first|assumption|exact ⟨by omega⟩|exact ⟨by rw [hlen];omega⟩|exact ⟨rfl,rfl⟩|exact ⟨rfl⟩|exact ⟨rfl,rfl⟩) ?_)|(intro (g:Nat);(conv=>cbv)))
 refine ⟨_,h82,?_⟩
 conv=>cbv
 repeat' (first|(refine And.intro (by first|assumption|exact ⟨by omega⟩|exact ⟨by rw [hlen];omega⟩|exact ⟨rfl,rfl⟩|exact ⟨rfl⟩|exact ⟨rfl,rfl⟩) ?_)|(intro (g:Nat);(conv=>cbv)))
 rintro (_|_) h2<;>replace h2:=ci hO h2<;>dsimp only [CmpI] at h2<;>(conv=>cbv)
 case true =>
  repeat' (first|(refine And.intro (by first|assumption|exact ⟨by omega⟩|exact ⟨by rw [hlen];omega⟩|exact ⟨rfl,rfl⟩|exact ⟨rfl⟩|exact ⟨rfl,rfl⟩) ?_)|(intro (g:Nat);(conv=>cbv)))
  exact (g2 h2).symm
 replace h2:w2=0:=by omega
 replace g3:=g3 h2
 replace g4:=g4 h2
 clear g2 h82
 repeat' (first|(refine And.intro (by first|assumption|exact ⟨by omega⟩|exact ⟨by rw [hlen];omega⟩|exact ⟨rfl,rfl⟩|exact ⟨rfl⟩|exact ⟨rfl,rfl⟩) ?_)|(intro (g:Nat);(conv=>cbv)))
 refine ⟨_,k,?_⟩
 cases q<;>(conv=>cbv)
 case false =>
  repeat' (first|(refine And.intro (by first|assumption|exact ⟨by omega⟩|exact ⟨by rw [hlen];omega⟩|exact ⟨rfl,rfl⟩|exact ⟨rfl⟩|exact ⟨rfl,rfl⟩) ?_)|(intro (g:Nat);(conv=>cbv)))
  exact (g3 rfl).symm
 replace g4:=g4 rfl
 replace k80:=k80 rfl
 clear g3 k
 repeat' (first|(refine And.intro (by first|assumption|exact ⟨by omega⟩|exact ⟨by rw [hlen];omega⟩|exact ⟨rfl,rfl⟩|exact ⟨rfl⟩|exact ⟨rfl,rfl⟩) ?_)|(intro (g:Nat);(conv=>cbv)))
 refine y4Y (fun n d=>∃ (i:Int) (k:Nat),d=⟨[(2,mkS claim),(3,.ptr 3 1 0),(4,.ptr 4 1 0),(10,.ptr 10 1 0),(37,.sl 3 false xpss),(38,jI (O .len xpss)),(39,jI i)],[(3,⟨1,.rw,.var,(sB s ty po pl cl cm co is no)⟩),(4,⟨1,.rw,.var,[mkS pnm,mkS pap,jI pn0,jI pn1,jI ppr,.sl 4 false xprs,.sl 3 false xpts,.sl 3 false xpss,.sl 2 false xpns,.sl 2 false xpas,jI psi,mkS pon]⟩),(10,⟨1,.rw,.var,[mkS knm,mkS kpo,jI kge,mkS kot,mkS koz,mkS kok,jI kpr,jI kc0,jI kc1,.sl 3 false xkos,jI ktr,mkS kid,jI kph,jI kbo,.bool kma]⟩)],false⟩/\i=k/\k<=pss.length/\n=pss.length-k/\∀ (j:Nat) z,j<k->pss[j]?=some z->T z=true) ⟨_,_,⟨_,0,rfl,rfl,by omega,rfl,by simp⟩,⟨⟨rfl,rfl,rfl,rfl,rfl,rfl,rfl,trivial⟩,⟨rfl,rfl,rfl,trivial⟩,rfl⟩⟩ ?_
 rintro J up n d ⟨i,k,rfl,hi,hk,rfl,hno⟩
 conv=>cbv
 rintro (_|_) h1<;>(conv=>cbv)
 ·replace h1:=f_lss hO h1
  rw [hlen] at h1
  have:pss.all T=true:=y6aY fun j z hj hz=>hno j z (by omega) hz
  repeat' (first|(refine And.intro (by first|assumption|exact ⟨by omega⟩|exact ⟨by rw [hlen];omega⟩|exact ⟨rfl,rfl⟩|exact ⟨rfl⟩|exact ⟨rfl,rfl⟩) ?_)|(intro (g:Nat);(conv=>cbv)))
  rw [g4,this]
 replace h1:=t_lss hO h1
 rw [hlen] at h1
 obtain ⟨y,hy⟩:∃ y,pss[k]?=some y:=⟨_,List.getElem?_eq_getElem (by omega)⟩
 have hat:atX xpss i (sprD y):=y7Y hy hxpss hi
 obtain ⟨dl,ct,hk80,hk84,hrg,hld,hctr,hTy⟩:=k80 y
 have hk85:=k85 y.k
 obtain ⟨q0,hq⟩:∃ q,q=T y:=⟨_,rfl⟩
 rw [←hq] at hTy
 have hst:q0=true->∀ (j:Nat) z,j<k+1->pss[j]?=some z->T z=true:=fun h=>y6cY hno hy (hq.symm.trans h)
 have hht:q0=false->rd=.tup [.bool false,jI 0]:=fun h=>by rw [g4,y6bY hy (hq.symm.trans h)]
 clear hq hy k80 k85 g4 hno
 obtain ⟨yk,ya,yn⟩:=y
 simp only [sprD] at hat hk80 hk84 hk85 hTy
 obtain ⟨v,hv⟩:∃ v,v=dm yk:=⟨_,rfl⟩
 rw [←hv] at hk85 hk84
 clear hv
 obtain ⟨ds,hds⟩:∃ ds,ds=dl.map domD:=⟨_,rfl⟩
 have cds:CleanL ds:=by rw [hds];exact y39Y _
 rw [←hds] at hk80
 have hlo:O .len ds=dl.length:=by rw [o_len hO,hds];simp
 refine ⟨_,hat,?_⟩
 conv=>cbv
 intro g13
 conv=>cbv
 repeat' (first|(refine And.intro (by first|assumption|exact ⟨by omega⟩|exact ⟨by rw [hlen];omega⟩|exact ⟨rfl,rfl⟩|exact ⟨rfl⟩|exact ⟨rfl,rfl⟩) ?_)|(intro (g:Nat);(conv=>cbv)))
 refine ⟨_,hk80,?_⟩
 conv=>cbv
 repeat' (first|(refine And.intro (by first|assumption|exact ⟨by omega⟩|exact ⟨by rw [hlen];omega⟩|exact ⟨rfl,rfl⟩|exact ⟨rfl⟩|exact ⟨rfl,rfl⟩) ?_)|(intro (g:Nat);(conv=>cbv)))
 refine ⟨_,hk85,?_⟩
 conv=>cbv
 repeat' (first|(refine And.intro (by first|assumption|exact ⟨by omega⟩|exact ⟨by rw [hlen];omega⟩|exact ⟨rfl,rfl⟩|exact ⟨rfl⟩|exact ⟨rfl,rfl⟩) ?_)|(intro (g:Nat);(conv=>cbv)))
 refine ⟨_,hk84,?_⟩
 conv=>cbv
 repeat' (first|(refine And.intro (by first|assumption|exact ⟨by omega⟩|exact ⟨by rw [hlen];omega⟩|exact ⟨rfl,rfl⟩|exact ⟨rfl⟩|exact ⟨rfl,rfl⟩) ?_)|(intro (g:Nat);(conv=>cbv)))
 rintro (_|_) a1<;>replace a1:=cs hO a1<;>dsimp only [CmpS] at a1<;>(conv=>cbv)
 ·obtain ⟨cn,hcn⟩:∃ c,c=ct:=⟨_,rfl⟩
  rw [←hcn]
  have hcn2:-1<=cn/\cn<=s.pods.length+1:=by rw [hcn];omega
  have hTy2:q0=dl.all fun d=>decide (cn-d.n<=yn):=by rw [hTy];congr 1;funext d;rw [hcn];rw [if_neg a1,Int.add_zero]
  clear hTy hcn
  refine y4Y (fun n d=>∃ (i2:Int) (k2:Nat),d=⟨[(2,mkS claim),(3,.ptr 3 1 0),(4,.ptr 4 1 0),(10,.ptr 10 1 0),(37,.sl 3 false xpss),(38,jI (O .len xpss)),(39,jI i),(13,.ptr 13 g13 0),(15,jI cn),(71,.sl 3 false ds),(72,jI (O .len ds)),(73,jI i2)],[(3,⟨1,.rw,.var,(sB s ty po pl cl cm co is no)⟩),(4,⟨1,.rw,.var,[mkS pnm,mkS pap,jI pn0,jI pn1,jI ppr,.sl 4 false xprs,.sl 3 false xpts,.sl 3 false xpss,.sl 2 false xpns,.sl 2 false xpas,jI psi,mkS pon]⟩),(10,⟨1,.rw,.var,[mkS knm,mkS kpo,jI kge,mkS kot,mkS koz,mkS kok,jI kpr,jI kc0,jI kc1,.sl 3 false xkos,jI ktr,mkS kid,jI kph,jI kbo,.bool kma]⟩),(13,⟨g13,.rw,.var,[mkS yk,mkS ya,jI yn]⟩)],false⟩/\i2=k2/\k2<=dl.length/\n=dl.length-k2/\∀ (j:Nat) z,j<k2->dl[j]?=some z->decide (cn-z.n<=yn)=true) ⟨_,_,⟨_,0,rfl,rfl,by omega,rfl,by simp⟩,⟨⟨rfl,rfl,rfl,rfl,rfl,rfl,rfl,rfl,rfl,rfl,rfl,rfl,trivial⟩,⟨rfl,rfl,rfl,rfl,trivial⟩,rfl⟩⟩ ?_
  rintro J2 up2 n2 d2 ⟨i2,k2,rfl,hi2,hk2,rfl,hno⟩
  conv=>cbv
  rintro (_|_) h3<;>(conv=>cbv)
  ·replace h3:=f_lss hO h3
   rw [hlo] at h3
   exact ⟨_,_,up _ _ ⟨_,k+1,rfl,by rw [y0Y hO (by omega) (by omega)];omega,by omega,rfl,hst (by rw [hTy2];exact y6aY fun j z hj hz=>hno j z (by omega) hz)⟩,⟨⟨rfl,rfl,rfl,rfl,rfl,rfl,rfl,trivial⟩,⟨rfl,rfl,rfl,trivial⟩,rfl⟩,by omega⟩
  replace h3:=t_lss hO h3
  rw [hlo] at h3
  obtain ⟨z,hz⟩:∃ z,dl[k2]?=some z:=⟨_,List.getElem?_eq_getElem (by omega)⟩
  have hatz:atX ds i2 (domD z):=y7Y hz hds hi2
  have hzr:=hrg z (List.mem_of_getElem? hz)
  have hst2:decide (cn-z.n<=yn)=true->∀ (j:Nat) u,j<k2+1->dl[j]?=some u->decide (cn-u.n<=yn)=true:=fun h=>y6cY (p:=fun u:DomV=>decide (cn-u.n<=yn)) hno hz h
  have hht2:decide (cn-z.n<=yn)=false->rd=.tup [.bool false,jI 0]:=fun h=>hht (by rw [hTy2];exact y6bY hz h)
  clear hz hno hTy2 hst hht
  obtain ⟨zk,zv,zn⟩:=z
  simp only [domD] at hatz hst2 hht2 hzr
  refine ⟨_,hatz,?_⟩
  conv=>cbv
  intro g17
  conv=>cbv
  repeat' (first|(refine And.intro (by first|assumption|exact ⟨by omega⟩|exact ⟨by rw [hlen];omega⟩|exact ⟨rfl,rfl⟩|exact ⟨rfl⟩|exact ⟨rfl,rfl⟩) ?_)|(intro (g:Nat);(conv=>cbv)))
  rintro (_|_) a2<;>replace a2:=ci hO a2<;>dsimp only [CmpI] at a2<;>(conv=>cbv)
  all_goals rw [y15Y hO (by omega) (by omega)] at a2
  ·exact ⟨_,_,up2 _ _ ⟨_,k2+1,rfl,by rw [y0Y hO (by omega) (by omega)];omega,by omega,rfl,hst2 (by rw [decide_eq_true_eq];omega)⟩,⟨⟨rfl,rfl,rfl,rfl,rfl,rfl,rfl,rfl,rfl,rfl,rfl,rfl,trivial⟩,⟨rfl,rfl,rfl,rfl,trivial⟩,rfl⟩,by omega⟩
  ·repeat' (first|(refine And.intro (by first|assumption|exact ⟨by omega⟩|exact ⟨by rw [hlen];omega⟩|exact ⟨rfl,rfl⟩|exact ⟨rfl⟩|exact ⟨rfl,rfl⟩) ?_)|(intro (g:Nat);(conv=>cbv)))
   exact (hht2 (by rw [decide_eq_false_iff_not];omega)).symm
 ·obtain ⟨cn,hcn⟩:∃ c,c=O .iop .add .i64 ct 1:=⟨_,rfl⟩
  rw [←hcn]
  have hcn2:-1<=cn/\cn<=s.pods.length+1:=by rw [hcn];rw [y0Y hO (by omega) (by omega)];omega
  have hTy2:q0=dl.all fun d=>decide (cn-d.n<=yn):=by rw [hTy];congr 1;funext d;rw [hcn];rw [if_pos a1,y0Y hO (by omega) (by omega)]
  clear hTy hcn
  refine y4Y (fun n d=>∃ (i2:Int) (k2:Nat),d=⟨[(2,mkS claim),(3,.ptr 3 1 0),(4,.ptr 4 1 0),(10,.ptr 10 1 0),(37,.sl 3 false xpss),(38,jI (O .len xpss)),(39,jI i),(13,.ptr 13 g13 0),(15,jI cn),(71,.sl 3 false ds),(72,jI (O .len ds)),(73,jI i2)],[(3,⟨1,.rw,.var,(sB s ty po pl cl cm co is no)⟩),(4,⟨1,.rw,.var,[mkS pnm,mkS pap,jI pn0,jI pn1,jI ppr,.sl 4 false xprs,.sl 3 false xpts,.sl 3 false xpss,.sl 2 false xpns,.sl 2 false xpas,jI psi,mkS pon]⟩),(10,⟨1,.rw,.var,[mkS knm,mkS kpo,jI kge,mkS kot,mkS koz,mkS kok,jI kpr,jI kc0,jI kc1,.sl 3 false xkos,jI ktr,mkS kid,jI kph,jI kbo,.bool kma]⟩),(13,⟨g13,.rw,.var,[mkS yk,mkS ya,jI yn]⟩)],false⟩/\i2=k2/\k2<=dl.length/\n=dl.length-k2/\∀ (j:Nat) z,j<k2->dl[j]?=some z->decide (cn-z.n<=yn)=true) ⟨_,_,⟨_,0,rfl,rfl,by omega,rfl,by simp⟩,⟨⟨rfl,rfl,rfl,rfl,rfl,rfl,rfl,rfl,rfl,rfl,rfl,rfl,trivial⟩,⟨rfl,rfl,rfl,rfl,trivial⟩,rfl⟩⟩ ?_
  rintro J2 up2 n2 d2 ⟨i2,k2,rfl,hi2,hk2,rfl,hno⟩
  conv=>cbv
  rintro (_|_) h3<;>(conv=>cbv)
  ·replace h3:=f_lss hO h3
   rw [hlo] at h3
   exact ⟨_,_,up _ _ ⟨_,k+1,rfl,by rw [y0Y hO (by omega) (by omega)];omega,by omega,rfl,hst (by rw [hTy2];exact y6aY fun j z hj hz=>hno j z (by omega) hz)⟩,⟨⟨rfl,rfl,rfl,rfl,rfl,rfl,rfl,trivial⟩,⟨rfl,rfl,rfl,trivial⟩,rfl⟩,by omega⟩
  replace h3:=t_lss hO h3
  rw [hlo] at h3
  obtain ⟨z,hz⟩:∃ z,dl[k2]?=some z:=⟨_,List.getElem?_eq_getElem (by omega)⟩
  have hatz:atX ds i2 (domD z):=y7Y hz hds hi2
  have hzr:=hrg z (List.mem_of_getElem? hz)
  have hst2:decide (cn-z.n<=yn)=true->∀ (j:Nat) u,j<k2+1->dl[j]?=some u->decide (cn-u.n<=yn)=true:=fun h=>y6cY (p:=fun u:DomV=>decide (cn-u.n<=yn)) hno hz h
  have hht2:decide (cn-z.n<=yn)=false->rd=.tup [.bool false,jI 0]:=fun h=>hht (by rw [hTy2];exact y6bY hz h)
  clear hz hno hTy2 hst hht
  obtain ⟨zk,zv,zn⟩:=z
  simp only [domD] at hatz hst2 hht2 hzr
  refine ⟨_,hatz,?_⟩
  conv=>cbv
  intro g17
  conv=>cbv
  repeat' (first|(refine And.intro (by first|assumption|exact ⟨by omega⟩|exact ⟨by rw [hlen];omega⟩|exact ⟨rfl,rfl⟩|exact ⟨rfl⟩|exact ⟨rfl,rfl⟩) ?_)|(intro (g:Nat);(conv=>cbv)))
  rintro (_|_) a2<;>replace a2:=ci hO a2<;>dsimp only [CmpI] at a2<;>(conv=>cbv)
  all_goals rw [y15Y hO (by omega) (by omega)] at a2
  ·exact ⟨_,_,up2 _ _ ⟨_,k2+1,rfl,by rw [y0Y hO (by omega) (by omega)];omega,by omega,rfl,hst2 (by rw [decide_eq_true_eq];omega)⟩,⟨⟨rfl,rfl,rfl,rfl,rfl,rfl,rfl,rfl,rfl,rfl,rfl,rfl,trivial⟩,⟨rfl,rfl,rfl,rfl,trivial⟩,rfl⟩,by omega⟩
  ·repeat' (first|(refine And.intro (by first|assumption|exact ⟨by omega⟩|exact ⟨by rw [hlen];omega⟩|exact ⟨rfl,rfl⟩|exact ⟨rfl⟩|exact ⟨rfl,rfl⟩) ?_)|(intro (g:Nat);(conv=>cbv)))
   exact (hht2 (by rw [decide_eq_false_iff_not];omega)).symm
theorem yqtY (R:Ans) (n z:Str):AnsF R c126 [mkS n,mkS z] (y5Y (nodeV n z)):=by
 obtain ⟨r,hr⟩:∃ r,r=y5Y (nodeV n z):=⟨_,rfl⟩
 rw [←hr]
 conv at hr=>rhs;cbv
 refine y2Y ⟨rfl,by decide⟩ fun O hO V hV=>?_
 subst hV
 conv=>cbv
 repeat' (first|(refine And.intro (by first|assumption|exact ⟨by omega⟩|exact ⟨rfl,rfl⟩|exact ⟨rfl⟩|exact ⟨rfl,rfl⟩) ?_)|(intro (g:Nat);(conv=>cbv)))
 exact hr.symm
theorem yquY (R:Ans) (h126:∀ n z,R.v 126 [mkS n,mkS z] (y5Y (nodeV n z))):AnsF R c78 [] (snapD sprS):=by
 have k1:=h126 tC1 tA
 have k2:=h126 tC2 tB
 clear h126
 obtain ⟨r,hr⟩:∃ r,r=snapD sprS:=⟨_,rfl⟩
 rw [←hr]
 conv at hr=>rhs;cbv
 conv at k1=>cbv
 conv at k2=>cbv
 refine y2Y ⟨rfl,by decide⟩ fun O hO V hV=>?_
 subst hV
 conv=>cbv
 repeat' (first|(refine And.intro (by first|assumption|exact ⟨by omega⟩|exact ⟨rfl,rfl⟩|exact ⟨rfl⟩|exact ⟨rfl,rfl⟩) ?_)|(intro (g:Nat);(conv=>cbv)))
 refine ⟨_,k1,?_⟩
 conv=>cbv
 repeat' (first|(refine And.intro (by first|assumption|exact ⟨by omega⟩|exact ⟨rfl,rfl⟩|exact ⟨rfl⟩|exact ⟨rfl,rfl⟩) ?_)|(intro (g:Nat);(conv=>cbv)))
 refine ⟨_,k2,?_⟩
 conv=>cbv
 repeat' (first|(refine And.intro (by first|assumption|exact ⟨by omega⟩|exact ⟨rfl,rfl⟩|exact ⟨rfl⟩|exact ⟨rfl,rfl⟩) ?_)|(intro (g:Nat);(conv=>cbv)))
 repeat' (refine And.intro ⟨rfl,rfl⟩ ?_)
 exact hr.symm
theorem yqvY (R:Ans) (h78:R.v 78 [] (snapD sprS)) (m1:R.v 37 [snapD sprS,podD (y2vY 1),mkS tC1] (.tup [.bool false,jI 0])) (m2:R.v 37 [snapD sprS,podD (y2vY 1),mkS tC2] (.tup [.bool true,jI 0])) (m3:R.v 37 [snapD sprS,podD (y2vY 3),mkS tC1] (.tup [.bool true,jI 0])) (m4:R.v 35 [snapD sprS,mkS zoneS,mkS tX,mkS tM,mkS tC1] (.tup [.sl 3 false [domD ⟨zoneS,tA,1⟩,domD ⟨zoneS,tB,0⟩],jI 0])):AnsF R c34 [] (.bool true):=by
 obtain ⟨s,hs⟩:∃ s,s=sprS:=⟨_,rfl⟩
 rw [←hs] at h78 m1 m2 m3 m4
 obtain ⟨ty,po,pl,cl,cm,co,is,no,hce,hsn,cty,cpo,cpl,ccl,ccm,cco,cis,cno⟩:=yxY s
 rw [hsn] at h78 m1 m2 m3 m4
 clear hs hce hsn
 conv at m1=>cbv
 conv at m2=>cbv
 conv at m3=>cbv
 conv at m4=>cbv
 refine y2Y ⟨rfl,by decide⟩ fun O hO V hV=>?_
 subst hV
 have hz:O .nat 0=0:=o_nat hO 0
 conv=>cbv
 repeat' (first|(refine And.intro (by first|assumption|exact ⟨by omega⟩|exact ⟨rfl,rfl⟩|exact ⟨rfl⟩|exact ⟨rfl,rfl⟩) ?_)|(intro (g:Nat);(conv=>cbv)))
 refine ⟨_,h78,?_⟩
 conv=>cbv
 repeat' (first|(refine And.intro (by first|assumption|exact ⟨by omega⟩|exact ⟨rfl,rfl⟩|exact ⟨rfl⟩|exact ⟨rfl,rfl⟩) ?_)|(intro (g:Nat);(conv=>cbv)))
 refine ⟨_,m1,?_⟩
 conv=>cbv
 repeat' (first|(refine And.intro (by first|assumption|exact ⟨by omega⟩|exact ⟨rfl,rfl⟩|exact ⟨rfl⟩|exact ⟨rfl,rfl⟩) ?_)|(intro (g:Nat);(conv=>cbv)))
 refine ⟨_,h78,?_⟩
 conv=>cbv
 repeat' (first|(refine And.intro (by first|assumption|exact ⟨by omega⟩|exact ⟨rfl,rfl⟩|exact ⟨rfl⟩|exact ⟨rfl,rfl⟩) ?_)|(intro (g:Nat);(conv=>cbv)))
 refine ⟨_,m2,?_⟩
 conv=>cbv
 repeat' (first|(refine And.intro (by first|assumption|exact ⟨by omega⟩|exact ⟨rfl,rfl⟩|exact ⟨rfl⟩|exact ⟨rfl,rfl⟩) ?_)|(intro (g:Nat);(conv=>cbv)))
 refine ⟨⟨by rw [o_len hO];simp⟩,?_⟩
 rw [hz]
 refine ⟨_,rfl,?_⟩
 conv=>cbv
 repeat' (first|(refine And.intro (by first|assumption|exact ⟨by omega⟩|exact ⟨rfl,rfl⟩|exact ⟨rfl⟩|exact ⟨rfl,rfl⟩) ?_)|(intro (g:Nat);(conv=>cbv)))
 rw [o_set hO]
 conv=>cbv
 repeat' (first|(refine And.intro (by first|assumption|exact ⟨by omega⟩|exact ⟨rfl,rfl⟩|exact ⟨rfl⟩|exact ⟨rfl,rfl⟩) ?_)|(intro (g:Nat);(conv=>cbv)))
 refine ⟨_,h78,?_⟩
 conv=>cbv
 repeat' (first|(refine And.intro (by first|assumption|exact ⟨by omega⟩|exact ⟨rfl,rfl⟩|exact ⟨rfl⟩|exact ⟨rfl,rfl⟩) ?_)|(intro (g:Nat);(conv=>cbv)))
 refine ⟨_,m3,?_⟩
 conv=>cbv
 repeat' (first|(refine And.intro (by first|assumption|exact ⟨by omega⟩|exact ⟨rfl,rfl⟩|exact ⟨rfl⟩|exact ⟨rfl,rfl⟩) ?_)|(intro (g:Nat);(conv=>cbv)))
 refine ⟨_,h78,?_⟩
 conv=>cbv
 repeat' (first|(refine And.intro (by first|assumption|exact ⟨by omega⟩|exact ⟨rfl,rfl⟩|exact ⟨rfl⟩|exact ⟨rfl,rfl⟩) ?_)|(intro (g:Nat);(conv=>cbv)))
 refine ⟨_,m4,?_⟩
 conv=>cbv
 rintro (_|_) h<;>replace h:=ci hO h<;>dsimp only [CmpI] at h<;>(conv=>cbv)
 case false=>exact absurd (by first|rfl|(rw [o_len hO];rfl)) h
 rintro (_|_) h<;>replace h:=ci hO h<;>dsimp only [CmpI] at h<;>(conv=>cbv)
 case false=>exact absurd (by first|rfl|(rw [o_len hO];rfl)) h
 rintro (_|_) h<;>replace h:=ci hO h<;>dsimp only [CmpI] at h<;>(conv=>cbv)
 case false=>exact absurd (by first|rfl|(rw [o_len hO];rfl)) h
 rintro (_|_) h<;>replace h:=ci hO h<;>dsimp only [CmpI] at h<;>(conv=>cbv)
 case false=>exact absurd (by first|rfl|(rw [o_len hO];rfl)) h
 rintro (_|_) h<;>replace h:=ci hO h<;>dsimp only [CmpI] at h<;>(conv=>cbv)
 case false=>exact absurd (by first|rfl|(rw [o_len hO];rfl)) h
 refine ⟨_,⟨by decide,rfl⟩,?_⟩
 conv=>cbv
 rintro (_|_) h<;>replace h:=cs hO h<;>dsimp only [CmpS] at h<;>(conv=>cbv)
 case false=>exact absurd rfl h
 refine ⟨_,⟨by decide,rfl⟩,?_⟩
 conv=>cbv
 rintro (_|_) h<;>replace h:=ci hO h<;>dsimp only [CmpI] at h<;>(conv=>cbv)
 case false=>exact absurd (by first|rfl|(rw [o_len hO];rfl)) h
 refine ⟨_,⟨by decide,rfl⟩,?_⟩
 conv=>cbv
 rintro (_|_) h<;>replace h:=ci hO h<;>dsimp only [CmpI] at h<;>(conv=>cbv)
 case false=>exact absurd (by first|rfl|(rw [o_len hO];rfl)) h
 all_goals (first|trivial|rfl)
theorem yqwY (R:Ans) (s:SnapV) (key app but claim:Str) (hl:(domsE s key app but claim).1.length<4611686018427387904) (h34:R.v 34 [] (.bool true)) (h35:R.v 35 [snapD s,mkS key,mkS app,mkS but,mkS claim] (domsX (domsE s key app but claim))) (h36:R.v 36 [snapD s,mkS key,mkS app,mkS but,mkS claim] (domsX (domsE s key app but claim))):AnsF R c12 [snapD s,mkS key,mkS app,mkS but,mkS claim] (.bool true):=by
 obtain ⟨⟨l,e⟩,hle⟩:∃ r,r=domsE s key app but claim:=⟨_,rfl⟩
 rw [←hle] at h35 h36 hl
 unfold domsX at h35 h36
 simp only at h35 h36 hl
 clear hle
 obtain ⟨xs,hxs⟩:∃ xs,xs=l.map domD:=⟨_,rfl⟩
 have cxs:CleanL xs:=by rw [hxs];exact y39Y _
 rw [←hxs] at h35 h36
 obtain ⟨ty,po,pl,cl,cm,co,is,no,hce,hsn,cty,cpo,cpl,ccl,ccm,cco,cis,cno⟩:=yxY s
 rw [hsn] at h35 h36 ⊢
 clear hce hsn
 refine y2Y ⟨rfl,by decide⟩ fun O hO V hV=>?_
 subst hV
 have hlen:O .len xs=l.length:=by rw [o_len hO,hxs];simp
 conv=>cbv
 repeat' (first|(refine And.intro (by first|assumption|exact ⟨by omega⟩|exact ⟨by rw [hlen];omega⟩|exact ⟨rfl,rfl⟩|exact ⟨rfl⟩|exact ⟨rfl,rfl⟩) ?_)|(intro (g:Nat);(conv=>cbv)))
 refine ⟨_,h34,?_⟩
 conv=>cbv
 repeat' (first|(refine And.intro (by first|assumption|exact ⟨by omega⟩|exact ⟨by rw [hlen];omega⟩|exact ⟨rfl,rfl⟩|exact ⟨rfl⟩|exact ⟨rfl,rfl⟩) ?_)|(intro (g:Nat);(conv=>cbv)))
 refine ⟨_,h35,?_⟩
 conv=>cbv
 repeat' (first|(refine And.intro (by first|assumption|exact ⟨by omega⟩|exact ⟨by rw [hlen];omega⟩|exact ⟨rfl,rfl⟩|exact ⟨rfl⟩|exact ⟨rfl,rfl⟩) ?_)|(intro (g:Nat);(conv=>cbv)))
 refine ⟨_,h36,?_⟩
 conv=>cbv
 rintro (_|_) h2<;>replace h2:=ci hO h2<;>dsimp only [CmpI] at h2<;>(conv=>cbv)
 case true=>exact absurd rfl h2
 rintro (_|_) h2<;>replace h2:=ci hO h2<;>dsimp only [CmpI] at h2<;>(conv=>cbv)
 case true=>exact absurd rfl h2
 repeat' (first|(refine And.intro (by first|assumption|exact ⟨by omega⟩|exact ⟨by rw [hlen];omega⟩|exact ⟨rfl,rfl⟩|exact ⟨rfl⟩|exact ⟨rfl,rfl⟩) ?_)|(intro (g:Nat);(conv=>cbv)))
 refine y4Y (fun n d=>∃ (i:Int) (k:Nat),d=⟨[(11,.bool true),(12,.sl 3 false xs),(14,.sl 3 false xs),(47,jI (O .len xs)),(48,jI i)],[],false⟩/\i=k/\k<=l.length/\n=l.length-k) ⟨_,_,⟨_,0,rfl,rfl,by omega,rfl⟩,⟨⟨rfl,rfl,rfl,rfl,rfl,trivial⟩,trivial,rfl⟩⟩ ?_
 rintro J up n d ⟨i,k,rfl,hi,hk,rfl⟩
 conv=>cbv
 rintro (_|_) h1<;>(conv=>cbv)
 case false=>first|trivial|rfl
 replace h1:=t_lss hO h1
 rw [hlen] at h1
 obtain ⟨y,hy⟩:∃ y,l[k]?=some y:=⟨_,List.getElem?_eq_getElem (by omega)⟩
 have hat:atX xs i (domD y):=y7Y hy hxs hi
 clear hy
 obtain ⟨yk,yv,yn⟩:=y
 simp only [domD] at hat
 refine ⟨_,hat,?_⟩
 conv=>cbv
 refine ⟨_,hat,?_⟩
 conv=>cbv
 rintro (_|_) a1<;>replace a1:=cs hO a1<;>dsimp only [CmpS] at a1<;>(conv=>cbv)
 case true=>exact absurd rfl a1
 refine ⟨_,hat,?_⟩
 conv=>cbv
 refine ⟨_,hat,?_⟩
 conv=>cbv
 rintro (_|_) a2<;>replace a2:=cs hO a2<;>dsimp only [CmpS] at a2<;>(conv=>cbv)
 case true=>exact absurd rfl a2
 refine ⟨_,hat,?_⟩
 conv=>cbv
 refine ⟨_,hat,?_⟩
 conv=>cbv
 rintro (_|_) a3<;>replace a3:=ci hO a3<;>dsimp only [CmpI] at a3<;>(conv=>cbv)
 case true=>exact absurd rfl a3
 exact ⟨_,_,up _ _ ⟨_,k+1,rfl,by rw [y0Y hO (by omega) (by omega)];omega,by omega,rfl⟩,⟨⟨rfl,rfl,rfl,rfl,rfl,trivial⟩,trivial,rfl⟩,by omega⟩
theorem yqxY (R:Ans) (s:SnapV) (p:PodV) (claim:Str) (h34:R.v 34 [] (.bool true)) (h37:R.v 37 [snapD s,podD p,mkS claim] (sfitX (sfitE s p claim))) (h38:R.v 38 [snapD s,podD p,mkS claim] (sfitX (sfitE s p claim))):AnsF R c13 [snapD s,podD p,mkS claim] (.bool true):=by
 obtain ⟨⟨b,e⟩,hbe⟩:∃ r,r=sfitE s p claim:=⟨_,rfl⟩
 rw [←hbe] at h37 h38
 unfold sfitX at h37 h38
 simp only at h37 h38
 clear hbe
 obtain ⟨ty,po,pl,cl,cm,co,is,no,hce,hsn,cty,cpo,cpl,ccl,ccm,cco,cis,cno⟩:=yxY s
 rw [hsn] at h37 h38 ⊢
 clear hce hsn
 obtain ⟨pnm,pap,pn0,pn1,ppr,prs,pts,pss,pns,pas,psi,pon⟩:=p
 simp only [podD,podC] at h37 h38 ⊢
 obtain ⟨xprs,hxprs⟩:∃ xs,xs=prs.map reqD:=⟨_,rfl⟩
 have cxprs:CleanL xprs:=by rw [hxprs];exact y1bY _
 simp only [←hxprs] at h37 h38 ⊢
 obtain ⟨xpts,hxpts⟩:∃ xs,xs=pts.map tolD:=⟨_,rfl⟩
 have cxpts:CleanL xpts:=by rw [hxpts];exact y2fY _
 simp only [←hxpts] at h37 h38 ⊢
 obtain ⟨xpss,hxpss⟩:∃ xs,xs=pss.map sprD:=⟨_,rfl⟩
 have cxpss:CleanL xpss:=by rw [hxpss];exact y2bY _
 simp only [←hxpss] at h37 h38 ⊢
 obtain ⟨xpns,hxpns⟩:∃ xs,xs=pns.map labD:=⟨_,rfl⟩
 have cxpns:CleanL xpns:=by rw [hxpns];exact yeY _
 simp only [←hxpns] at h37 h38 ⊢
 obtain ⟨xpas,hxpas⟩:∃ xs,xs=pas.map labD:=⟨_,rfl⟩
 have cxpas:CleanL xpas:=by rw [hxpas];exact yeY _
 simp only [←hxpas] at h37 h38 ⊢
 refine y2Y ⟨rfl,by decide⟩ fun O hO V hV=>?_
 subst hV
 conv=>cbv
 refine ⟨_,h34,?_⟩
 conv=>cbv
 repeat' (first|(refine And.intro (by first|assumption|exact ⟨by omega⟩|exact ⟨rfl,rfl⟩|exact ⟨rfl⟩|exact ⟨rfl,rfl⟩) ?_)|(intro (g:Nat);(conv=>cbv)))
 refine ⟨_,h37,?_⟩
 conv=>cbv
 repeat' (first|(refine And.intro (by first|assumption|exact ⟨by omega⟩|exact ⟨rfl,rfl⟩|exact ⟨rfl⟩|exact ⟨rfl,rfl⟩) ?_)|(intro (g:Nat);(conv=>cbv)))
 refine ⟨_,h38,?_⟩
 conv=>cbv
 rintro t h
 obtain rfl:t=true:=by rw [b_eq hO h];simp
 conv=>cbv
 rintro (_|_) h2<;>replace h2:=ci hO h2<;>dsimp only [CmpI] at h2<;>(conv=>cbv)
 all_goals (first|trivial|rfl|exact absurd rfl h2)
theorem yqyY (R:Ans) (s:SnapV) (p:PodV) (claim:Str) (h34:R.v 34 [] (.bool true)) (k1:R.v 37 [snapD s,podD p,mkS claim] (sfitX (sfitE s p claim))) (k2:R.v 37 [snapD s,podD (moreS p),mkS claim] (sfitX (sfitE s (moreS p) claim))) (k3:R.v 37 [snapD s,podD (noneS p),mkS claim] (sfitX (sfitE s (noneS p) claim))):AnsF R c14 [snapD s,podD p,mkS claim] (.bool true):=by
 obtain ⟨e,he⟩:∃ e,e=y1pY s p claim:=⟨_,rfl⟩
 obtain ⟨c,hc⟩:∃ c,c=(ygY s claim).getD zeroC:=⟨_,rfl⟩
 have f1:sfitE s p claim=(decide (e=0)&&sfitB s p c,e):=by rw [he,hc];rfl
 have f1':=k1
 rw [f1] at f1'
 have hlaw:=fun h:e=0=>yndY (s:=s) (p:=p) (claim:=claim) (he.symm.trans h)
 have g2:e=0->sfitE s (moreS p) claim=(sfitB s (moreS p) c,0):=fun h=>by
  have:sfitE s (moreS p) claim=(decide (y1pY s (moreS p) claim=0)&&sfitB s (moreS p) c,y1pY s (moreS p) claim):=by rw [hc];rfl
  rw [this,(hlaw h).1];rfl
 have g3:e=0->sfitE s (noneS p) claim=(true,0):=fun h=>by
  have:sfitE s (noneS p) claim=(decide (y1pY s (noneS p) claim=0)&&sfitB s (noneS p) c,y1pY s (noneS p) claim):=by rw [hc];rfl
  rw [this,(hlaw h).2.1,(hlaw h).2.2.1 c];rfl
 have g4:e=0->sfitB s p c=true->sfitB s (moreS p) c=true:=fun h=>(hlaw h).2.2.2 c
 have hl:e=0->p.spr.length<=3:=fun h=>(yfhY (begin_parts.1 (he.symm.trans h)).2.1).1
 have hsk:e=0->∀ x∈p.spr,1<=x.n/\x.n<=16:=fun h x hx=>((ynaY (begin_parts.1 (he.symm.trans h)).2.1).2.2 x hx).2
 obtain ⟨b1,hb1⟩:∃ b,b=sfitB s p c:=⟨_,rfl⟩
 obtain ⟨b2,hb2⟩:∃ b,b=sfitB s (moreS p) c:=⟨_,rfl⟩
 rw [←hb1] at f1' g4
 rw [←hb2] at g2 g4
 unfold sfitX at f1' k2 k3
 simp only at f1'
 clear hlaw f1 k1 he hc hb1 hb2
 by_cases h0:e=0
 case neg =>
  rw [decide_eq_false h0] at f1'
  simp only [Bool.false_and] at f1'
  clear k2 k3 g2 g3 g4 hsk hl
  obtain ⟨ty,po,pl,cl,cm,co,is,no,hce,hsn,cty,cpo,cpl,ccl,ccm,cco,cis,cno⟩:=yxY s
  rw [hsn] at f1' ⊢
  clear hce hsn
  obtain ⟨pnm,pap,pn0,pn1,ppr,prs,pts,pss,pns,pas,psi,pon⟩:=p
  simp only [podD,podC] at f1' ⊢
  obtain ⟨xprs,hxprs⟩:∃ xs,xs=prs.map reqD:=⟨_,rfl⟩
  have cxprs:CleanL xprs:=by rw [hxprs];exact y1bY _
  simp only [←hxprs] at f1' ⊢
  obtain ⟨xpts,hxpts⟩:∃ xs,xs=pts.map tolD:=⟨_,rfl⟩
  have cxpts:CleanL xpts:=by rw [hxpts];exact y2fY _
  simp only [←hxpts] at f1' ⊢
  obtain ⟨xpss,hxpss⟩:∃ xs,xs=pss.map sprD:=⟨_,rfl⟩
  have cxpss:CleanL xpss:=by rw [hxpss];exact y2bY _
  simp only [←hxpss] at f1' ⊢
  obtain ⟨xpns,hxpns⟩:∃ xs,xs=pns.map labD:=⟨_,rfl⟩
  have cxpns:CleanL xpns:=by rw [hxpns];exact yeY _
  simp only [←hxpns] at f1' ⊢
  obtain ⟨xpas,hxpas⟩:∃ xs,xs=pas.map labD:=⟨_,rfl⟩
  have cxpas:CleanL xpas:=by rw [hxpas];exact yeY _
  simp only [←hxpas] at f1' ⊢
  refine y2Y ⟨rfl,by decide⟩ fun O hO V hV=>?_
  subst hV
  conv=>cbv
  refine ⟨_,h34,?_⟩
  conv=>cbv
  repeat' (first|(refine And.intro (by first|assumption|exact ⟨by omega⟩|exact ⟨by rw [hlen];omega⟩|exact ⟨rfl,rfl⟩|exact ⟨rfl⟩|exact ⟨rfl,rfl⟩) ?_)|(intro (g:Nat);(conv=>cbv)))
  refine ⟨_,f1',?_⟩
  conv=>cbv
  rintro (_|_) h<;>replace h:=ci hO h<;>dsimp only [CmpI] at h<;>(conv=>cbv)
  all_goals (first|exact absurd (by omega) h0|trivial|rfl)
 subst h0
 rw [g2 rfl] at k2
 rw [g3 rfl] at k3
 simp only at k2 k3
 replace g4:=g4 rfl
 replace hsk:=hsk rfl
 replace hl:=hl rfl
 clear g2 g3
 rw [decide_eq_true rfl] at f1'
 simp only [Bool.true_and] at f1'
 unfold moreS at k2
 unfold noneS at k3
 obtain ⟨ty,po,pl,cl,cm,co,is,no,hce,hsn,cty,cpo,cpl,ccl,ccm,cco,cis,cno⟩:=yxY s
 rw [hsn] at f1' k2 k3 ⊢
 clear hce hsn
 obtain ⟨pnm,pap,pn0,pn1,ppr,prs,pts,pss,pns,pas,psi,pon⟩:=p
 simp only [podD,podC] at f1' k2 k3 hsk hl ⊢
 obtain ⟨xprs,hxprs⟩:∃ xs,xs=prs.map reqD:=⟨_,rfl⟩
 have cxprs:CleanL xprs:=by rw [hxprs];exact y1bY _
 simp only [←hxprs] at f1' k2 k3 hsk hl ⊢
 obtain ⟨xpts,hxpts⟩:∃ xs,xs=pts.map tolD:=⟨_,rfl⟩
 have cxpts:CleanL xpts:=by rw [hxpts];exact y2fY _
 simp only [←hxpts] at f1' k2 k3 hsk hl ⊢
 obtain ⟨xpss,hxpss⟩:∃ xs,xs=pss.map sprD:=⟨_,rfl⟩
 have cxpss:CleanL xpss:=by rw [hxpss];exact y2bY _
 simp only [←hxpss] at f1' k2 k3 hsk hl ⊢
 obtain ⟨xpns,hxpns⟩:∃ xs,xs=pns.map labD:=⟨_,rfl⟩
 have cxpns:CleanL xpns:=by rw [hxpns];exact yeY _
 simp only [←hxpns] at f1' k2 k3 hsk hl ⊢
 obtain ⟨xpas,hxpas⟩:∃ xs,xs=pas.map labD:=⟨_,rfl⟩
 have cxpas:CleanL xpas:=by rw [hxpas];exact yeY _
 simp only [←hxpas] at f1' k2 k3 hsk hl ⊢
 obtain ⟨mS,hmS⟩:∃ f:SprV->SprV,f=fun x=>⟨x.k,x.a,min 16 (x.n+1)⟩:=⟨_,rfl⟩
 rw [←hmS] at k2
 have hmd:∀ x:SprV,sprD (mS x)=.agg [mkS x.k,mkS x.a,jI (min 16 (x.n+1))]:=fun x=>by rw [hmS];rfl
 simp only [List.map_nil] at k3
 clear hmS
 refine y2Y ⟨rfl,by decide⟩ fun O hO V hV=>?_
 subst hV
 have hlen:O .len xpss=pss.length:=by rw [o_len hO,hxpss];simp
 conv=>cbv
 refine ⟨_,h34,?_⟩
 conv=>cbv
 repeat' (first|(refine And.intro (by first|assumption|exact ⟨by omega⟩|exact ⟨by rw [hlen];omega⟩|exact ⟨rfl,rfl⟩|exact ⟨rfl⟩|exact ⟨rfl,rfl⟩) ?_)|(intro (g:Nat);(conv=>cbv)))
 refine ⟨_,f1',?_⟩
 conv=>cbv
 rintro (_|_) h<;>replace h:=ci hO h<;>dsimp only [CmpI] at h<;>(conv=>cbv)
 case true=>exact absurd rfl h
 refine ⟨cxpss.x,⟨by show O .len xpss*((40:Nat):Int)<=_;rw [hlen];omega⟩,?_⟩
 conv=>cbv
 refine y4Y (fun n d=>∃ (i:Int) (k g:Nat) (ys:List D),d=⟨[(2,mkS claim),(3,.ptr 3 1 0),(4,.ptr 4 1 0),(7,.bool true),(8,.bool b1),(10,.own 34 g),(36,jI (O .len xpss)),(37,jI i)],[(3,⟨1,.rw,.var,(sB s ty po pl cl cm co is no)⟩),(4,⟨1,.rw,.var,[mkS pnm,mkS pap,jI pn0,jI pn1,jI ppr,.sl 4 false xprs,.sl 3 false xpts,.sl 3 false xpss,.sl 2 false xpns,.sl 2 false xpas,jI psi,mkS pon]⟩),(34,⟨g,.rw,.arr 3 79,ys⟩)],false⟩/\i=k/\k<=pss.length/\n=pss.length-k/\ys=((pss.take k).map mS++pss.drop k).map sprD) ⟨_,_,⟨_,0,_,_,rfl,rfl,by omega,rfl,by simpa using hxpss⟩,⟨⟨rfl,rfl,rfl,rfl,rfl,rfl,rfl,rfl,trivial⟩,⟨rfl,rfl,rfl,trivial⟩,rfl⟩⟩ ?_
 rintro J up n d ⟨i,k,g,ys,rfl,hi,hk,rfl,hys⟩
 conv=>cbv
 rintro (_|_) h1<;>(conv=>cbv)
 ·replace h1:=f_lss hO h1
  rw [hlen] at h1
  have hye:ys=(pss.map mS).map sprD:=by rw [hys,List.take_of_length_le (by omega),List.drop_eq_nil_of_le (by omega),List.append_nil]
  have cys:CleanL ys:=by rw [hye];exact y2bY _
  rw [←hye] at k2
  clear hys up hye hmd
  repeat' (first|(refine And.intro (by first|assumption|exact ⟨by omega⟩|exact ⟨by rw [hlen];omega⟩|exact ⟨rfl,rfl⟩|exact ⟨rfl⟩|exact ⟨rfl,rfl⟩) ?_)|(intro (g:Nat);(conv=>cbv)))
  repeat' (first|(refine And.intro (by first|assumption|exact ⟨rfl,rfl⟩|exact ⟨by omega⟩) ?_)|(intro (g:Nat);(conv=>cbv)))
  refine ⟨_,k2,?_⟩
  conv=>cbv
  repeat' (first|(refine And.intro (by first|assumption|exact ⟨by omega⟩|exact ⟨by rw [hlen];omega⟩|exact ⟨rfl,rfl⟩|exact ⟨rfl⟩|exact ⟨rfl,rfl⟩) ?_)|(intro (g:Nat);(conv=>cbv)))
  refine ⟨_,k3,?_⟩
  conv=>cbv
  rintro (_|_) h2<;>replace h2:=ci hO h2<;>dsimp only [CmpI] at h2<;>(conv=>cbv)
  case false=>exact absurd rfl h2
  rintro (_|_) h3<;>replace h3:=ci hO h3<;>dsimp only [CmpI] at h3<;>(conv=>cbv)
  case false=>exact absurd rfl h3
  cases b1<;>(conv=>cbv)
  case true =>
   obtain rfl:=g4 rfl
   (conv=>cbv)<;>first|trivial|rfl
  all_goals (first|trivial|rfl)
 replace h1:=t_lss hO h1
 rw [hlen] at h1
 obtain ⟨y,hy⟩:∃ y,pss[k]?=some y:=⟨_,List.getElem?_eq_getElem (by omega)⟩
 have hsy:=hsk y (List.mem_of_getElem? hy)
 have hlt:(pss.take k).length=k:=by simp;omega
 have hgt:ys[O .nat i]?=some (sprD y):=by
  rw [o_nat hO,hys,hi,List.map_append,List.getElem?_append_right (by simp;omega)]
  have hm:k-min k pss.length=0:=by omega
  simp [hm,hy]
 have hst:ys.set (O .nat i) (sprD (mS y))=((pss.take (k+1)).map mS++pss.drop (k+1)).map sprD:=by
  have hd:pss.drop k=y::pss.drop (k+1):=by
   rw [List.drop_eq_getElem_cons (by omega)]
   congr 1
   exact Option.some.inj ((List.getElem?_eq_getElem (by omega)).symm.trans hy)
  rw [o_nat hO,hys,hi,hd,List.take_add_one,hy,List.map_append,List.set_append_right _ _ (by simp;omega)]
  have hm:k-min k pss.length=0:=by omega
  simp [hm]
 have hly:O .len ys=pss.length:=by rw [o_len hO,hys];simp;omega
 rw [hmd] at hst
 clear hy hys hmd k2 k3 f1'
 obtain ⟨yk,ya,yn⟩:=y
 simp only [sprD] at hgt hst hsy
 repeat' (first|(refine And.intro (by first|assumption|exact ⟨by omega⟩|exact ⟨by rw [hlen];omega⟩|exact ⟨rfl,rfl⟩|exact ⟨rfl⟩|exact ⟨rfl,rfl⟩) ?_)|(intro (g:Nat);(conv=>cbv)))
 refine ⟨⟨by show i<O .len ys;rw [hly];omega⟩,_,hgt,?_⟩
 conv=>cbv
 repeat' (first|(refine And.intro (by first|assumption|exact ⟨by omega⟩|exact ⟨by rw [hlen];omega⟩|exact ⟨rfl,rfl⟩|exact ⟨rfl⟩|exact ⟨rfl,rfl⟩) ?_)|(intro (g:Nat);(conv=>cbv)))
 refine ⟨⟨by show i<O .len ys;rw [hly];omega⟩,_,hgt,?_⟩
 conv=>cbv
 exact ⟨_,_,up _ _ ⟨_,k+1,_,_,rfl,by rw [y0Y hO (by omega) (by omega)];omega,by omega,rfl,by rw [o_set hO,o_min hO,y0Y hO (by omega) (by omega)];exact hst⟩,⟨⟨rfl,rfl,rfl,rfl,rfl,rfl,rfl,rfl,trivial⟩,⟨rfl,rfl,rfl,trivial⟩,rfl⟩,by omega⟩
end Go.Proofs.AM
namespace Go.Proofs.AM
open Go Go.Lib
theorem yqzY {s:SnapV} (h:snapE s=0) {p:PodV} (hp:p∈s.pods):p.name≠[]:=by
 have h1:=((y5eY h).pod p hp).1
 unfold podE at h1
 have h2:=y21Y h1 _ List.mem_cons_self
 intro e
 have h3:nameB ([]:Str)=false:=by
  cases hn:nameB ([]:Str) with
  | false=>rfl
  | true =>
    unfold nameB at hn
    simp only [decide_eq_true_eq] at hn
    have:=hn.1
    simp at this
 rw [e,h3] at h2
 simp [wantI] at h2
theorem yg9Y {s:SnapV} (h:snapE s=0) {c:ClaimV} (hc:c∈s.claims):c.name≠[]:=by
 have h1:=((y5eY h).claim c hc).1
 unfold y19Y at h1
 have h2:=y21Y h1 _ List.mem_cons_self
 intro e
 have h3:nameB ([]:Str)=false:=by
  cases hn:nameB ([]:Str) with
  | false=>rfl
  | true =>
    unfold nameB at hn
    simp only [decide_eq_true_eq] at hn
    have:=hn.1
    simp at this
 rw [e,h3] at h2
 simp [wantI] at h2
theorem yr0Y {s:SnapV} (h:snapE s=0):ygY s []=none:=by
 cases hc:ygY s [] with
 | none=>rfl
 | some c=>exact absurd (y37Y hc).2 (yg9Y h (y37Y hc).1)
def y2rY (app:Str) (p:PodV):Bool:=!decide (p.on=[])&&decide (p.app=app)
theorem yr1Y {s:SnapV} (h:snapE s=0) (hall:∀ c∈s.claims,c.phase=3/\c.marked=false) (key app claim:Str):sumI ((domsL s key app [] claim).map (·.n))=((s.pods.filter (y2rY app)).length:Int):=by
 have ok:=y5eY h
 obtain ⟨f,hf⟩:∃ f:PodV->Option Str,f=fun p=>if p.app=app then (ygY s p.on).map (domOf key) else none:=⟨_,rfl⟩
 have e1:∀ v,y1cY s key app [] v=((s.pods.filter fun p=>decide (f p=some v)).length:Int):=fun v=>by
  unfold y1cY
  congr 2
  refine List.filter_congr fun p hp=>?_
  have hnm:=yqzY h hp
  unfold inDom
  rw [hf]
  cases hc:ygY s p.on with
  | none=>by_cases ha:p.app=app<;>simp [ha,hc]
  | some c=>by_cases ha:p.app=app<;>simp [ha,hnm,hc]
 have e2:(s.pods.filter (y2rY app)).length=(s.pods.filter fun p=>(f p).isSome).length:=by
  congr 1
  refine List.filter_congr fun p hp=>?_
  unfold y2rY
  rw [hf]
  by_cases ha:p.app=app
  ·by_cases ho:p.on=[]
   ·simp [ha,ho,yr0Y h]
   ·have h2:=(ok.pod p hp).2.1
    rcases h2 with h2|h2
    ·exact absurd h2 ho
    ·simp [ha,ho,y6eY,h2]
  ·simp [ha]
 have e3:=yngY (f:=f) (V:=domV s key claim) (y4cY _).nodup s.pods fun p hp v hv=>by
  rw [hf] at hv
  by_cases ha:p.app=app
  ·simp only [ha,if_true,Option.map_eq_some_iff] at hv
   obtain ⟨c,hc,rfl⟩:=hv
   have hm:=(y37Y hc).1
   unfold domV
   rw [y3jY,List.mem_map]
   exact ⟨c,List.mem_filter.2 ⟨hm,by simp [y25Y,(hall c hm).1,(hall c hm).2]⟩,rfl⟩
  ·simp [ha] at hv
 rw [y3qY,List.map_map,e2,←e3]
 congr 1
 refine List.map_congr_left fun v _=>?_
 show y1cY s key app [] v=_
 exact e1 v
def own1F (v:Str) (l:List DomV):Int:=l.foldl (fun a d=>if d.v=v then d.n else a) (-1)
theorem ygaY (v:Str) (l:List DomV) (d:DomV):own1F v (l++[d])=if d.v=v then d.n else own1F v l:=by unfold own1F;rw [List.foldl_append];rfl
theorem yr2Y {v:Str} {n:Int} {l:List DomV} (h:∀ d∈l,d.v=v->d.n=n) (hm:∃ d∈l,d.v=v):own1F v l=n:=by
 induction l using y38Y with
 | nil=>obtain ⟨d,hd,_⟩:=hm;simp at hd
 | snoc l d ih =>
   rw [ygaY]
   by_cases hv:d.v=v
   ·rw [if_pos hv];exact h d (by simp) hv
   ·rw [if_neg hv]
    refine ih (fun x hx=>h x (by simp [hx])) ?_
    obtain ⟨x,hx,he⟩:=hm
    rcases List.mem_append.1 hx with hx|hx
    ·exact ⟨x,hx,he⟩
    ·simp only [List.mem_singleton] at hx;subst hx;exact absurd he hv
theorem yr3Y {s:SnapV} {key app but:Str} {c:ClaimV} (hc:c∈s.claims):own1F (domOf key c) (domsL s key app but c.name)=y1cY s key app but (domOf key c):=by
 refine yr2Y (fun d hd hv=>by rw [(yauY hd).2.1,hv]) ?_
 refine ⟨domM s key app but (domOf key c),?_,rfl⟩
 rw [y3qY]
 exact List.mem_map.2 ⟨_,y7qY hc,rfl⟩
def oneS (p:PodV) (key:Str):PodV:={ p with spr:=[⟨key,p.app,1⟩] }
theorem yr4Y {s:SnapV} {p:PodV} {c:ClaimV} {key:Str} (hc:c∈s.claims):0<=own1F (domOf key c) (domsL s key p.app p.name c.name)/\sfitB s (oneS p key) c=decide (own1F (domOf key c) (domsL s key p.app p.name c.name)=y1eY (domsL s key p.app p.name c.name)):=by
 have h0:=yr3Y (key:=key) (app:=p.app) (but:=p.name) hc
 have hnn:=yagY s key p.app p.name (domOf key c)
 rw [h0]
 refine ⟨hnn,?_⟩
 obtain ⟨f1,f2⟩:=yneY (p:=p) (key:=key) hc
 have hs:sfitB s (oneS p key) c=fit1B s p c ⟨key,p.app,1⟩:=by
  unfold sfitB oneS
  simp only [List.all_cons,List.all_nil,Bool.and_true]
  rfl
 rw [hs,Bool.eq_iff_iff,f1,decide_eq_true_eq]
 rcases yg6Y (l:=domsL s key p.app p.name c.name) fun d hd=>(y6lY d hd).1 with ⟨h,_⟩|⟨_,h2,d0,hd0,h3⟩
 ·exact absurd h (yg8Y hc)
 constructor
 ·intro h
  have a:=h d0 hd0
  have b:=h2 _ f2
  simp only at b
  omega
 ·intro h d hd
  have:=h2 d hd
  omega
theorem yr5Y {s:SnapV} {key app but claim:Str} (h:(domsE s key app but claim).2=0):(domsE s key app but claim).1=domsL s key app but claim/\snapE s=0/\(key=zoneS∨key=hostS):=by
 unfold domsE at h ⊢
 by_cases h0:snapE s=0
 ·rw [if_neg (fun hh=>hh h0)] at h ⊢
  by_cases hk:(decide (key=zoneS)||decide (key=hostS))=true
  ·rw [if_pos hk] at h ⊢
   by_cases hc:y1aY s claim=true
   ·rw [if_pos hc]
    exact ⟨rfl,h0,by simpa using hk⟩
   ·rw [if_neg hc] at h
    exact absurd h (by decide)
  ·rw [if_neg hk] at h
   exact absurd h (by decide)
 ·rw [if_pos h0] at h
  exact absurd h h0
theorem yr6Y {s:SnapV} {key app but claim:Str} (h0:snapE s=0) (hk:key=zoneS∨key=hostS) (hc:y1aY s claim=true):domsE s key app but claim=(domsL s key app but claim,0):=by
 unfold domsE
 have hb:(decide (key=zoneS)||decide (key=hostS))=true:=by rcases hk with hk|hk<;>simp [hk]
 rw [if_neg (fun hh=>hh h0),if_pos hb,if_pos hc]
theorem yavY:zoneS≠hostS:=by decide
theorem yr7Y {key:Str} (hk:key=zoneS∨key=hostS) (y:ClaimV) (d:Str):(d=y.name/\key=hostS)∨(d=y.off.z/\key=zoneS)↔d=domOf key y:=by
 unfold domOf
 rcases hk with rfl|rfl
 ·rw [if_pos rfl]
  constructor
  ·rintro (⟨_,h⟩|⟨h,_⟩)
   ·exact absurd h yavY
   ·exact h
  ·exact fun h=>.inr ⟨h,rfl⟩
 ·rw [if_neg (Ne.symm yavY)]
  constructor
  ·rintro (⟨h,_⟩|⟨_,h⟩)
   ·exact h
   ·exact absurd h (Ne.symm yavY)
  ·exact fun h=>.inl ⟨h,rfl⟩
theorem yr8Y {s:SnapV} {p:PodV} {key:Str} {y:ClaimV} (hy:y∈s.claims) (h0:snapE s=0) (h:(sfitE s (oneS p key) y.name).2=0):0<=own1F (domOf key y) (domsL s key p.app p.name y.name)/\(sfitE s (oneS p key) y.name).1=decide (own1F (domOf key y) (domsL s key p.app p.name y.name)=y1eY (domsL s key p.app p.name y.name)):=by
 obtain ⟨a,b⟩:=yr4Y (p:=p) (key:=key) hy
 refine ⟨a,?_⟩
 have hb:y1pY s (oneS p key) y.name=0:=h
 have:(sfitE s (oneS p key) y.name).1=(decide (y1pY s (oneS p key) y.name=0)&&sfitB s (oneS p key) ((ygY s y.name).getD zeroC)):=rfl
 rw [this,hb,yncY (y5eY h0) hy]
 simpa using b
theorem yr9Y {l:List DomV} (h:∀ d∈l,0<=d.n/\d.n<=24) (k:Nat):0<=sumI ((l.take k).map (·.n))/\sumI ((l.take k).map (·.n))<=24*k:=by
 induction k with
 | zero=>simp [sumI]
 | succ k ih =>
   cases hy:l[k]? with
   | none=>rw [List.take_add_one,hy];simp only [Option.toList_none,List.append_nil];omega
   | some y =>
     rw [List.take_add_one,hy,List.map_append,yfjY]
     have:=h y (List.mem_of_getElem? hy)
     simp only [Option.toList_some,List.map_cons,List.map_nil,y4hY]
     have h0:sumI []=0:=rfl
     omega
theorem yraY {s:SnapV} (h0:snapE s=0) (hall:∀ c∈s.claims,c.phase=3/\c.marked=false) {key app:Str} (hk:key=zoneS∨key=hostS) {c:ClaimV} (hc:c∈s.claims) :
 domsE s key app [] c.name=(domsL s key app [] c.name,0)/\sumI ((domsL s key app [] c.name).map (·.n))=((s.pods.filter (y2rY app)).length:Int)/\(∀ d∈domsL s key app [] c.name,0<=d.n/\d.n<=24)/\(domsL s key app [] c.name).length<=16:=by
 have hz:=(y5eY h0).sizes
 unfold y4eY at hz
 simp only [Bool.and_eq_true,decide_eq_true_eq] at hz
 refine ⟨yr6Y h0 hk ?_,yr1Y h0 hall key app c.name,fun d hd=>?_,?_⟩
 ·unfold y1aY
  exact List.any_eq_true.2 ⟨c,hc,by simp⟩
 ·have:=y6lY d hd
  omega
 ·have:=y6kY s key app [] c.name
  omega
end Go.Proofs.AM
