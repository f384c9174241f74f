/- Part 11 of the lemmas: AVVm, AVVn, AVVo, PVe, AVVp. -/
import Derived.Test.YtnbdmjbpgaeacaaGreatDoorC07
import Derived.Test.YtnbdmjbpgaeacaaGreatDoorC08
import Derived.Test.YtnbdmjbpgaeacaaGreatDoorC06
set_option maxRecDepth 100000
set_option maxHeartbeats 8000000
set_option linter.all false
namespace Go.Proofs.AM
open Go Go.Lib Cd
def lD (l:List Str):D:=.sl 1 false (l.map mkS)
theorem ykkY {L:List (List Str)} {k:Nat} {l:List Str} (h:L[k]?=some l) (a:List Str):(L.take (k+1)).flatten.foldl insS a=l.foldl insS ((L.take k).flatten.foldl insS a):=by
 rw [List.take_add_one,h,List.flatten_append,List.foldl_append]
 simp
theorem yklY {l:List Str} {k:Nat} {y:Str} (h:l[k]?=some y) (a:List Str):(l.take (k+1)).foldl insS a=insS ((l.take k).foldl insS a) y:=by
 rw [List.take_add_one,h,List.foldl_append]
 rfl
theorem ykmY (R:Ans) (L:List (List Str)) (hL:L.length<=8796093022208) (hl:∀ l∈L,l.length<=8796093022208):AnsF R c255 [.sl 1 false (L.map lD)] (.mapv ((y1jY L).map ent)):=by
 obtain ⟨xs,hxs⟩:∃ xs,xs=L.map lD:=⟨_,rfl⟩
 obtain ⟨rs,hrs⟩:∃ rs,rs=(y1jY L).map ent:=⟨_,rfl⟩
 have hcr:CleanL rs:=y8Y y7hY hrs
 rw [←hxs,←hrs]
 refine y2Y ⟨rfl,by decide⟩ fun O hO V hV=>?_
 have hlen:O .len xs=L.length:=by rw [o_len hO,hxs];simp
 conv=>cbv
 refine y4Y (fun n d=>∃ (i:Int) (k:Nat) (ac:List D) (tk:Int),d=⟨[(3,.mapr 8 1),(9,.sl 1 false xs),(10,jI (O .len xs)),(11,jI i)],[(8,⟨1,.rw,.map,jI tk::ac⟩)],false⟩/\i=k/\k<=L.length/\n=L.length-k/\ac=((L.take k).flatten.foldl insS []).map ent) ⟨_,_,⟨_,0,_,_,rfl,rfl,by omega,rfl,by simp⟩,⟨⟨rfl,rfl,rfl,rfl,trivial⟩,⟨rfl,trivial⟩,rfl⟩⟩ ?_
 rintro J up n d ⟨i,k,ac,tk,rfl,hi,hk,rfl,hac⟩
 conv=>cbv
 rintro (_|_) h1
 ·replace h1:=f_lss hO h1
  rw [hlen] at h1
  have:ac=rs:=by rw [hac,hrs,List.take_of_length_le (by omega)];rfl
  conv=>cbv
  rw [this]
  refine ⟨hcr,?_⟩
  conv=>cbv
  trivial
 ·replace h1:=t_lss hO h1
  rw [hlen] at h1
  conv=>cbv
  obtain ⟨l,hy⟩:∃ l,L[k]?=some l:=⟨_,List.getElem?_eq_getElem (by omega)⟩
  have hll:=hl l (List.mem_of_getElem? hy)
  refine ⟨lD l,y7Y hy hxs hi,?_⟩
  obtain ⟨ys,hys⟩:∃ ys,ys=l.map mkS:=⟨_,rfl⟩
  have hlen2:O .len ys=l.length:=by rw [o_len hO,hys];simp
  unfold lD
  rw [←hys]
  conv=>cbv
  refine y4Y (fun n d=>∃ (i2:Int) (k2:Nat) (ac2:List D) (tk2:Int),d=⟨[(3,.mapr 8 1),(9,.sl 1 false xs),(10,jI (O .len xs)),(11,jI i),(15,.sl 1 false ys),(16,jI (O .len ys)),(17,jI i2)],[(8,⟨1,.rw,.map,jI tk2::ac2⟩)],false⟩/\i2=k2/\k2<=l.length/\n=l.length-k2/\ac2=((l.take k2).foldl insS ((L.take k).flatten.foldl insS [])).map ent) ⟨_,_,⟨_,0,_,_,rfl,rfl,by omega,rfl,by simpa using hac⟩,⟨⟨rfl,rfl,rfl,rfl,rfl,rfl,rfl,trivial⟩,⟨rfl,trivial⟩,rfl⟩⟩ ?_
  rintro J2 up2 n2 d ⟨i2,k2,ac2,tk2,rfl,hi2,hk2,rfl,hac2⟩
  conv=>cbv
  rintro (_|_) h2
  ·replace h2:=f_lss hO h2
   rw [hlen2] at h2
   conv=>cbv
   refine ⟨_,_,up _ _ ⟨_,k+1,ac2,tk2,rfl,?_,by omega,rfl,?_⟩,⟨⟨rfl,rfl,rfl,rfl,trivial⟩,⟨rfl,trivial⟩,rfl⟩,by omega⟩
   ·rw [y0Y hO (by omega) (by omega)];omega
   ·have e3:l.take k2=l:=List.take_of_length_le (by omega)
    rw [hac2,ykkY hy,e3]
  ·replace h2:=t_lss hO h2
   rw [hlen2] at h2
   conv=>cbv
   obtain ⟨y,hy2⟩:∃ y,l[k2]?=some y:=⟨_,List.getElem?_eq_getElem (by omega)⟩
   refine ⟨mkS y,y7Y hy2 hys hi2,?_⟩
   conv=>cbv
   obtain ⟨ac3,hac3⟩:∃ ac3,ac3=(insS ((l.take k2).foldl insS ((L.take k).flatten.foldl insS [])) y).map ent:=⟨_,rfl⟩
   refine ⟨ac3,by rw [hac2,hac3];exact y64Y _ _,fun c=>?_⟩
   conv=>cbv
   refine ⟨_,_,up2 _ _ ⟨_,k2+1,ac3,c,rfl,?_,by omega,rfl,?_⟩,⟨⟨rfl,rfl,rfl,rfl,rfl,rfl,rfl,trivial⟩,⟨rfl,trivial⟩,rfl⟩,by omega⟩
   ·rw [y0Y hO (by omega) (by omega)];omega
   ·rw [hac3,yklY hy2]
def NumsR (lo hi:Int) (K:List Str) (S:SetV) (b:Bool):Prop:=(b=true/\y2jY lo hi K=some S)∨(b=false/\y2jY lo hi K=none)
theorem y65Y (lo:Int):∀ (n:Nat),upTo lo (n+1)=upTo lo n++[itoa (lo+n)]
 | 0=>by simp [upTo]
 | n+1=>by
   rw [show upTo lo (n+1+1)=itoa lo::upTo (lo+1) (n+1) from rfl,y65Y (lo+1) n]
   simp only [upTo,List.cons_append]
   rw [show lo+1+(n:Int)=lo+((n+1:Nat):Int) by omega]
def accN (lo:Int) (K:List Str) (j:Nat):List Str:=((upTo lo j).filter fun s=>decide (s∉K)).foldl insS []
theorem yknY {lo:Int} {K:List Str} {j:Nat} {z:Str} (hz:z=itoa (lo+j)):accN lo K (j+1)=if z∈K then accN lo K j else insS (accN lo K j) z:=by
 unfold accN
 rw [y65Y,List.filter_append,List.foldl_append,←hz]
 by_cases h:z∈K<;>simp [h]
theorem ykoY {lo hi:Int} {K:List Str} {z:Str}:z∈accN lo K (hi+1-lo).toNat↔z∈listN lo hi K:=by
 have:=(y3kY ((upTo lo (hi+1-lo).toNat).filter fun s=>decide (s∉K)) [] List.nodup_nil).2.1 z
 unfold accN listN
 simpa using this
theorem ykpY (lo:Int) (K:List Str) (j:Nat):(accN lo K j).Nodup:=(y3kY _ [] List.nodup_nil).1
theorem ya4Y (lo:Int):∀ n,(upTo lo n).length=n
 | 0=>rfl
 | n+1=>by simp [upTo,ya4Y (lo+1) n]
theorem ykqY (lo:Int) (K:List Str) (j:Nat):(accN lo K j).length<=j:=by
 have h1:=(y3kY ((upTo lo j).filter fun s=>decide (s∉K)) [] List.nodup_nil).2.2
 have h2:=List.length_filter_le (fun s=>decide (s∉K)) (upTo lo j)
 rw [ya4Y] at h2
 unfold accN
 simp only [List.length_nil,Nat.add_zero] at h1
 omega
theorem ykrY {lo hi:Int} {K K':List Str} (h:∀ z,z∈K↔z∈K'):listN lo hi K=listN lo hi K':=by
 unfold listN
 congr 1
 funext s
 simp [h s]
theorem yeiY {hi:Int} {K:List Str}:∀ (n:Nat) (lo:Int),(hi+1-lo).toNat<=n->lo<=upS hi K lo/\(lo<=hi+1->upS hi K lo<=hi+1)/\(hi<lo->upS hi K lo=lo):=by
 intro n
 induction n with
 | zero=>intro lo h;rw [y56Y (fun h'=>by omega)];omega
 | succ n ih =>
   intro lo h
   by_cases hc:lo<=hi/\itoa lo∈K
   ·rw [ya0Y hc];have:=ih (lo+1) (by omega);omega
   ·rw [y56Y hc];omega
theorem yejY {lo:Int} {K:List Str}:∀ (n:Nat) (hi:Int),(hi+1-lo).toNat<=n->dnS lo K hi<=hi/\(lo-1<=hi->lo-1<=dnS lo K hi)/\(hi<lo->dnS lo K hi=hi):=by
 intro n
 induction n with
 | zero=>intro hi h;rw [y57Y (fun h'=>by omega)];omega
 | succ n ih =>
   intro hi h
   by_cases hc:lo<=hi/\itoa hi∈K
   ·rw [ya1Y hc];have:=ih (hi-1) (by omega);omega
   ·rw [y57Y hc];omega
theorem yksY {n:Int} (h:FI n):SL (itoa n):=by
 unfold FI at h
 have:=y7bY 18 n.natAbs (by have:(10:Nat) ^ (18+1)=10000000000000000000:=by decide
                            omega)
 unfold SL
 by_cases h:n<0
 ·rw [y53Y h];simp;omega
 ·rw [y54Y (by omega)];omega
theorem yekY {lo:Int}:∀ {j:Nat},(∀ i:Nat,i<j->FI (lo+i))->∀ s∈upTo lo j,SL s
 | 0,_,s,hs=>by simp [upTo] at hs
 | j+1,h,s,hs=>by
   rw [y65Y,List.mem_append] at hs
   rcases hs with hs|hs
   ·exact yekY (fun i hi=>h i (by omega)) s hs
   ·simp only [List.mem_singleton] at hs
    subst hs
    exact yksY (h j (by omega))
theorem yktY {lo:Int} {K:List Str} {j:Nat} (h:∀ i:Nat,i<j->FI (lo+i)):∀ s∈accN lo K j,SL s:=by
 intro s hs
 have hm:=((y3kY ((upTo lo j).filter fun s=>decide (s∉K)) [] List.nodup_nil).2.1 s).1 hs
 simp only [List.not_mem_nil,or_false,List.mem_filter] at hm
 exact yekY h s hm.1
theorem ykuY {lo hi:Int} {K K2:List Str} (h:∀ z,z∈K2↔z∈K/\inR lo hi z=true):∀ s∈K2,SL s:=fun s hs=>by
 obtain ⟨n,hn,_⟩:=inR_iff.1 ((h s).1 hs).2
 have:=y9tY hn
 unfold SL
 omega
theorem ykvY {lo hi:Int} {K K2:List Str} (h2:K2.Nodup) (h:∀ z,z∈K2↔z∈K/\inR lo hi z=true):ydY K2=valsN lo hi K/\(valsN lo hi K).length=K2.length/\∀ z,z∈K2↔z∈valsN lo hi K:=by
 have e:ydY K2=valsN lo hi K:=y9zY fun z=>by rw [h z];simp
 refine ⟨e,by rw [←e,yjsY h2],fun z=>by rw [←e,y3jY]⟩
theorem ykwY (R:Ans) (h13:∀ s,SL s->∀ v b,NumR s v b->R.v 227 [mkS s] (.tup [jI v,.bool b])) (h36:∀ n,FI n->R.v 258 [jI n,jI 10] (mkS (itoa n)))
 (h32:∀ K:List Str,K.Nodup->(∀ s∈K,SL s)->K.length<=8796093022208->R.v 254 [.mapv (K.map ent)] (.sl 1 false ((ydY K).map mkS))) (lo0 hi0:Int) (hb1:least<=lo0) (hb2:lo0<=most+1) (hb3:hi0<=most) (hb4:least-1<=hi0) (K:List Str) (hK:K=[]) (hKl:K.length<=8796093022208) (S:SetV) (b:Bool) (hS:NumsR lo0 hi0 K S b):AnsF R c256 [jI lo0,jI hi0,.mapv (K.map ent)] (.tup [setD S,.bool b]):=by
 unfold least at hb1 hb4
 unfold most at hb2 hb3
 refine y2Y ⟨rfl,by decide⟩ fun O hO V hV=>?_
 subst hV
 obtain ⟨es,hes⟩:∃ es,es=K.map ent:=⟨_,rfl⟩
 rw [←hes]
 obtain ⟨r,hrr⟩:∃ r,r=D.tup [setD S,.bool b]:=⟨_,rfl⟩
 rw [←hrr]
 have hleq:O .len es=K.length:=by rw [o_len hO,hes];simp
 have look:∀ z:Str,∃ r,lookD kS (mkS z) es=some r/\((z∈K/\r=some (.bool true))∨(z∉K/\r=none)):=fun z=>by
  rw [hes,y7gY]
  by_cases h:z∈K
  ·exact ⟨_,rfl,.inl ⟨h,by simp [h]⟩⟩
  ·exact ⟨_,rfl,.inr ⟨h,by simp [h]⟩⟩
 have fmt:∀ x:Int,FI x->∃ z:Str,V.v 258 [jI x,jI 10] (.str ⟨⟨z⟩⟩)/\z=itoa x:=fun x hx=>⟨_,h36 x hx,rfl⟩
 conv=>cbv
 refine y2dY (fun d=>∃ x:Int,d=⟨[(0,jI x),(1,jI hi0),(2,.mapv es),(6,.ptr 6 1 0)],[(6,⟨1,.rw,.var,[.bool false,.bool false,.bool false,.sl 1 true [],jI 0,jI 0]⟩)],false⟩/\x=upS hi0 K lo0) (fun M upm=>?_) ?_
 ·conv=>cbv
  refine y4Y (fun n d=>∃ x:Int,d=⟨[(0,jI x),(1,jI hi0),(2,.mapv es),(6,.ptr 6 1 0)],[(6,⟨1,.rw,.var,[.bool false,.bool false,.bool false,.sl 1 true [],jI 0,jI 0]⟩)],false⟩/\n=(hi0+1-x).toNat/\(x<=hi0+1∨x=lo0)/\lo0<=x/\upS hi0 K x=upS hi0 K lo0) ⟨_,_,⟨_,rfl,rfl,.inr rfl,Int.le_refl _,rfl⟩,⟨⟨rfl,rfl,rfl,rfl,trivial⟩,⟨rfl,trivial⟩,rfl⟩⟩ ?_
  rintro J up n d ⟨x,rfl,rfl,hx1,hx2,hx3⟩
  conv=>cbv
  rintro (_|_) h1
  ·replace h1:=f_leq hO h1
   conv=>cbv
   exact ⟨_,upm _ ⟨x,rfl,by rw [←hx3,y56Y (fun h=>by omega)]⟩,⟨⟨rfl,rfl,rfl,rfl,trivial⟩,⟨rfl,trivial⟩,rfl⟩⟩
  ·replace h1:=t_leq hO h1
   conv=>cbv
   obtain ⟨z,hz,hzi⟩:=fmt x (by unfold FI;omega)
   refine ⟨_,hz,?_⟩
   conv=>cbv
   obtain ⟨q,hq,hcase⟩:=look z
   refine ⟨q,hq,?_⟩
   rcases hcase with ⟨hm,rfl⟩|⟨hm,rfl⟩
   ·conv=>cbv
    refine ⟨_,_,up _ _ ⟨_,rfl,rfl,?_,?_,?_⟩,⟨⟨rfl,rfl,rfl,rfl,trivial⟩,⟨rfl,trivial⟩,rfl⟩,?_⟩
    all_goals rw [y0Y hO (by omega) (by omega)]
    ·omega
    ·omega
    ·rw [←hx3,←ya0Y ⟨h1,by rw [←hzi];exact hm⟩]
    ·omega
   ·conv=>cbv
    exact ⟨_,upm _ ⟨x,rfl,by rw [←hx3,y56Y (fun h=>hm (by rw [hzi];exact h.2))]⟩,⟨⟨rfl,rfl,rfl,rfl,trivial⟩,⟨rfl,trivial⟩,rfl⟩⟩
 rintro d ⟨x,rfl,hx⟩
 have hxb:=yeiY (hi:=hi0) (K:=K) _ lo0 (Nat.le_refl _)
 rw [←hx] at hxb
 conv=>cbv
 refine y2dY (fun d=>∃ y:Int,d=⟨[(0,jI x),(1,jI y),(2,.mapv es),(6,.ptr 6 1 0)],[(6,⟨1,.rw,.var,[.bool false,.bool false,.bool false,.sl 1 true [],jI 0,jI 0]⟩)],false⟩/\y=dnS x K hi0) (fun M upm=>?_) ?_
 ·conv=>cbv
  refine y4Y (fun n d=>∃ y:Int,d=⟨[(0,jI x),(1,jI y),(2,.mapv es),(6,.ptr 6 1 0)],[(6,⟨1,.rw,.var,[.bool false,.bool false,.bool false,.sl 1 true [],jI 0,jI 0]⟩)],false⟩/\n=(y+1-x).toNat/\(x-1<=y∨y=hi0)/\y<=hi0/\dnS x K y=dnS x K hi0) ⟨_,_,⟨_,rfl,rfl,.inr rfl,Int.le_refl _,rfl⟩,⟨⟨rfl,rfl,rfl,rfl,trivial⟩,⟨rfl,trivial⟩,rfl⟩⟩ ?_
  rintro J up n d ⟨y,rfl,rfl,hx1,hx2,hx3⟩
  conv=>cbv
  rintro (_|_) h1
  ·replace h1:=f_leq hO h1
   conv=>cbv
   exact ⟨_,upm _ ⟨y,rfl,by rw [←hx3,y57Y (fun h=>by omega)]⟩,⟨⟨rfl,rfl,rfl,rfl,trivial⟩,⟨rfl,trivial⟩,rfl⟩⟩
  ·replace h1:=t_leq hO h1
   conv=>cbv
   obtain ⟨z,hz,hzi⟩:=fmt y (by unfold FI;omega)
   refine ⟨_,hz,?_⟩
   conv=>cbv
   obtain ⟨q,hq,hcase⟩:=look z
   refine ⟨q,hq,?_⟩
   rcases hcase with ⟨hm,rfl⟩|⟨hm,rfl⟩
   ·conv=>cbv
    refine ⟨_,_,up _ _ ⟨_,rfl,rfl,?_,?_,?_⟩,⟨⟨rfl,rfl,rfl,rfl,trivial⟩,⟨rfl,trivial⟩,rfl⟩,?_⟩
    all_goals rw [y15Y hO (by omega) (by omega)]
    ·omega
    ·omega
    ·rw [←hx3,←ya1Y ⟨h1,by rw [←hzi];exact hm⟩]
    ·omega
   ·conv=>cbv
    exact ⟨_,upm _ ⟨y,rfl,by rw [←hx3,y57Y (fun h=>hm (by rw [hzi];exact h.2))]⟩,⟨⟨rfl,rfl,rfl,rfl,trivial⟩,⟨rfl,trivial⟩,rfl⟩⟩
 rintro d ⟨y,rfl,hy⟩
 have hyb:=yejY (lo:=x) (K:=K) _ hi0 (Nat.le_refl _)
 rw [←hy] at hyb
 conv=>cbv
 refine y2dY (fun d=>∃ (K2:List Str) (es2:List D),d=⟨[(0,jI x),(1,jI y),(2,.mapv es2),(6,.ptr 6 1 0)],[(6,⟨1,.rw,.var,[.bool false,.bool false,.bool false,.sl 1 true [],jI 0,jI 0]⟩)],false⟩/\es2=K2.map ent/\K2.Nodup/\K2.length<=K.length/\∀ z,z∈K2↔z∈K/\inR x y z=true) (fun M upm=>?_) ?_
 ·conv=>cbv
  intro g37
  conv=>cbv
  subst hK
  rw [List.map_nil] at hes
  refine y4Y (fun n d=>n=0/\d=⟨[(0,jI x),(1,jI y),(2,.mapv es),(6,.ptr 6 1 0),(37,.ptr 37 g37 0)],[(6,⟨1,.rw,.var,[.bool false,.bool false,.bool false,.sl 1 true [],jI 0,jI 0]⟩),(37,⟨g37,.rw,.iter,[.mapv es,jI 0]⟩)],false⟩) ⟨_,_,⟨rfl,rfl⟩,⟨⟨rfl,rfl,rfl,rfl,rfl,trivial⟩,⟨rfl,rfl,trivial⟩,rfl⟩⟩ ?_
  rintro J up n d ⟨rfl,rfl⟩
  conv=>cbv
  refine ⟨fun w hw=>by rw [hes] at hw;simp at hw,fun _=>?_,fun k w hw=>by rw [hes] at hw;simp at hw⟩
  conv=>cbv
  exact ⟨_,upm _ ⟨[],es,rfl,hes,List.nodup_nil,Nat.le_refl _,fun z=>by simp⟩,⟨⟨rfl,rfl,rfl,rfl,trivial⟩,⟨rfl,trivial⟩,rfl⟩⟩
 rintro d ⟨K2,es2,rfl,hes2,hnd,hlen2,hmem⟩
 obtain ⟨hv1,hv2,hv3⟩:=ykvY hnd hmem
 have hl2:O .len es2=K2.length:=by rw [o_len hO,hes2];simp
 have hc2:CleanL es2:=y8Y y7hY hes2
 have hans:y2jY lo0 hi0 K=y2aY x y K:=by unfold y2jY;rw [←hx,←hy]
 have hspan:O .iop .sub .i64 (O .iop .add .i64 (O .iop .sub .i64 y x) 1) (O .len es2)=y-x+1-K2.length:=by
  have e1:O .iop .sub .i64 y x=y-x:=y15Y hO (by omega) (by omega)
  rw [e1,y0Y hO (by omega) (by omega),hl2,y15Y hO (by omega) (by omega)]
 have look2:∀ z:Str,∃ r,lookD kS (mkS z) es2=some r/\((z∈K2/\r=some (.bool true))∨(z∉K2/\r=none)):=fun z=>by
  rw [hes2,y7gY]
  by_cases h:z∈K2
  ·exact ⟨_,rfl,.inl ⟨h,by simp [h]⟩⟩
  ·exact ⟨_,rfl,.inr ⟨h,by simp [h]⟩⟩
 conv=>cbv
 rintro (_|_) h1
 ·replace h1:=f_gtr hO h1
  rw [hspan] at h1
  conv=>cbv
  intro g77
  conv=>cbv
  refine y4Y (fun n d=>∃ (v:Int) (j:Nat) (ac:List D) (tk:Int),d=⟨[(1,jI y),(2,.mapv es2),(6,.ptr 6 1 0),(11,.mapr 77 g77),(12,jI v)],[(6,⟨1,.rw,.var,[.bool false,.bool false,.bool false,.sl 1 true [],jI 0,jI 0]⟩),(77,⟨g77,.rw,.map,jI tk::ac⟩)],false⟩/\v=x+j/\(j=0∨v<=y+1)/\n=(y+1-v).toNat/\ac=(accN x K2 j).map ent) ⟨_,_,⟨x,0,_,_,rfl,by omega,.inl rfl,rfl,rfl⟩,⟨⟨rfl,rfl,rfl,rfl,rfl,trivial⟩,⟨rfl,rfl,trivial⟩,rfl⟩⟩ ?_
  rintro J up n d ⟨v,j,ac,tk,rfl,hv,hvj,rfl,hac⟩
  conv=>cbv
  rintro (_|_) h2
  ·replace h2:=f_leq hO h2
   conv=>cbv
   have hj:accN x K2 j=accN x K2 (y+1-x).toNat:=by
    rcases hvj with h|h
    ·subst h;rw [show (y+1-x).toNat=0 by omega]
    ·rw [show (y+1-x).toNat=j by omega]
   have hcac:CleanL ac:=y8Y y7hY hac
   have hal:=ykqY x K2 j
   have hr:=h32 (accN x K2 j) (ykpY _ _ _) (yktY fun i hi=>⟨by omega,by omega⟩) (by omega)
   rw [←hac] at hr
   obtain ⟨rs,hrs⟩:∃ rs,rs=(ydY (accN x K2 j)).map mkS:=⟨_,rfl⟩
   have hcr:CleanL rs:=y8Y yhY hrs
   rw [←hrs] at hr
   have hfin:ydY (accN x K2 j)=ydY (listN x y (valsN x y K)):=by
    rw [hj,←ykrY hv3]
    exact y9zY fun z=>ykoY
   refine ⟨hcac,_,hr,?_⟩
   conv=>cbv
   have hN:y2aY x y K=some ⟨false,false,false,ydY (accN x K2 j),0,0⟩:=by unfold y2aY;rw [if_pos (by rw [hv2];omega),hfin]
   refine ⟨hcr,?_⟩
   conv=>cbv
   rcases hS with ⟨rfl,hS⟩|⟨rfl,hS⟩
   ·rw [hans,hN] at hS
    simp only [Option.some.injEq] at hS
    subst hS
    rw [hrr]
    simp only [setD,]
    rw [←hrs]
   ·rw [hans,hN] at hS
    simp at hS
  ·replace h2:=t_leq hO h2
   conv=>cbv
   obtain ⟨z,hz,hzi⟩:=fmt v (by unfold FI;omega)
   refine ⟨_,hz,?_⟩
   conv=>cbv
   obtain ⟨q,hq,hcase⟩:=look2 z
   have hadd:O .iop .add .i64 v 1=v+1:=y0Y hO (by omega) (by omega)
   have hst:=yknY (lo:=x) (K:=K2) (j:=j) (z:=z) (by rw [hzi,hv])
   refine ⟨q,hq,?_⟩
   rcases hcase with ⟨hm,rfl⟩|⟨hm,rfl⟩
   ·conv=>cbv
    rw [hadd]
    refine ⟨_,_,up _ _ ⟨v+1,j+1,ac,tk,rfl,by omega,.inr (by omega),rfl,?_⟩,⟨⟨rfl,rfl,rfl,rfl,rfl,trivial⟩,⟨rfl,rfl,trivial⟩,rfl⟩,by omega⟩
    rw [hac,hst,if_pos hm]
   ·conv=>cbv
    obtain ⟨ac3,hac3⟩:∃ ac3,ac3=(insS (accN x K2 j) z).map ent:=⟨_,rfl⟩
    refine ⟨ac3,by rw [hac,hac3];exact y64Y _ _,fun c=>?_⟩
    conv=>cbv
    rw [hadd]
    refine ⟨_,_,up _ _ ⟨v+1,j+1,ac3,c,rfl,by omega,.inr (by omega),rfl,?_⟩,⟨⟨rfl,rfl,rfl,rfl,rfl,trivial⟩,⟨rfl,rfl,trivial⟩,rfl⟩,by omega⟩
    rw [hac3,hst,if_neg hm]
 ·replace h1:=t_gtr hO h1
  rw [hspan] at h1
  conv=>cbv
  have hr:=h32 K2 hnd (ykuY hmem) (by omega)
  rw [←hes2] at hr
  obtain ⟨rs,hrs⟩:∃ rs,rs=(ydY K2).map mkS:=⟨_,rfl⟩
  have hcr:CleanL rs:=y8Y yhY hrs
  rw [←hrs] at hr
  refine ⟨hc2,_,hr,?_⟩
  conv=>cbv
  rintro (_|_) h2
  ·replace h2:=f_leq hO h2
   rw [hl2] at h2
   conv=>cbv
   exfalso
   subst hK
   simp only [List.length_nil] at hlen2
   omega
  ·replace h2:=t_leq hO h2
   rw [hl2] at h2
   conv=>cbv
   have hN:y2aY x y K=some ⟨false,true,true,valsN x y K,x,y⟩:=by unfold y2aY;rw [if_neg (by rw [hv2];omega),if_neg (by rw [hv2];omega)]
   refine ⟨hcr,?_⟩
   conv=>cbv
   rcases hS with ⟨rfl,hS⟩|⟨rfl,hS⟩
   ·rw [hans,hN] at hS
    simp only [Option.some.injEq] at hS
    subst hS
    rw [hrr]
    simp only [setD,←hv1]
    rw [←hrs]
   ·rw [hans,hN] at hS
    simp at hS
theorem yelY (l:List Str) (z:Str):ydY (l++[z])=putS z (ydY l):=by unfold ydY;rw [List.foldl_append];rfl
theorem ykxY (R:Ans) (h15:∀ s,SL s->∀ v b,NumR s v b->R.v 173 [mkS s] (.tup [jI v,.bool b])) (h37:∀ n,FI n->R.v 212 [jI n] (mkS (itoa n)))
 (h45:∀ (l:List Str) (x:Str),l.length<4611686018427387904->R.v 240 [.sl 1 false (l.map mkS),mkS x] (.bool (decide (x∈l))))
 (h54:∀ (l:List Str) (x:Str),l.length<8796093022208->R.v 247 [.sl 1 false (l.map mkS),mkS x] (.sl 1 false ((putS x l).map mkS)))
 (lo0 hi0:Int) (hb1:least<=lo0) (hb2:lo0<=most+1) (hb3:hi0<=most) (hb4:least-1<=hi0) (K:List Str) (hK:FL K) :
 ∃ S b,AnsF R c211 [jI lo0,jI hi0,.sl 1 false (K.map mkS)] (.tup [setD S,.bool b])/\NumsR lo0 hi0 K S b/\(b=false->S=⟨false,false,false,[],0,0⟩):=by
 have hKl:=hK.len
 have hKs:=hK.all
 clear hK
 unfold least at hb1 hb4
 unfold most at hb2 hb3
 obtain ⟨S,b,hS,hSz⟩:∃ S b,NumsR lo0 hi0 K S b/\(b=false->S=⟨false,false,false,[],0,0⟩):=by
  cases h:y2jY lo0 hi0 K with
  | none=>exact ⟨_,false,.inr ⟨rfl,h⟩,fun _=>rfl⟩
  | some S=>exact ⟨S,true,.inl ⟨rfl,h⟩,by simp⟩
 refine ⟨S,b,?_,hS,hSz⟩
 obtain ⟨xs,hxs⟩:∃ xs,xs=K.map mkS:=⟨_,rfl⟩
 have hcx:CleanL xs:=y8Y yhY hxs
 obtain ⟨r,hrr⟩:∃ r,r=D.tup [setD S,.bool b]:=⟨_,rfl⟩
 rw [←hxs,←hrr]
 refine y2Y ⟨rfl,by decide⟩ fun O hO V hV=>?_
 subst hV
 have hlen:O .len xs=K.length:=by rw [o_len hO,hxs];simp
 have fmt:∀ x:Int,FI x->∃ z:Str,V.v 212 [jI x] (.str ⟨⟨z⟩⟩)/\z=itoa x:=fun x hx=>⟨_,h37 x hx,rfl⟩
 have isin:∀ z:Str,∃ q,V.v 240 [.sl 1 false xs,.str ⟨⟨z⟩⟩] (.bool q)/\(q=true->z∈K)/\(q=false->z∉K):=fun z=>⟨_,by rw [hxs];exact h45 K z (by omega),by simp,by simp⟩
 conv=>cbv
 refine y2dY (fun d=>∃ x:Int,d=⟨[(0,jI x),(1,jI hi0),(2,.sl 1 false xs),(6,.ptr 6 1 0)],[(6,⟨1,.rw,.var,[.bool false,.bool false,.bool false,.sl 1 true [],jI 0,jI 0]⟩)],false⟩/\x=upS hi0 K lo0) (fun M upm=>?_) ?_
 ·conv=>cbv
  refine y4Y (fun n d=>∃ x:Int,d=⟨[(0,jI x),(1,jI hi0),(2,.sl 1 false xs),(6,.ptr 6 1 0)],[(6,⟨1,.rw,.var,[.bool false,.bool false,.bool false,.sl 1 true [],jI 0,jI 0]⟩)],false⟩/\n=(hi0+1-x).toNat/\(x<=hi0+1∨x=lo0)/\lo0<=x/\upS hi0 K x=upS hi0 K lo0) ⟨_,_,⟨_,rfl,rfl,.inr rfl,Int.le_refl _,rfl⟩,⟨⟨rfl,rfl,rfl,rfl,trivial⟩,⟨rfl,trivial⟩,rfl⟩⟩ ?_
  rintro J up n d ⟨x,rfl,rfl,hx1,hx2,hx3⟩
  conv=>cbv
  rintro (_|_) h1
  ·replace h1:=f_leq hO h1
   conv=>cbv
   exact ⟨_,upm _ ⟨x,rfl,by rw [←hx3,y56Y (fun h=>by omega)]⟩,⟨⟨rfl,rfl,rfl,rfl,trivial⟩,⟨rfl,trivial⟩,rfl⟩⟩
  ·replace h1:=t_leq hO h1
   conv=>cbv
   obtain ⟨z,hz,hzi⟩:=fmt x (by unfold FI;omega)
   refine ⟨_,hz,?_⟩
   conv=>cbv
   obtain ⟨q,hq,hqt,hqf⟩:=isin z
   refine ⟨hcx,_,hq,?_⟩
   cases q with
   | true =>
     have hm:=hqt rfl
     conv=>cbv
     refine ⟨_,_,up _ _ ⟨_,rfl,rfl,?_,?_,?_⟩,⟨⟨rfl,rfl,rfl,rfl,trivial⟩,⟨rfl,trivial⟩,rfl⟩,?_⟩
     all_goals rw [y0Y hO (by omega) (by omega)]
     ·omega
     ·omega
     ·rw [←hx3,←ya0Y ⟨h1,by rw [←hzi];exact hm⟩]
     ·omega
   | false =>
     have hm:=hqf rfl
     conv=>cbv
     exact ⟨_,upm _ ⟨x,rfl,by rw [←hx3,y56Y (fun h=>hm (by rw [hzi];exact h.2))]⟩,⟨⟨rfl,rfl,rfl,rfl,trivial⟩,⟨rfl,trivial⟩,rfl⟩⟩
 rintro d ⟨x,rfl,hx⟩
 have hxb:=yeiY (hi:=hi0) (K:=K) _ lo0 (Nat.le_refl _)
 rw [←hx] at hxb
 conv=>cbv
 refine y2dY (fun d=>∃ y:Int,d=⟨[(0,jI x),(1,jI y),(2,.sl 1 false xs),(6,.ptr 6 1 0)],[(6,⟨1,.rw,.var,[.bool false,.bool false,.bool false,.sl 1 true [],jI 0,jI 0]⟩)],false⟩/\y=dnS x K hi0) (fun M upm=>?_) ?_
 ·conv=>cbv
  refine y4Y (fun n d=>∃ y:Int,d=⟨[(0,jI x),(1,jI y),(2,.sl 1 false xs),(6,.ptr 6 1 0)],[(6,⟨1,.rw,.var,[.bool false,.bool false,.bool false,.sl 1 true [],jI 0,jI 0]⟩)],false⟩/\n=(y+1-x).toNat/\(x-1<=y∨y=hi0)/\y<=hi0/\dnS x K y=dnS x K hi0) ⟨_,_,⟨_,rfl,rfl,.inr rfl,Int.le_refl _,rfl⟩,⟨⟨rfl,rfl,rfl,rfl,trivial⟩,⟨rfl,trivial⟩,rfl⟩⟩ ?_
  rintro J up n d ⟨y,rfl,rfl,hx1,hx2,hx3⟩
  conv=>cbv
  rintro (_|_) h1
  ·replace h1:=f_leq hO h1
   conv=>cbv
   exact ⟨_,upm _ ⟨y,rfl,by rw [←hx3,y57Y (fun h=>by omega)]⟩,⟨⟨rfl,rfl,rfl,rfl,trivial⟩,⟨rfl,trivial⟩,rfl⟩⟩
  ·replace h1:=t_leq hO h1
   conv=>cbv
   obtain ⟨z,hz,hzi⟩:=fmt y (by unfold FI;omega)
   refine ⟨_,hz,?_⟩
   conv=>cbv
   obtain ⟨q,hq,hqt,hqf⟩:=isin z
   refine ⟨hcx,_,hq,?_⟩
   cases q with
   | true =>
     have hm:=hqt rfl
     conv=>cbv
     refine ⟨_,_,up _ _ ⟨_,rfl,rfl,?_,?_,?_⟩,⟨⟨rfl,rfl,rfl,rfl,trivial⟩,⟨rfl,trivial⟩,rfl⟩,?_⟩
     all_goals rw [y15Y hO (by omega) (by omega)]
     ·omega
     ·omega
     ·rw [←hx3,←ya1Y ⟨h1,by rw [←hzi];exact hm⟩]
     ·omega
   | false =>
     have hm:=hqf rfl
     conv=>cbv
     exact ⟨_,upm _ ⟨y,rfl,by rw [←hx3,y57Y (fun h=>hm (by rw [hzi];exact h.2))]⟩,⟨⟨rfl,rfl,rfl,rfl,trivial⟩,⟨rfl,trivial⟩,rfl⟩⟩
 rintro d ⟨y,rfl,hy⟩
 have hyb:=yejY (lo:=x) (K:=K) _ hi0 (Nat.le_refl _)
 rw [←hy] at hyb
 conv=>cbv
 refine y2dY (fun d=>∃ (nl:Bool) (vs:List D),d=⟨[(0,jI x),(1,jI y),(6,.ptr 6 1 0),(12,.sl 1 nl vs)],[(6,⟨1,.rw,.var,[.bool false,.bool false,.bool false,.sl 1 true [],jI 0,jI 0]⟩)],false⟩/\vs=(valsN x y K).map mkS) (fun M upm=>?_) ?_
 ·conv=>cbv
  refine y4Y (fun n d=>∃ (i:Int) (k:Nat) (nl:Bool) (vs:List D),d=⟨[(0,jI x),(1,jI y),(2,.sl 1 false xs),(6,.ptr 6 1 0),(12,.sl 1 nl vs),(13,jI i)],[(6,⟨1,.rw,.var,[.bool false,.bool false,.bool false,.sl 1 true [],jI 0,jI 0]⟩)],false⟩/\i=k/\k<=K.length/\n=K.length-k/\vs=(ydY ((K.take k).filter (inR x y))).map mkS) ⟨_,_,⟨_,0,_,_,rfl,rfl,by omega,rfl,by simp [ydY]⟩,⟨⟨rfl,rfl,rfl,rfl,rfl,rfl,trivial⟩,⟨rfl,trivial⟩,rfl⟩⟩ ?_
  rintro J up n d ⟨i,k,nl,vs,rfl,hi,hk,rfl,hvs⟩
  have hcv:CleanL vs:=y8Y yhY hvs
  conv=>cbv
  rintro (_|_) h1
  ·replace h1:=f_lss hO h1
   rw [hlen] at h1
   conv=>cbv
   exact ⟨_,upm _ ⟨nl,vs,rfl,by rw [hvs,List.take_of_length_le (by omega)];rfl⟩,⟨⟨rfl,rfl,rfl,rfl,trivial⟩,⟨rfl,trivial⟩,rfl⟩⟩
  ·replace h1:=t_lss hO h1
   rw [hlen] at h1
   conv=>cbv
   obtain ⟨z,hz⟩:∃ z,K[k]?=some z:=⟨_,List.getElem?_eq_getElem (by omega)⟩
   obtain ⟨v,bb,hvb⟩:=NumR.ex z
   have hv:=h15 z (hKs z (List.mem_of_getElem? hz)) v bb hvb
   have hadd:O .iop .add .i64 i 1=((k+1:Nat):Int):=by rw [y0Y hO (by omega) (by omega)];omega
   have hno:inR x y z=false->vs=(ydY ((K.take (k+1)).filter (inR x y))).map mkS:=fun h=>by rw [hvs,List.take_add_one,hz,List.filter_append];simp [h]
   have hyes:inR x y z=true->(ydY ((K.take (k+1)).filter (inR x y)))=putS z (ydY ((K.take k).filter (inR x y))):=fun h=>by
    rw [List.take_add_one,hz,List.filter_append,←yelY];simp [h]
   have hbad:(¬∃ n,numS z=some n/\x<n/\n<y)->inR x y z=false:=fun h=>by
    cases hi:inR x y z with
    | false=>rfl
    | true=>exact absurd (inR_iff.1 hi) h
   refine ⟨mkS z,y7Y hz hxs hi,?_⟩
   conv=>cbv
   refine ⟨_,hv,?_⟩
   cases bb with
   | false =>
     conv=>cbv
     exact ⟨_,_,up _ _ ⟨_,k+1,nl,vs,rfl,hadd,by omega,rfl,hno (hbad fun ⟨n,hn,_⟩=>by have:=(hvb.of hn).1;simp at this)⟩,⟨⟨rfl,rfl,rfl,rfl,rfl,rfl,trivial⟩,⟨rfl,trivial⟩,rfl⟩,by omega⟩
   | true =>
     have hnum:numS z=some v:=by
      rcases hvb with ⟨_,h⟩|⟨h,_⟩
      ·exact h
      ·simp at h
     conv=>cbv
     rintro (_|_) h2
     ·replace h2:=f_gtr hO h2
      conv=>cbv
      exact ⟨_,_,up _ _ ⟨_,k+1,nl,vs,rfl,hadd,by omega,rfl,hno (hbad fun ⟨n,hn,h8,h9⟩=>by rw [hnum] at hn;simp only [Option.some.injEq] at hn;omega)⟩,⟨⟨rfl,rfl,rfl,rfl,rfl,rfl,trivial⟩,⟨rfl,trivial⟩,rfl⟩,by omega⟩
     ·replace h2:=t_gtr hO h2
      conv=>cbv
      rintro (_|_) h3
      ·replace h3:=f_lss hO h3
       conv=>cbv
       exact ⟨_,_,up _ _ ⟨_,k+1,nl,vs,rfl,hadd,by omega,rfl,hno (hbad fun ⟨n,hn,h8,h9⟩=>by rw [hnum] at hn;simp only [Option.some.injEq] at hn;omega)⟩,⟨⟨rfl,rfl,rfl,rfl,rfl,rfl,trivial⟩,⟨rfl,trivial⟩,rfl⟩,by omega⟩
      ·replace h3:=t_lss hO h3
       conv=>cbv
       have hin:inR x y z=true:=inR_iff.2 ⟨v,hnum,h2,h3⟩
       have hll:(ydY ((K.take k).filter (inR x y))).length<8796093022208:=by
        have e1:=y7fY ((K.take k).filter (inR x y))
        have e2:=List.length_filter_le (inR x y) (K.take k)
        have e3:(K.take k).length<=k:=by simp;omega
        omega
       have hp:=h54 (ydY ((K.take k).filter (inR x y))) z hll
       rw [←hvs,←hyes hin] at hp
       obtain ⟨vs2,hvs2⟩:∃ vs2,vs2=(ydY ((K.take (k+1)).filter (inR x y))).map mkS:=⟨_,rfl⟩
       rw [←hvs2] at hp
       refine ⟨mkS z,y7Y hz hxs hi,?_⟩
       conv=>cbv
       refine ⟨hcv,_,hp,?_⟩
       conv=>cbv
       exact ⟨_,_,up _ _ ⟨_,k+1,false,vs2,rfl,hadd,by omega,rfl,hvs2⟩,⟨⟨rfl,rfl,rfl,rfl,rfl,rfl,trivial⟩,⟨rfl,trivial⟩,rfl⟩,by omega⟩
 rintro d ⟨nl,vs,rfl,hvs⟩
 have hcv:CleanL vs:=y8Y yhY hvs
 have hlv:O .len vs=(valsN x y K).length:=by rw [o_len hO,hvs];simp
 have hvl:(valsN x y K).length<=K.length:=Nat.le_trans (y7fY _) (List.length_filter_le _ _)
 have hans:y2jY lo0 hi0 K=y2aY x y K:=by unfold y2jY;rw [←hx,←hy]
 have hspan:O .iop .sub .i64 (O .iop .add .i64 (O .iop .sub .i64 y x) 1) (O .len vs)=y-x+1-(valsN x y K).length:=by
  have e1:O .iop .sub .i64 y x=y-x:=y15Y hO (by omega) (by omega)
  rw [e1,y0Y hO (by omega) (by omega),hlv,y15Y hO (by omega) (by omega)]
 have isin2:∀ z:Str,∃ q,V.v 240 [.sl 1 false vs,.str ⟨⟨z⟩⟩] (.bool q)/\(q=true->z∈valsN x y K)/\(q=false->z∉valsN x y K):=fun z=>⟨_,by rw [hvs];exact h45 (valsN x y K) z (by omega),by simp,by simp⟩
 conv=>cbv
 rintro (_|_) h1
 ·replace h1:=f_leq hO h1
  rw [hspan] at h1
  conv=>cbv
  rintro (_|_) h2
  ·replace h2:=f_gtr hO h2
   rw [hlv] at h2
   have hN:y2aY x y K=some ⟨false,true,true,valsN x y K,x,y⟩:=by unfold y2aY;rw [if_neg (by omega),if_neg (by omega)]
   conv=>cbv
   refine ⟨hcv,?_⟩
   conv=>cbv
   rcases hS with ⟨rfl,hS⟩|⟨rfl,hS⟩
   ·rw [hans,hN] at hS
    simp only [Option.some.injEq] at hS
    subst hS
    rw [hrr]
    simp only [setD]
    rw [←hvs]
   ·rw [hans,hN] at hS
    simp at hS
  ·replace h2:=t_gtr hO h2
   rw [hlv] at h2
   have hN:y2aY x y K=none:=by unfold y2aY;rw [if_neg (by omega),if_pos (by omega)]
   conv=>cbv
   rcases hS with ⟨rfl,hS⟩|⟨rfl,hS⟩
   ·rw [hans,hN] at hS
    simp at hS
   ·rw [hrr,hSz rfl]
    exact ⟨⟨rfl,rfl⟩,rfl⟩
 ·replace h1:=t_leq hO h1
  rw [hspan] at h1
  conv=>cbv
  refine y4Y (fun n d=>∃ (v:Int) (j:Nat) (nl2:Bool) (ac:List D),d=⟨[(1,jI y),(6,.ptr 6 1 0),(12,.sl 1 nl vs),(16,.sl 1 nl2 ac),(17,jI v)],[(6,⟨1,.rw,.var,[.bool false,.bool false,.bool false,.sl 1 true [],jI 0,jI 0]⟩)],false⟩/\v=x+j/\(j=0∨v<=y+1)/\n=(y+1-v).toNat/\ac=(ydY ((upTo x j).filter fun s=>decide (s∉valsN x y K))).map mkS) ⟨_,_,⟨x,0,_,_,rfl,by omega,.inl rfl,rfl,rfl⟩,⟨⟨rfl,rfl,rfl,rfl,rfl,trivial⟩,⟨rfl,trivial⟩,rfl⟩⟩ ?_
  rintro J up n d ⟨v,j,nl2,ac,rfl,hv,hvj,rfl,hac⟩
  have hcac:CleanL ac:=y8Y yhY hac
  conv=>cbv
  rintro (_|_) h2
  ·replace h2:=f_leq hO h2
   have hj:upTo x j=upTo x (y+1-x).toNat:=by
    rcases hvj with h|h
    ·subst h;rw [show (y+1-x).toNat=0 by omega]
    ·rw [show (y+1-x).toNat=j by omega]
   have hN:y2aY x y K=some ⟨false,false,false,ydY (listN x y (valsN x y K)),0,0⟩:=by unfold y2aY;rw [if_pos (by omega)]
   rw [hj] at hac
   conv=>cbv
   refine ⟨hcac,?_⟩
   conv=>cbv
   rcases hS with ⟨rfl,hS⟩|⟨rfl,hS⟩
   ·rw [hans,hN] at hS
    simp only [Option.some.injEq] at hS
    subst hS
    rw [hrr]
    simp only [setD]
    rw [hac]
    rfl
   ·rw [hans,hN] at hS
    simp at hS
  ·replace h2:=t_leq hO h2
   conv=>cbv
   obtain ⟨z,hz,hzi⟩:=fmt v (by unfold FI;omega)
   refine ⟨_,hz,?_⟩
   conv=>cbv
   obtain ⟨q,hq,hqt,hqf⟩:=isin2 z
   have hadd:O .iop .add .i64 v 1=v+1:=y0Y hO (by omega) (by omega)
   refine ⟨hcv,_,hq,?_⟩
   cases q with
   | true =>
     have hm:=hqt rfl
     conv=>cbv
     rw [hadd]
     refine ⟨_,_,up _ _ ⟨v+1,j+1,nl2,ac,rfl,by omega,.inr (by omega),rfl,?_⟩,⟨⟨rfl,rfl,rfl,rfl,rfl,trivial⟩,⟨rfl,trivial⟩,rfl⟩,by omega⟩
     rw [hac,y65Y,List.filter_append,←hv,←hzi]
     simp [hm]
   | false =>
     have hm:=hqf rfl
     have hll:(ydY ((upTo x j).filter fun s=>decide (s∉valsN x y K))).length<8796093022208:=by
      have e1:=y7fY ((upTo x j).filter fun s=>decide (s∉valsN x y K))
      have e2:=List.length_filter_le (fun s=>decide (s∉valsN x y K)) (upTo x j)
      rw [ya4Y] at e2
      omega
     have hp:=h54 _ z hll
     rw [←hac] at hp
     obtain ⟨ac3,hac3⟩:∃ ac3,ac3=(putS z (ydY ((upTo x j).filter fun s=>decide (s∉valsN x y K)))).map mkS:=⟨_,rfl⟩
     rw [←hac3] at hp
     conv=>cbv
     refine ⟨hcac,_,hp,?_⟩
     conv=>cbv
     rw [hadd]
     refine ⟨_,_,up _ _ ⟨v+1,j+1,false,ac3,rfl,by omega,.inr (by omega),rfl,?_⟩,⟨⟨rfl,rfl,rfl,rfl,rfl,trivial⟩,⟨rfl,trivial⟩,rfl⟩,by omega⟩
     rw [hac3,←yelY,y65Y,List.filter_append,←hv,←hzi]
     simp [hm]
end Go.Proofs.AM
namespace Go.Proofs.AM
open Go Go.Lib
structure ReqV where
 key:Str
 op:Int
 l:List Str
 n:Int
def reqD (r:ReqV):D:=.agg [mkS r.key,jI r.op,.sl 1 false (r.l.map mkS),jI r.n]
structure FR (r:ReqV):Prop where
 key:SL r.key
 l:FL r.l
 op:FI r.op
 n:FI r.n
def BadOp (r:ReqV):Prop:=r.op<1∨6<r.op∨((r.op=1∨r.op=2)/\r.l.length=0)∨(¬(r.op=1∨r.op=2)/\0<r.l.length)∨(¬(r.op=5∨r.op=6)/\r.n≠0)∨r.n < -2147483648∨2147483648<r.n
instance (r:ReqV):Decidable (BadOp r):=by unfold BadOp;exact inferInstance
open Classical in
noncomputable def ysY (r:ReqV):Int :=
 if nameB r.key=false then 7
 else if BadOp r then 30
 else if 8<r.l.length then 3
 else if ∃ v∈r.l,yiY v=false then 20
 else if ¬r.l.Nodup then 6
 else 0
theorem yemY {r:ReqV} (h:ysY r=0):nameB r.key=true/\¬BadOp r/\r.l.length<=8/\(∀ v∈r.l,yiY v=true)/\r.l.Nodup:=by
 unfold ysY at h
 split at h
 ·simp at h
 ·rename_i h1
  split at h
  ·simp at h
  ·rename_i h2
   split at h
   ·simp at h
   ·rename_i h3
    split at h
    ·simp at h
    ·rename_i h4
     split at h
     ·simp at h
     ·rename_i h5
      refine ⟨by simpa using h1,h2,by omega,fun v hv=>?_,Classical.byContradiction h5⟩
      cases hb:yiY v with
      | true=>rfl
      | false=>exact absurd ⟨v,hv,hb⟩ h4
theorem yenY:∀ {l:List Str},(∀ (k:Nat) y,l[k]?=some y->y∉l.take k)->l.Nodup
 | [],_=>List.nodup_nil
 | x::r,h=>by
   rw [List.nodup_cons]
   refine ⟨fun hx=>?_,yenY fun k y hy hm=>?_⟩
   ·obtain ⟨j,hj⟩:=List.getElem?_of_mem hx
    exact h (j+1) x (by simpa using hj) (by simp)
   ·exact h (k+1) y (by simpa using hy) (by simp [hm])
theorem ykyY {l:List Str} {k:Nat} {y:Str} (h:l[k]?=some y) (hm:y∈l.take k):¬l.Nodup:=by
 intro hn
 obtain ⟨j,hj⟩:=List.getElem?_of_mem hm
 have hjk:j<k:=by
  have:=(List.getElem?_eq_some_iff.1 hj).1
  simp at this
  omega
 rw [List.getElem?_take_of_lt hjk] at hj
 obtain ⟨a1,h1⟩:=List.getElem?_eq_some_iff.1 hj
 obtain ⟨a2,h2⟩:=List.getElem?_eq_some_iff.1 h
 exact (List.pairwise_iff_getElem.1 hn j k a1 a2 hjk) (h1.trans h2.symm)
theorem yeoY:∀ {l:List Str},¬l.Nodup->∃ l':List Str,l'.length<l.length/\∀ z∈l,z∈l'
 | [],h=>absurd List.nodup_nil h
 | x::r,h=>by
   by_cases hx:x∈r
   ·exact ⟨r,by simp,fun z hz=>by
     rcases List.mem_cons.1 hz with rfl|hz
     ·exact hx
     ·exact hz⟩
   ·have:¬r.Nodup:=fun hn=>h (List.nodup_cons.2 ⟨hx,hn⟩)
    obtain ⟨l',h1,h2⟩:=yeoY this
    exact ⟨x::l',by simp;omega,fun z hz=>by
     rcases List.mem_cons.1 hz with rfl|hz
     ·simp
     ·simp [h2 z hz]⟩
theorem group_lt {l:List Str}:(y1jY [l]).length<l.length↔¬l.Nodup:=by
 have hm:∀ z,z∈y1jY [l]↔z∈l:=fun z=>by rw [y9yY];simp
 constructor
 ·intro h hn
  have:=yeaY (y9xY [l]) hn hm
  omega
 ·intro h
  obtain ⟨l',h1,h2⟩:=yeoY h
  have:=y7iY (y9xY [l]) fun z hz=>h2 z ((hm z).1 hz)
  omega
def zeroS:SetV:=⟨false,false,false,[],0,0⟩
theorem y66Y (lo hi:Int):∃ S,y2jY lo hi []=some S:=by
 unfold y2jY y2aY
 have hv:∀ a b,(valsN a b []).length=0:=fun a b=>by simp [valsN,ydY]
 rw [hv]
 split
 ·exact ⟨_,rfl⟩
 ·rw [if_neg (by omega)];exact ⟨_,rfl⟩
noncomputable def ofS (r:ReqV):SetV :=
 if r.op=1 then ⟨false,false,false,ydY r.l,0,0⟩
 else if r.op=2 then ⟨true,true,false,ydY r.l,0,0⟩
 else if r.op=3 then ⟨false,true,false,[],0,0⟩
 else if r.op=4 then ⟨true,false,false,[],0,0⟩
 else if r.op=5 then (y2jY (r.n+1) most []).getD zeroS
 else (y2jY least (r.n-1) []).getD zeroS
noncomputable def ofSet (r:ReqV):SetV:=if ysY r=0 then ofS r else zeroS
end Go.Proofs.AM
namespace Go.Proofs.AM
open Go Go.Lib Cd
theorem ykzY (R:Ans) (q:ReqV) (hq:FR q) (h16:∀ s,SL s->R.v 65 [mkS s] (.bool (nameB s))) (h17:∀ s,SL s->R.v 118 [mkS s] (.bool (yiY s)))
 (h45:∀ (l:List Str) (x:Str),l.length<4611686018427387904->R.v 240 [.sl 1 false (l.map mkS),mkS x] (.bool (decide (x∈l)))):AnsF R c209 [reqD q] (jI (ysY q)):=by
 obtain ⟨r,hr⟩:∃ r,r=ysY q:=⟨_,rfl⟩
 rw [←hr]
 unfold ysY at hr
 have hall:=hq.l.all
 have hl1:=hq.l.len
 have hn:=h16 q.key hq.key
 obtain ⟨key,op,l,n⟩:=q
 unfold BadOp at hr
 simp only at hr hall hl1 hn
 obtain ⟨b,hb⟩:∃ b,b=nameB key:=⟨_,rfl⟩
 rw [←hb] at hr hn
 unfold reqD
 simp only
 obtain ⟨xs,hxs⟩:∃ xs,xs=l.map mkS:=⟨_,rfl⟩
 rw [←hxs]
 refine y2Y ⟨rfl,by decide⟩ fun O hO V hV=>?_
 subst hV
 have hlen:O .len xs=l.length:=by rw [o_len hO,hxs];simp
 conv=>cbv
 refine ⟨_,hn,?_⟩
 cases b with
 | false =>
   conv=>cbv
   rw [hr]
   rfl
 | true =>
   simp only [Bool.true_eq_false,if_false] at hr
   conv=>cbv
   refine y2dY (fun d=>∃ v:Bool,d=⟨[(1,.ptr 1 1 0),(4,.bool v)],[(1,⟨1,.rw,.var,[mkS key,jI op,.sl 1 false xs,jI n]⟩)],false⟩/\(v=true↔op=1∨op=2)) (fun M upm=>?_) ?_
   ·repeat' ((conv=>cbv);rintro (_|_) _)
    all_goals (conv=>cbv)
    all_goals simp only [o_eql hO,true_eq_decide_iff,false_eq_decide_iff] at *
    all_goals exact ⟨_,upm _ ⟨_,rfl,by simp [*]⟩,⟨⟨rfl,rfl,trivial⟩,⟨rfl,trivial⟩,rfl⟩⟩
   rintro d ⟨v,rfl,hv⟩
   conv=>cbv
   refine y2dY (fun d=>∃ w:Bool,d=⟨[(1,.ptr 1 1 0),(4,.bool v),(5,.bool w)],[(1,⟨1,.rw,.var,[mkS key,jI op,.sl 1 false xs,jI n]⟩)],false⟩/\(w=true↔op=5∨op=6)) (fun M upm=>?_) ?_
   ·repeat' ((conv=>cbv);rintro (_|_) _)
    all_goals (conv=>cbv)
    all_goals simp only [o_eql hO,true_eq_decide_iff,false_eq_decide_iff] at *
    all_goals exact ⟨_,upm _ ⟨_,rfl,by simp [*]⟩,⟨⟨rfl,rfl,rfl,trivial⟩,⟨rfl,trivial⟩,rfl⟩⟩
   rintro d ⟨w,rfl,hw⟩
   conv=>cbv
   refine y2dY (fun d=>d=⟨[(1,.ptr 1 1 0)],[(1,⟨1,.rw,.var,[mkS key,jI op,.sl 1 false xs,jI n]⟩)],false⟩/\¬(op<1∨6<op∨((op=1∨op=2)/\l.length=0)∨(¬(op=1∨op=2)/\0<l.length)∨(¬(op=5∨op=6)/\n≠0)∨n < -2147483648∨2147483648<n)) (fun M upm=>?_) ?_
   ·cases v<;>cases w<;>simp only [Bool.false_eq_true,false_iff,true_iff] at hv hw
    all_goals repeat' ((conv=>cbv);rintro (_|_) _)
    all_goals (conv=>cbv)
    all_goals simp only [o_lss hO,o_gtr hO,o_neq hO,o_beq hO,hlen,true_eq_decide_iff,false_eq_decide_iff] at *
    all_goals first
     | (exfalso;omega)
     | (exact ⟨_,upm _ ⟨rfl,by omega⟩,⟨⟨rfl,trivial⟩,⟨rfl,trivial⟩,rfl⟩⟩)
     | (rw [hr,if_pos (by omega)];done)
     | (exfalso;simp at *;done)
   ·rintro d ⟨rfl,hok⟩
    rw [if_neg hok] at hr
    conv=>cbv
    rintro (_|_) h1
    ·replace h1:=f_gtr hO h1
     rw [hlen] at h1
     rw [if_neg (by omega)] at hr
     conv=>cbv
     refine y4Y (fun c d=>∃ (i:Int) (k:Nat),d=⟨[(1,.ptr 1 1 0),(6,jI i)],[(1,⟨1,.rw,.var,[mkS key,jI op,.sl 1 false xs,jI n]⟩)],false⟩/\i=k/\k<=l.length/\c=l.length-k/\∀ j x,j<k->l[j]?=some x->yiY x=true) ⟨_,_,⟨_,0,rfl,rfl,by omega,rfl,by simp⟩,⟨⟨rfl,rfl,trivial⟩,⟨rfl,trivial⟩,rfl⟩⟩ ?_
     rintro J up c d ⟨i,k,rfl,hi,hk,rfl,hno⟩
     conv=>cbv
     rintro (_|_) h2
     ·replace h2:=f_lss hO h2
      rw [hlen] at h2
      have hval:¬∃ v∈l,yiY v=false:=fun ⟨v,hv,hf⟩=>by
       obtain ⟨j,hj⟩:=List.getElem?_of_mem hv
       rw [hno j v (by have:=(List.getElem?_eq_some_iff.1 hj).1;omega) hj] at hf
       simp at hf
      rw [if_neg hval] at hr
      conv=>cbv
      refine y4Y (fun c d=>∃ (i:Int) (k:Nat),d=⟨[(1,.ptr 1 1 0),(8,jI i)],[(1,⟨1,.rw,.var,[mkS key,jI op,.sl 1 false xs,jI n]⟩)],false⟩/\i=k/\k<=l.length/\c=l.length-k/\∀ j x,j<k->l[j]?=some x->x∉l.take j) ⟨_,_,⟨_,0,rfl,rfl,by omega,rfl,by simp⟩,⟨⟨rfl,rfl,trivial⟩,⟨rfl,trivial⟩,rfl⟩⟩ ?_
      rintro J2 up2 c2 d ⟨i,k,rfl,hi,hk,rfl,hno2⟩
      conv=>cbv
      rintro (_|_) h3
      ·replace h3:=f_lss hO h3
       rw [hlen] at h3
       conv=>cbv
       rw [hr,if_neg (by simpa using yenY fun j x hx=>hno2 j x (by have:=(List.getElem?_eq_some_iff.1 hx).1;omega) hx)]
      ·replace h3:=t_lss hO h3
       rw [hlen] at h3
       conv=>cbv
       obtain ⟨y,hy⟩:∃ y,l[k]?=some y:=⟨_,List.getElem?_eq_getElem (by omega)⟩
       have hin:=h45 (l.take k) y (by simp;omega)
       have htk:O .subL xs 0 i=(l.take k).map mkS:=by rw [y20Y hO,hxs,hi,←List.map_take];simp
       have hct:CleanL (O .subL xs 0 i):=y8Y yhY htk
       rw [←htk] at hin
       obtain ⟨p,hp⟩:∃ p,p=decide (y∈l.take k):=⟨_,rfl⟩
       rw [←hp] at hin
       refine ⟨⟨by omega⟩,⟨by omega⟩,⟨by omega⟩,?_⟩
       conv=>cbv
       refine ⟨mkS y,y7Y hy hxs hi,?_⟩
       conv=>cbv
       refine ⟨hct,_,hin,?_⟩
       cases p with
       | true =>
         have hm:y∈l.take k:=by simpa using hp.symm
         conv=>cbv
         rw [hr,if_pos (ykyY hy hm)]
       | false =>
         have hm:y∉l.take k:=by simpa using hp.symm
         conv=>cbv
         refine ⟨_,_,up2 _ _ ⟨_,k+1,rfl,?_,by omega,rfl,?_⟩,⟨⟨rfl,rfl,trivial⟩,⟨rfl,trivial⟩,rfl⟩,by omega⟩
         ·rw [y0Y hO (by omega) (by omega)];omega
         ·intro j x hj hx
          by_cases e:j=k
          ·subst e;rw [hy] at hx;simp only [Option.some.injEq] at hx;subst hx;exact hm
          ·exact hno2 j x (by omega) hx
     ·replace h2:=t_lss hO h2
      rw [hlen] at h2
      conv=>cbv
      obtain ⟨y,hy⟩:∃ y,l[k]?=some y:=⟨_,List.getElem?_eq_getElem (by omega)⟩
      have hv:=h17 y (hall y (List.mem_of_getElem? hy))
      obtain ⟨p,hp⟩:∃ p,p=yiY y:=⟨_,rfl⟩
      rw [←hp] at hv
      refine ⟨mkS y,y7Y hy hxs hi,?_⟩
      conv=>cbv
      refine ⟨_,hv,?_⟩
      cases p with
      | false =>
        conv=>cbv
        rw [hr,if_pos ⟨y,List.mem_of_getElem? hy,hp.symm⟩]
      | true =>
        conv=>cbv
        refine ⟨_,_,up _ _ ⟨_,k+1,rfl,?_,by omega,rfl,?_⟩,⟨⟨rfl,rfl,trivial⟩,⟨rfl,trivial⟩,rfl⟩,by omega⟩
        ·rw [y0Y hO (by omega) (by omega)];omega
        ·intro j x hj hx
         by_cases e:j=k
         ·subst e;rw [hy] at hx;simp only [Option.some.injEq] at hx;subst hx;exact hp.symm
         ·exact hno j x (by omega) hx
    ·replace h1:=t_gtr hO h1
     rw [hlen] at h1
     rw [if_pos (by omega)] at hr
     conv=>cbv
     rw [hr]
end Go.Proofs.AM
