/- Part 36 of the lemmas: AJg, AJh. -/
import Derived.Test.YtnbdmjbpgaeacaaGreatDoorB34
import Derived.Test.YtnbdmjbpgaeacaaGreatDoorB30
import Derived.Test.YtnbdmjbpgaeacaaGreatDoorB06
set_option maxRecDepth 100000
set_option maxHeartbeats 8000000
set_option linter.all false
namespace Go.Proofs.AM
open Go Go.Lib Cd
theorem yp7Y (R:Ans) (s:SnapV) (nodes:List Str) (hn:nodes.length<=8796093022208) (h21:R.v 21 [] (.bool true)) (h24:∀ l:List Str,l.length<=nodes.length->R.v 24 [snapD s,.sl 1 false (l.map mkS)] (.tup [.bool (mayE s l).1,jI (mayE s l).2])):AnsF R c4 [snapD s,.sl 1 false (nodes.map mkS)] (.bool true):=by
 have k0:=h24 [] (by simp)
 have k1:=h24 nodes (Nat.le_refl _)
 rw [yenY] at k0
 simp only [List.map_nil] at k0
 have hll:∀ k,(less k nodes).length<=nodes.length:=fun k=>by unfold less;simp;omega
 have k2:=fun k=>h24 (less k nodes) (hll k)
 have hlaw:=fun (h:(mayE s nodes).2=0) k=>ymbY h k
 obtain ⟨e,he⟩:∃ e,e=snapE s:=⟨_,rfl⟩
 rw [←he] at k0
 obtain ⟨⟨m,f⟩,hmf⟩:∃ r,r=mayE s nodes:=⟨_,rfl⟩
 rw [←hmf] at k1 hlaw
 obtain ⟨Y,hY⟩:∃ Y,Y=fun k=>mayE s (less k nodes):=⟨_,rfl⟩
 have k2:∀ k,R.v 24 [snapD s,.sl 1 false ((less k nodes).map mkS)] (.tup [.bool (Y k).1,jI (Y k).2]):=fun k=>by rw [hY];exact k2 k
 have hlaw:f=0->∀ k,(Y k).2=0/\(m=true->(Y k).1=true):=fun h k=>by rw [hY];exact hlaw h k
 simp only at k1
 obtain ⟨ms,hms⟩:∃ xs,xs=nodes.map mkS:=⟨_,rfl⟩
 have cms:CleanL ms:=by rw [hms];exact y1rY _
 rw [←hms] at k1 ⊢
 clear h24 he hmf hY hll
 obtain ⟨ty,po,pl,cl,cm,co,is,no,hce,hsn,cty,cpo,cpl,ccl,ccm,cco,cis,cno⟩:=y12Y s
 rw [hsn] at k0 k1 k2 ⊢
 clear hce hsn
 refine y2Y ⟨rfl,by decide⟩ fun O hO V hV=>?_
 subst hV
 have hlen:O .len ms=nodes.length:=by rw [o_len hO,hms];simp
 conv=>cbv
 repeat' (first|(refine And.intro (by first|assumption|exact ⟨by omega⟩|exact ⟨by rw [hlen];omega⟩|exact ⟨rfl⟩|exact ⟨rfl,rfl⟩) ?_)|(intro (g:Nat);(conv=>cbv)))
 refine ⟨_,h21,?_⟩
 conv=>cbv
 repeat' (first|(refine And.intro (by first|assumption|exact ⟨by omega⟩|exact ⟨by rw [hlen];omega⟩|exact ⟨rfl⟩|exact ⟨rfl,rfl⟩) ?_)|(intro (g:Nat);(conv=>cbv)))
 refine ⟨_,k0,?_⟩
 by_cases h0:e=0
 case neg =>
  rw [decide_eq_false h0]
  conv=>cbv
  rintro (_|_) h<;>replace h:=ci hO h<;>dsimp only [CmpI] at h<;>(conv=>cbv)
  all_goals (first|exact absurd h h0|trivial|rfl)
 subst h0
 rw [decide_eq_true rfl]
 conv=>cbv
 rintro (_|_) h<;>replace h:=ci hO h<;>dsimp only [CmpI] at h<;>(conv=>cbv)
 case true=>exact absurd rfl h
 repeat' (first|(refine And.intro (by first|assumption|exact ⟨by omega⟩|exact ⟨by rw [hlen];omega⟩|exact ⟨rfl⟩|exact ⟨rfl,rfl⟩) ?_)|(intro (g:Nat);(conv=>cbv)))
 refine ⟨_,k1,?_⟩
 conv=>cbv
 repeat' (first|(refine And.intro (by first|assumption|exact ⟨by omega⟩|exact ⟨by rw [hlen];omega⟩|exact ⟨rfl⟩|exact ⟨rfl,rfl⟩) ?_)|(intro (g:Nat);(conv=>cbv)))
 refine y4Y (fun n d=>∃ (i:Int) (k:Nat),d=⟨[(1,.sl 1 false ms),(2,.ptr 2 1 0),(5,.bool true),(6,.bool true),(8,.bool m),(9,jI f),(33,jI (O .len ms)),(34,jI i)],[(2,⟨1,.rw,.var,(sB s ty po pl cl cm co is no)⟩)],false⟩/\i=k/\k<=nodes.length/\n=nodes.length-k) ⟨_,_,⟨_,0,rfl,rfl,by omega,rfl⟩,⟨⟨rfl,rfl,rfl,rfl,rfl,rfl,rfl,rfl,trivial⟩,⟨rfl,trivial⟩,rfl⟩⟩ ?_
 rintro J up n d ⟨i,k,rfl,hi,hk,rfl⟩
 conv=>cbv
 rintro (_|_) h1<;>(conv=>cbv)
 case false=>first|trivial|rfl
 replace h1:=t_lss hO h1
 rw [hlen] at h1
 have hk2:=k2 k
 have hlk:=fun h=>hlaw h k
 obtain ⟨⟨a,g⟩,hag⟩:∃ r,r=Y k:=⟨_,rfl⟩
 rw [←hag] at hk2 hlk
 simp only at hk2 hlk
 have hi1:O .iop .add .i64 i 1=i+1:=y0Y hO (by omega) (by omega)
 have e1:O .subL ms 0 i=(nodes.take k).map mkS:=by rw [y1vY hO,hms,hi,←List.map_take];simp
 have e2:O .subL ms (O .iop .add .i64 i 1) (O .len ms)=(nodes.drop (k+1)).map mkS:=by
  rw [y1vY hO,hi1,hlen,hms,List.take_of_length_le (by simp),←List.map_drop]
  congr 2
  omega
 obtain ⟨ys,hys⟩:∃ ys,ys=O .subL ms 0 i:=⟨_,rfl⟩
 obtain ⟨zs,hzs⟩:∃ zs,zs=O .subL ms (O .iop .add .i64 i 1) (O .len ms):=⟨_,rfl⟩
 have cys:CleanL ys:=by rw [hys,e1];exact y1rY _
 have czs:CleanL zs:=by rw [hzs,e2];exact y1rY _
 have lys:O .len ys=k:=by rw [o_len hO,hys,e1];simp;omega
 have lzs:O .len zs=nodes.length-(k+1):=by rw [o_len hO,hzs,e2];simp;omega
 obtain ⟨us,hus⟩:∃ us,us=O .app ys zs:=⟨_,rfl⟩
 have hue:us=(less k nodes).map mkS:=by rw [hus,o_app hO,hys,hzs,e1,e2,←List.map_append];rfl
 have cus:CleanL us:=by rw [hue];exact y1rY _
 rw [←hue] at hk2
 repeat' (first|(refine And.intro (by first|assumption|exact ⟨by omega⟩|exact ⟨by rw [hlen];omega⟩|exact ⟨rfl⟩|exact ⟨rfl,rfl⟩) ?_)|(intro (g:Nat);(conv=>cbv)))
 repeat (intro _)
 conv=>cbv
 repeat' (first|(refine And.intro (by first|assumption|exact ⟨by omega⟩|exact ⟨by rw [hlen];omega⟩|exact ⟨rfl⟩|exact ⟨rfl,rfl⟩) ?_)|(intro (g:Nat);(conv=>cbv)))
 rw [←hzs,←hys]
 try rw [←hus]
 clear e1 e2 hys hzs hus hue k2 hlaw hag k0 k1
 repeat' (first|(refine And.intro (by first|assumption|exact cys.x|exact czs.x|exact ⟨by rw [hi1];omega⟩|exact ⟨by rw [hi1,hlen];omega⟩|exact ⟨by omega⟩|exact ⟨by rw [hlen];omega⟩|exact ⟨by show O .len ys*((16:Nat):Int)<=_;omega⟩|exact ⟨by show (O .len ys+O .len zs)*((16:Nat):Int)<=_;omega⟩) ?_)|(intro (g:Nat);(conv=>cbv))|fail)
 refine ⟨_,hk2,?_⟩
 conv=>cbv
 rintro (_|_) h2<;>replace h2:=ci hO h2<;>dsimp only [CmpI] at h2<;>(conv=>cbv)
 case false=>exact ⟨_,_,up _ _ ⟨_,k+1,rfl,by rw [y0Y hO (by omega) (by omega)];omega,by omega,rfl⟩,⟨⟨rfl,rfl,rfl,rfl,rfl,rfl,rfl,rfl,trivial⟩,⟨rfl,trivial⟩,rfl⟩,by omega⟩
 obtain ⟨g0,ha⟩:=hlk h2
 subst g0
 rintro (_|_) h3<;>replace h3:=ci hO h3<;>dsimp only [CmpI] at h3<;>(conv=>cbv)
 case true=>exact absurd rfl h3
 cases m<;>cases a<;>(conv=>cbv)
 all_goals first
  | exact ⟨_,_,up _ _ ⟨_,k+1,rfl,by rw [y0Y hO (by omega) (by omega)];omega,by omega,rfl⟩,⟨⟨rfl,rfl,rfl,rfl,rfl,rfl,rfl,rfl,trivial⟩,⟨rfl,trivial⟩,rfl⟩,by omega⟩
  | exact absurd (ha rfl) (by decide)
def mkL (nodes:List Str) (l:List ClaimV) (k:Nat):List ClaimV:=(l.take k).map (markC nodes)++l.drop k
theorem yp8Y {nodes:List Str} {l:List ClaimV} {k:Nat} {y:ClaimV} (hy:l[k]?=some y):(mkL nodes l k).set k (markC nodes y)=mkL nodes l (k+1):=by
 obtain ⟨hk,he⟩:=List.getElem?_eq_some_iff.1 hy
 have hl:((l.take k).map (markC nodes)).length=k:=by simp;omega
 have hd:l.drop k=y::l.drop (k+1):=by rw [←he];exact List.drop_eq_getElem_cons hk
 unfold mkL
 rw [hd,List.take_add_one,hy,List.set_append_right _ _ (by omega),hl]
 simp
theorem y9bY {nodes:List Str} {l:List ClaimV} {k:Nat} {y:ClaimV} (hy:l[k]?=some y):(mkL nodes l k)[k]?=some y:=by
 obtain ⟨hk,he⟩:=List.getElem?_eq_some_iff.1 hy
 have hl:((l.take k).map (markC nodes)).length=k:=by simp;omega
 have hd:l.drop k=y::l.drop (k+1):=by rw [←he];exact List.drop_eq_getElem_cons hk
 unfold mkL
 rw [hd,List.getElem?_append_right (by omega),hl]
 simp
theorem yp9Y {nodes:List Str} {l:List ClaimV} {k:Nat} {y:ClaimV} (hy:l[k]?=some y):(mkL nodes l k).set k y=mkL nodes l k:=by
 apply List.ext_getElem?
 intro j
 rw [List.getElem?_set]
 split
 ·rename_i e
  subst e
  rw [y9bY hy]
  split
  ·rfl
  ·rename_i h
   exact absurd (List.getElem?_eq_some_iff.1 (y9bY (nodes:=nodes) hy)).1 h
 ·rfl
theorem ypaY (nodes:List Str) (l:List ClaimV) (k:Nat):(mkL nodes l k).length=l.length:=by
 unfold mkL
 simp
 omega
theorem ypbY (R:Ans) (s:SnapV) (hF:FSnap s) (nodes:List Str) (h21:R.v 21 [] (.bool true)) (h24:R.v 24 [snapD s,.sl 1 false (nodes.map mkS)] (.tup [.bool (mayE s nodes).1,jI (mayE s nodes).2])) (h26:∀ x,R.v 26 [.sl 1 false (nodes.map mkS),mkS x] (.bool (decide (x∈nodes)))) (h22:∀ n,R.v 22 [snapD (markS nodes s),mkS n] (.tup [jI (yiY (markS nodes s) n).1,jI (yiY (markS nodes s) n).2])):AnsF R c5 [snapD s,.sl 1 false (nodes.map mkS)] (.bool true):=by
 have hsz:(mayE s nodes).2=0->s.claims.length<=16:=fun h=>by
  have:=(y6wY (yolY h).1).sizes
  unfold y2rY at this
  simp only [Bool.and_eq_true,decide_eq_true_eq] at this
  omega
 have hlaw:mayE s nodes=(true,0)->∀ c∈s.claims.map (markC nodes),c.name∈nodes->∀ p∈s.pools,p.name=c.pool->(yiY (markS nodes s) c.pool).2=0/\(yiY (markS nodes s) c.pool).1<=p.budget:=fun h c hc hn p hp e=>ym9Y h hc hn hp e
 obtain ⟨⟨m,e⟩,hme⟩:∃ r,r=mayE s nodes:=⟨_,rfl⟩
 rw [←hme] at h24 hsz hlaw
 simp only at h24 hsz
 obtain ⟨E,hE⟩:∃ E,E=yiY (markS nodes s):=⟨_,rfl⟩
 rw [←hE] at h22 hlaw
 obtain ⟨ms,hms⟩:∃ xs,xs=nodes.map mkS:=⟨_,rfl⟩
 have cms:CleanL ms:=by rw [hms];exact y1rY _
 rw [←hms] at h24 h26 ⊢
 have hlp:=hF.pools.lt
 clear hme hE hms hF
 obtain ⟨ty,po,pl,cl,cm,co,is,no,hce,hsn,cty,cpo,cpl,ccl,ccm,cco,cis,cno⟩:=y12Y s
 obtain ⟨mc,hmc⟩:∃ mc,mc=(s.claims.map (markC nodes)).map yaY:=⟨_,rfl⟩
 have cmc:CleanL mc:=by rw [hmc];exact y6sY _
 have hmk:snapD (markS nodes s)=.agg [jI s.now,jI s.idle,jI s.most,jI s.hold,jI s.late,jI s.cool,.sl 7 false ty,.sl 12 false po,.sl 10 false pl,.sl 15 false mc,.sl 8 false cm,.sl 4 false co,.sl 7 false is,.sl 1 false no]:=by
  rw [hce.ty,hce.po,hce.pl,hce.cm,hce.co,hce.is,hce.no,hmc]
  rfl
 rw [hmk] at h22
 rw [hsn] at h24 ⊢
 have hxs:=hce.pl
 have hxc:=hce.cl
 obtain ⟨l,hl0⟩:∃ l,l=s.pools:=⟨_,rfl⟩
 obtain ⟨q,hq0⟩:∃ q,q=s.claims:=⟨_,rfl⟩
 rw [←hl0] at hlp hxs hlaw
 rw [←hq0] at hxc hsz hlaw hmc
 clear hce hsn hmk hl0 hq0
 refine y2Y ⟨rfl,by decide⟩ fun O hO V hV=>?_
 subst hV
 have hlen:O .len pl=l.length:=by rw [o_len hO,hxs];simp
 have hlq:O .len cl=q.length:=by rw [o_len hO,hxc];simp
 have hlm:O .len mc=q.length:=by rw [o_len hO,hmc];simp
 conv=>cbv
 repeat' (first|(refine And.intro (by first|assumption|exact ⟨by omega⟩|exact ⟨by rw [hlen];omega⟩|exact ⟨rfl⟩|exact ⟨rfl,rfl⟩) ?_)|(intro (g:Nat);(conv=>cbv)))
 refine ⟨_,h21,?_⟩
 conv=>cbv
 repeat' (first|(refine And.intro (by first|assumption|exact ⟨by omega⟩|exact ⟨by rw [hlen];omega⟩|exact ⟨rfl⟩|exact ⟨rfl,rfl⟩) ?_)|(intro (g:Nat);(conv=>cbv)))
 refine ⟨_,h24,?_⟩
 cases m<;>(conv=>cbv)
 case false=>first|trivial|rfl
 rintro (_|_) h<;>replace h:=ci hO h<;>dsimp only [CmpI] at h<;>(conv=>cbv)
 case true=>first|trivial|rfl
 subst h
 have hq16:=hsz rfl
 replace hlaw:=hlaw rfl
 clear hsz h24 h21
 repeat' (first|(refine And.intro (by first|assumption|exact ⟨by omega⟩|exact ⟨by rw [hlen];omega⟩|exact ⟨rfl⟩|exact ⟨rfl,rfl⟩) ?_)|(intro (g:Nat);(conv=>cbv)))
 refine ⟨ccl.x,⟨by show O .len cl*((184:Nat):Int)<=_;rw [hlq];omega⟩,?_⟩
 conv=>cbv
 repeat' (first|(refine And.intro (by first|assumption|exact ⟨by omega⟩|exact ⟨by rw [hlen];omega⟩|exact ⟨rfl⟩|exact ⟨rfl,rfl⟩) ?_)|(intro (g:Nat);(conv=>cbv)))
 refine y4Y (fun n d=>∃ (i:Int) (k:Nat) (ac:List D),d=⟨[(1,.sl 1 false ms),(5,.bool true),(8,.ptr 8 1 0),(37,jI (O .len cl)),(38,jI i)],[(8,⟨1,.rw,.var,[jI s.now,jI s.idle,jI s.most,jI s.hold,jI s.late,jI s.cool,.sl 7 false ty,.sl 12 false po,.sl 10 false pl,.own 33 1,.sl 8 false cm,.sl 4 false co,.sl 7 false is,.sl 1 false no]⟩),(33,⟨1,.rw,.arr 15 49,ac⟩)],false⟩/\i=k/\k<=q.length/\n=q.length-k/\ac=(mkL nodes q k).map yaY) ⟨_,_,⟨_,0,cl,rfl,rfl,by omega,rfl,by rw [hxc];unfold mkL;simp⟩,⟨⟨rfl,rfl,rfl,rfl,rfl,trivial⟩,⟨rfl,rfl,trivial⟩,rfl⟩⟩ ?_
 rintro J up n d ⟨i,k,ac,rfl,hi,hk,rfl,hac⟩
 have hla:O .len ac=q.length:=by rw [o_len hO,hac];simp [ypaY]
 conv=>cbv
 rintro (_|_) h1<;>(conv=>cbv)
 case true =>
  replace h1:=t_lss hO h1
  rw [hlq] at h1
  obtain ⟨y,hy⟩:∃ y,q[k]?=some y:=⟨_,List.getElem?_eq_getElem (by omega)⟩
  have hgt:ac[O .nat i]?=some (yaY y):=by rw [o_nat hO,hi,hac];simp [y9bY hy]
  have hk26:=h26 y.name
  obtain ⟨b,hb⟩:∃ b,b=decide (y.name∈nodes):=⟨_,rfl⟩
  rw [←hb] at hk26
  have hset:=yp8Y (nodes:=nodes) hy
  have hno:b=false->ac=(mkL nodes q (k+1)).map yaY:=fun h=>by
   have hm:markC nodes y=y:=by unfold markC;rw [if_neg (of_decide_eq_false (hb.symm.trans h))]
   rw [hm,yp9Y hy] at hset
   rw [hac,hset]
  have hyes:b=true->ac.set k (yaY { y with marked:=true })=(mkL nodes q (k+1)).map yaY:=fun h=>by
   have hm:markC nodes y={ y with marked:=true }:=by unfold markC;rw [if_pos (of_decide_eq_true (hb.symm.trans h))]
   rw [hm] at hset
   rw [hac,←hset,List.map_set]
  clear hb hset hac hy h22 hlaw h26
  obtain ⟨ynm,ypo,yge,⟨yot,yoz,yok⟩,ypr,yc0,yc1,yos,ytr,yid,yph,ybo,yma⟩:=y
  simp only [yaY,y1cY] at hgt hk26 hyes
  obtain ⟨xyos,hxyos⟩:∃ xs,xs=yos.map offD:=⟨_,rfl⟩
  have cxyos:CleanL xyos:=by rw [hxyos];exact y19Y _
  simp only [←hxyos] at hgt hk26 hyes
  refine ⟨⟨by omega⟩,⟨by show i<O .len ac;rw [hla];omega⟩,_,hgt,?_⟩
  conv=>cbv
  repeat' (first|(refine And.intro (by first|assumption|exact ⟨by omega⟩|exact ⟨by rw [hlen];omega⟩|exact ⟨rfl⟩|exact ⟨rfl,rfl⟩) ?_)|(intro (g:Nat);(conv=>cbv)))
  refine ⟨_,hk26,?_⟩
  cases b<;>(conv=>cbv)
  case false=>exact ⟨_,_,up _ _ ⟨_,k+1,ac,rfl,by rw [y0Y hO (by omega) (by omega)];omega,by omega,rfl,hno rfl⟩,⟨⟨rfl,rfl,rfl,rfl,rfl,trivial⟩,⟨rfl,rfl,trivial⟩,rfl⟩,by omega⟩
  refine ⟨⟨by omega⟩,⟨by show i<O .len ac;rw [hla];omega⟩,_,hgt,?_⟩
  conv=>cbv
  exact ⟨_,_,up _ _ ⟨_,k+1,_,rfl,by rw [y0Y hO (by omega) (by omega)];omega,by omega,rfl,by rw [o_set hO,o_nat hO,hi];exact hyes rfl⟩,⟨⟨rfl,rfl,rfl,rfl,rfl,trivial⟩,⟨rfl,rfl,trivial⟩,rfl⟩,by omega⟩
 replace h1:=f_lss hO h1
 rw [hlq] at h1
 obtain rfl:k=q.length:=by omega
 have hacm:ac=mc:=by rw [hac,hmc];unfold mkL;simp
 subst hacm
 clear up hac hla hi hk h1
 repeat' (first|(refine And.intro (by first|assumption|exact ⟨by omega⟩|exact ⟨by rw [hlen];omega⟩|exact ⟨rfl⟩|exact ⟨rfl,rfl⟩) ?_)|(intro (g:Nat);(conv=>cbv)))
 refine y4Y (fun n d=>∃ (i:Int) (k:Nat),d=⟨[(1,.sl 1 false ms),(5,.bool true),(8,.ptr 8 1 0),(56,.own 33 1),(57,jI (O .len ac)),(58,jI i)],[(8,⟨1,.rw,.var,[jI s.now,jI s.idle,jI s.most,jI s.hold,jI s.late,jI s.cool,.sl 7 false ty,.sl 12 false po,.sl 10 false pl,.own 33 1,.sl 8 false cm,.sl 4 false co,.sl 7 false is,.sl 1 false no]⟩),(33,⟨1,.rw,.arr 15 49,ac⟩)],false⟩/\i=k/\k<=q.length/\n=q.length-k) ⟨_,_,⟨_,0,rfl,rfl,by omega,rfl⟩,⟨⟨rfl,rfl,rfl,rfl,rfl,rfl,trivial⟩,⟨rfl,rfl,trivial⟩,rfl⟩⟩ ?_
 rintro J up n d ⟨i,k,rfl,hi,hk,rfl⟩
 conv=>cbv
 rintro (_|_) h1<;>(conv=>cbv)
 case false=>first|trivial|rfl
 replace h1:=t_lss hO h1
 rw [hlm] at h1
 obtain ⟨z,hz⟩:∃ z,(q.map (markC nodes))[k]?=some z:=⟨_,List.getElem?_eq_getElem (by simp;omega)⟩
 have hgt:ac[O .nat i]?=some (yaY z):=by rw [o_nat hO,hi,hmc,List.getElem?_map,show ((k:Nat):Int).toNat=k from rfl,hz];rfl
 have hk26:=h26 z.name
 have hk22:=h22 z.pool
 have hlz:=fun h=>hlaw z (List.mem_of_getElem? hz) h
 obtain ⟨⟨v,f⟩,hvf⟩:∃ r,r=E z.pool:=⟨_,rfl⟩
 rw [←hvf] at hk22 hlz
 obtain ⟨b,hb⟩:∃ b,b=decide (z.name∈nodes):=⟨_,rfl⟩
 rw [←hb] at hk26
 have hlz:b=true->∀ p∈l,p.name=z.pool->f=0/\v<=p.budget:=fun h=>hlz (of_decide_eq_true (hb.symm.trans h))
 simp only at hk22
 clear hb hvf hz h22 h26 hlaw
 obtain ⟨znm,zpo,zge,⟨zot,zoz,zok⟩,zpr,zc0,zc1,zos,ztr,zid,zph,zbo,zma⟩:=z
 simp only [yaY,y1cY] at hgt hk26 hk22 hlz
 obtain ⟨xzos,hxzos⟩:∃ xs,xs=zos.map offD:=⟨_,rfl⟩
 have cxzos:CleanL xzos:=by rw [hxzos];exact y19Y _
 simp only [←hxzos] at hgt hk26 hk22 hlz
 refine ⟨⟨by omega⟩,⟨by show i<O .len ac;rw [hlm];omega⟩,_,hgt,?_⟩
 conv=>cbv
 intro g11
 conv=>cbv
 repeat' (first|(refine And.intro (by first|assumption|exact ⟨by omega⟩|exact ⟨by rw [hlen];omega⟩|exact ⟨rfl⟩|exact ⟨rfl,rfl⟩) ?_)|(intro (g:Nat);(conv=>cbv)))
 refine ⟨_,hk26,?_⟩
 cases b<;>(conv=>cbv)
 case false=>exact ⟨_,_,up _ _ ⟨_,k+1,rfl,by rw [y0Y hO (by omega) (by omega)];omega,by omega,rfl⟩,⟨⟨rfl,rfl,rfl,rfl,rfl,rfl,trivial⟩,⟨rfl,rfl,trivial⟩,rfl⟩,by omega⟩
 replace hlz:=hlz rfl
 repeat' (first|(refine And.intro (by first|assumption|exact ⟨by omega⟩|exact ⟨by rw [hlen];omega⟩|exact ⟨rfl⟩|exact ⟨rfl,rfl⟩) ?_)|(intro (g:Nat);(conv=>cbv)))
 refine ⟨_,hk22,?_⟩
 conv=>cbv
 repeat' (first|(refine And.intro (by first|assumption|exact ⟨by omega⟩|exact ⟨by rw [hlen];omega⟩|exact ⟨rfl⟩|exact ⟨rfl,rfl⟩) ?_)|(intro (g:Nat);(conv=>cbv)))
 refine y4Y (fun n d=>∃ (i2:Int) (k2:Nat),d=⟨[(1,.sl 1 false ms),(5,.bool true),(8,.ptr 8 1 0),(11,.ptr 11 g11 0),(12,jI v),(13,jI f),(56,.own 33 1),(57,jI (O .len ac)),(58,jI i),(75,.sl 10 false pl),(76,jI (O .len pl)),(77,jI i2)],[(8,⟨1,.rw,.var,[jI s.now,jI s.idle,jI s.most,jI s.hold,jI s.late,jI s.cool,.sl 7 false ty,.sl 12 false po,.sl 10 false pl,.own 33 1,.sl 8 false cm,.sl 4 false co,.sl 7 false is,.sl 1 false no]⟩),(33,⟨1,.rw,.arr 15 49,ac⟩),(11,⟨g11,.rw,.var,[mkS znm,mkS zpo,jI zge,mkS zot,mkS zoz,mkS zok,jI zpr,jI zc0,jI zc1,.sl 3 false xzos,jI ztr,mkS zid,jI zph,jI zbo,.bool zma]⟩)],false⟩/\i2=k2/\k2<=l.length/\n=l.length-k2) ⟨_,_,⟨_,0,rfl,rfl,by omega,rfl⟩,⟨⟨rfl,rfl,rfl,rfl,rfl,rfl,rfl,rfl,rfl,rfl,rfl,rfl,trivial⟩,⟨rfl,rfl,rfl,trivial⟩,rfl⟩⟩ ?_
 rintro J2 up2 n2 d2 ⟨i2,k2,rfl,hi2,hk2,rfl⟩
 conv=>cbv
 rintro (_|_) h3<;>(conv=>cbv)
 case false=>exact ⟨_,_,up _ _ ⟨_,k+1,rfl,by rw [y0Y hO (by omega) (by omega)];omega,by omega,rfl⟩,⟨⟨rfl,rfl,rfl,rfl,rfl,rfl,trivial⟩,⟨rfl,rfl,trivial⟩,rfl⟩,by omega⟩
 replace h3:=t_lss hO h3
 rw [hlen] at h3
 obtain ⟨y,hy⟩:∃ y,l[k2]?=some y:=⟨_,List.getElem?_eq_getElem (by omega)⟩
 have hat:atX pl i2 (poolD y):=y6Y hy hxs hi2
 have hly:=hlz y (List.mem_of_getElem? hy)
 clear hy hlz
 obtain ⟨ynm,ywe,yl0,yl1,yrs,yts,yge,yex,ybu,yme⟩:=y
 simp only [poolD,poolC] at hat hly
 obtain ⟨xyrs,hxyrs⟩:∃ xs,xs=yrs.map reqD:=⟨_,rfl⟩
 have cxyrs:CleanL xyrs:=by rw [hxyrs];exact y1iY _
 simp only [←hxyrs] at hat hly
 obtain ⟨xyts,hxyts⟩:∃ xs,xs=yts.map labD:=⟨_,rfl⟩
 have cxyts:CleanL xyts:=by rw [hxyts];exact ynY _
 simp only [←hxyts] at hat hly
 refine ⟨_,hat,?_⟩
 conv=>cbv
 repeat' (first|(refine And.intro (by first|assumption|exact ⟨by omega⟩|exact ⟨by rw [hlen];omega⟩|exact ⟨rfl⟩|exact ⟨rfl,rfl⟩) ?_)|(intro (g:Nat);(conv=>cbv)))
 rintro (_|_) a1<;>replace a1:=cs hO a1<;>dsimp only [CmpS] at a1<;>(conv=>cbv)
 case false=>exact ⟨_,_,up2 _ _ ⟨_,k2+1,rfl,by rw [y0Y hO (by omega) (by omega)];omega,by omega,rfl⟩,⟨⟨rfl,rfl,rfl,rfl,rfl,rfl,rfl,rfl,rfl,rfl,rfl,rfl,trivial⟩,⟨rfl,rfl,rfl,trivial⟩,rfl⟩,by omega⟩
 obtain ⟨g1,g2⟩:=hly a1
 rintro (_|_) a2<;>replace a2:=ci hO a2<;>dsimp only [CmpI] at a2<;>(conv=>cbv)
 case true=>exact absurd g1 a2
 rintro (_|_) a3<;>replace a3:=ci hO a3<;>dsimp only [CmpI] at a3<;>(conv=>cbv)
 case true=>exact absurd g2 (by omega)
 exact ⟨_,_,up2 _ _ ⟨_,k2+1,rfl,by rw [y0Y hO (by omega) (by omega)];omega,by omega,rfl⟩,⟨⟨rfl,rfl,rfl,rfl,rfl,rfl,rfl,rfl,rfl,rfl,rfl,rfl,trivial⟩,⟨rfl,rfl,rfl,trivial⟩,rfl⟩,by omega⟩
end Go.Proofs.AM
