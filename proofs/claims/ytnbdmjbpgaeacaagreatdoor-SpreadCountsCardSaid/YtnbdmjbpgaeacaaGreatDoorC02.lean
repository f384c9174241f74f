/- Part 2 of the lemmas: AMTell, AMStep, AMStep2, AMCall. -/
import Derived.Test.YtnbdmjbpgaeacaaGreatDoorC01
import Derived.Maps.AppendAt
set_option maxRecDepth 100000
set_option maxHeartbeats 8000000
set_option linter.all false
namespace Go.Proofs.AM
open Go Go.RowKit
structure Wider (c c':Cx):Prop where
 w:c'.w=c.w
 A:∀ b,b<c.w.heap.size->c.A b->c'.A b
mutual
theorem RV.closed {c c':Cx} (h:Wider c c'):∀ (d:D) (v:Value),closed d=true->RV c d v->RV c' d v
 | .junk,_,_,hv=>by simp [RV] at hv
 | .undef,_,_,hv=>by simpa [RV] using hv
 | .int _ _,_,_,hv=>by simpa [RV] using hv
 | .bool _,_,_,hv=>by simpa [RV] using hv
 | .str _,_,_,hv=>by simpa [RV] using hv
 | .agg cs,v,hc,hv=>by
   simp only [RV,AM.closed] at hv hc ⊢
   obtain ⟨vs,e,hs,ho⟩:=hv
   exact ⟨vs,e,RVs.closed h cs _ hc hs,ho⟩
 | .tup cs,v,hc,hv=>by
   simp only [RV,AM.closed] at hv hc ⊢
   obtain ⟨vs,e,hs⟩:=hv
   exact ⟨vs,e,RVs.closed h cs _ hc hs⟩
 | .sl sz nl xs,v,hc,hv=>by
   simp only [RV,AM.closed] at hv hc ⊢
   obtain ⟨a,cap,e,h1,h3,h4,h5⟩:=hv
   exact ⟨a,cap,e,h1,h3,h4,RSl.closed h sz a 0 xs hc h5⟩
 | .own k g,v,hc,hv=>by simp [AM.closed] at hc
 | .mapr k g,v,hc,hv=>by simp [AM.closed] at hc
 | .ptr k g off,v,hc,hv=>by simp [AM.closed] at hc
 | .eptr k g i off,v,hc,hv=>by simp [AM.closed] at hc
 | .vptr x off,v,hc,hv=>by
   simp only [RV,AM.closed] at hv hc ⊢
   obtain ⟨ad,ev,e,hA,hb,hx,ho,hcl⟩:=hv
   exact ⟨ad,ev,e,h.A _ hb hA,by rw [h.w];exact hb,RV.closed h x ev hc hx,ho,by rw [h.w];exact hcl⟩
 | .nilp,_,_,hv=>by simpa [RV] using hv
 | .fn f a b,v,hc,hv=>by
   simp only [RV,AM.closed,Bool.and_eq_true] at hv hc ⊢
   obtain ⟨x,y,e,h1,h2⟩:=hv
   exact ⟨x,y,e,RVs.closed h a _ hc.1 h1,RVs.closed h b _ hc.2 h2⟩
 | .nilf,_,_,hv=>by simpa [RV] using hv
 | .iface t d,v,hc,hv=>by
   simp only [RV,AM.closed] at hv hc ⊢
   obtain ⟨x,e,hx⟩:=hv
   exact ⟨x,e,RV.closed h d x hc hx⟩
 | .nili,_,_,hv=>by simpa [RV] using hv
 | .opq,_,_,hv=>by simpa [RV] using hv
 | .mapv es,v,hc,hv=>by
   simp only [RV,AM.closed] at hv hc ⊢
   obtain ⟨b,mes,clk,e,hA,hm,hr⟩:=hv
   exact ⟨b,mes,clk,e,h.A b (Array.getElem?_eq_some_iff.mp hm.1).1 hA,by rw [h.w];exact hm,REs.closed h es _ hc hr⟩
 | .nilm,_,_,hv=>by simpa [RV] using hv
theorem RVs.closed {c c':Cx} (h:Wider c c'):∀ (ds:List D) (vs:List Value),closedL ds=true->RVs c ds vs->RVs c' ds vs
 | [],_,_,hv=>by simpa [RVs] using hv
 | d::ds,_,hc,hv=>by
   simp only [RVs,closedL,Bool.and_eq_true] at hv hc ⊢
   obtain ⟨v,r,e,h1,h2⟩:=hv
   exact ⟨v,r,e,RV.closed h d v hc.1 h1,RVs.closed h ds r hc.2 h2⟩
theorem RSl.closed {c c':Cx} (h:Wider c c') (sz:Nat) (a:Option Addr):∀ (i:Nat) (xs:List D),closedL xs=true->RSl c sz a i xs->RSl c' sz a i xs
 | _,[],_,_=>by simp [RSl]
 | i,x::xs,hc,hv=>by
   simp only [RSl,closedL,Bool.and_eq_true] at hv hc ⊢
   obtain ⟨⟨ad,ev,e,hA,hb,hx,hs,ho,hcl⟩,hr⟩:=hv
   exact ⟨⟨ad,ev,e,h.A _ hb hA,by rw [h.w];exact hb,RV.closed h x ev hc.1 hx,hs,ho,by rw [h.w];exact hcl⟩,RSl.closed h sz a (i+1) xs hc.2 hr⟩
theorem REs.closed {c c':Cx} (h:Wider c c'):∀ (ds:List D) (es:List MapEntry),closedL ds=true->REs c ds es->REs c' ds es
 | [],_,_,hv=>by simpa [REs] using hv
 | d::ds,_,hc,hv=>by
   simp only [REs,closedL,Bool.and_eq_true] at hv hc ⊢
   obtain ⟨e,r,he,h1,h2⟩:=hv
   exact ⟨e,r,he,RV.closed h d _ hc.1 h1,REs.closed h ds r hc.2 h2⟩
end
mutual
theorem RV.strip {c:Cx}:∀ (d:D) (v:Value),RV c d v->RV c (strip d) v
 | .junk,_,hv=>by simp [RV] at hv
 | .undef,_,hv=>by simpa [AM.strip,RV] using hv
 | .int _ _,_,hv=>by simpa [AM.strip,RV] using hv
 | .bool _,_,hv=>by simpa [AM.strip,RV] using hv
 | .str _,_,hv=>by simpa [AM.strip,RV] using hv
 | .agg cs,v,hv=>by
   simp only [RV,AM.strip] at hv ⊢
   obtain ⟨vs,e,hs,ho⟩:=hv
   exact ⟨vs,e,RVs.strip cs _ hs,ho⟩
 | .tup cs,v,hv=>by
   simp only [RV,AM.strip] at hv ⊢
   obtain ⟨vs,e,hs⟩:=hv
   exact ⟨vs,e,RVs.strip cs _ hs⟩
 | .sl sz nl xs,v,hv=>by
   simp only [RV,AM.strip] at hv ⊢
   obtain ⟨a,cap,e,h1,h3,h4,h5⟩:=hv
   have hl:=stripL_length xs
   exact ⟨a,cap,by rw [hl];exact e,by rw [hl];exact h1,by simp,fun h=>by obtain ⟨rfl,h0⟩:=h4 h;exact ⟨rfl,h0⟩,RSl.strip sz a 0 xs h5⟩
 | .own k g,v,hv=>by simpa [AM.strip] using hv
 | .mapr k g,v,hv=>by simpa [AM.strip] using hv
 | .ptr k g off,v,hv=>by simpa [AM.strip] using hv
 | .eptr k g i off,v,hv=>by simpa [AM.strip] using hv
 | .vptr x off,v,hv=>by
   simp only [RV,AM.strip] at hv ⊢
   obtain ⟨ad,ev,e,hA,hb,hx,ho,hcl⟩:=hv
   exact ⟨ad,ev,e,hA,hb,RV.strip x ev hx,ho,hcl⟩
 | .nilp,_,hv=>by simpa [AM.strip,RV] using hv
 | .fn f a b,v,hv=>by
   simp only [RV,AM.strip] at hv ⊢
   obtain ⟨x,y,e,h1,h2⟩:=hv
   exact ⟨x,y,e,RVs.strip a _ h1,RVs.strip b _ h2⟩
 | .nilf,_,hv=>by simpa [AM.strip,RV] using hv
 | .iface t d,v,hv=>by
   simp only [RV,AM.strip] at hv ⊢
   obtain ⟨x,e,hx⟩:=hv
   exact ⟨x,e,RV.strip d x hx⟩
 | .nili,_,hv=>by simpa [AM.strip,RV] using hv
 | .opq,_,hv=>by simpa [AM.strip,RV] using hv
 | .mapv es,v,hv=>by
   simp only [RV,AM.strip] at hv ⊢
   obtain ⟨b,mes,clk,e,hA,hm,hr⟩:=hv
   exact ⟨b,mes,clk,e,hA,hm,REs.strip es _ hr⟩
 | .nilm,_,hv=>by simpa [AM.strip,RV] using hv
theorem RVs.strip {c:Cx}:∀ (ds:List D) (vs:List Value),RVs c ds vs->RVs c (stripL ds) vs
 | [],_,hv=>by simpa [RVs,stripL] using hv
 | d::ds,_,hv=>by
   simp only [RVs,stripL] at hv ⊢
   obtain ⟨v,r,e,h1,h2⟩:=hv
   exact ⟨v,r,e,RV.strip d v h1,RVs.strip ds r h2⟩
theorem RSl.strip {c:Cx} (sz:Nat) (a:Option Addr):∀ (i:Nat) (xs:List D),RSl c sz a i xs->RSl c sz a i (stripL xs)
 | _,[],_=>by simp [RSl,stripL]
 | i,x::xs,hv=>by
   simp only [RSl,stripL] at hv ⊢
   obtain ⟨⟨ad,ev,e,hA,hb,hx,hs,ho,hcl⟩,hr⟩:=hv
   exact ⟨⟨ad,ev,e,hA,hb,RV.strip x ev hx,hs,ho,hcl⟩,RSl.strip sz a (i+1) xs hr⟩
theorem REs.strip {c:Cx}:∀ (ds:List D) (es:List MapEntry),REs c ds es->REs c (stripL ds) es
 | [],_,hv=>by simpa [REs,stripL] using hv
 | d::ds,_,hv=>by
   simp only [REs,stripL] at hv ⊢
   obtain ⟨e,r,he,h1,h2⟩:=hv
   exact ⟨e,r,he,RV.strip d _ h1,REs.strip ds r h2⟩
theorem stripL_length:∀ (ds:List D),(stripL ds).length=ds.length
 | []=>rfl
 | _::ds=>by simp [stripL,stripL_length ds]
end
theorem y40Y {c c':Cx} {f:D->Option D}:∀ {ds ds':List D} {vs:List Value},(∀ d∈ds,∀ d' v,f d=some d'->RV c d v->RV c' d' v)->mapO f ds=some ds'->RVs c ds vs->RVs c' ds' vs
 | [],ds',vs,_,h,hv=>by simp only [mapO,Option.some.injEq] at h;subst h;simpa [RVs] using hv
 | d::ds,ds',vs,hf,h,hv=>by
   simp only [mapO,Option.bind_eq_some_iff,Option.map_eq_some_iff] at h
   obtain ⟨y,hy,r,hr,rfl⟩:=h
   simp only [RVs] at hv ⊢
   obtain ⟨v,r',e,h1,h2⟩:=hv
   exact ⟨v,r',e,hf d (by simp) y v hy h1,y40Y (fun x hx=>hf x (by simp [hx])) hr h2⟩
theorem y30Y {α β:Type} {f:α->Option β}:∀ {l:List α} {l':List β},mapO f l=some l'->l'.length=l.length
 | [],l',h=>by simp only [mapO,Option.some.injEq] at h;subst h;rfl
 | x::xs,l',h=>by
   simp only [mapO,Option.bind_eq_some_iff,Option.map_eq_some_iff] at h
   obtain ⟨y,_,r,hr,rfl⟩:=h
   simp [y30Y hr]
theorem ybgY {c c':Cx} {f:D->Option D} {sz:Nat} {a:Option Addr} (hw:c'.w=c.w) (hA:∀ b,b<c.w.heap.size->c.A b->c'.A b):∀ {ds ds':List D} {i:Nat},(∀ d∈ds,∀ d' v,f d=some d'->RV c d v->RV c' d' v)->mapO f ds=some ds'->RSl c sz a i ds->RSl c' sz a i ds'
 | [],ds',i,_,h,hv=>by simp only [mapO,Option.some.injEq] at h;subst h;simp [RSl]
 | d::ds,ds',i,hf,h,hv=>by
   simp only [mapO,Option.bind_eq_some_iff,Option.map_eq_some_iff] at h
   obtain ⟨y,hy,r,hr,rfl⟩:=h
   simp only [RSl] at hv ⊢
   obtain ⟨⟨ad,ev,e,hA',hb,hx,hs,ho,hcl⟩,hv2⟩:=hv
   exact ⟨⟨ad,ev,e,hA _ hb hA',by rw [hw];exact hb,hf d (by simp) y ev hy hx,hs,ho,by rw [hw];exact hcl⟩,ybgY hw hA (fun x hx=>hf x (by simp [hx])) hr hv2⟩
theorem y8fY {c c':Cx} {f:D->Option D}:∀ {ds ds':List D} {es:List MapEntry},(∀ d∈ds,∀ d' v,f d=some d'->RV c d v->RV c' d' v)->mapO f ds=some ds'->REs c ds es->REs c' ds' es
 | [],ds',vs,_,h,hv=>by simp only [mapO,Option.some.injEq] at h;subst h;simpa [REs] using hv
 | d::ds,ds',vs,hf,h,hv=>by
   simp only [mapO,Option.bind_eq_some_iff,Option.map_eq_some_iff] at h
   obtain ⟨y,hy,r,hr,rfl⟩:=h
   simp only [REs] at hv ⊢
   obtain ⟨e,r',he,h1,h2⟩:=hv
   exact ⟨e,r',he,hf d (by simp) y _ hy h1,y8fY (fun x hx=>hf x (by simp [hx])) hr h2⟩
theorem y8gY {c c':Cx} {f:D->Option D} {sz:Nat} {ad:Addr} (hw:c'.w=c.w) (hA:c'.A ad.block) (hb:ad.block<c.w.heap.size) :
 ∀ {ds ds':List D} {xs:List Value} {i:Nat},(∀ d∈ds,∀ d' v,f d=some d'->RV c d v->RV c' d' v)->mapO f ds=some ds'->REl c sz ds xs->(∀ j u,xs[j]?=some u->c.w.cell? (ad.add (i*sz+j))=some u)->RSl c' sz (some ad) i ds'
 | [],ds',xs,i,_,h,hv,_=>by simp only [mapO,Option.some.injEq] at h;subst h;simp [RSl]
 | d::ds,ds',xs,i,hf,h,hv,hc=>by
   simp only [mapO,Option.bind_eq_some_iff,Option.map_eq_some_iff] at h
   obtain ⟨y,hy,r,hr,rfl⟩:=h
   simp only [REl] at hv
   obtain ⟨ev,rest,rfl,hs,hx,ho,h4⟩:=hv
   simp only [RSl]
   refine ⟨⟨ad,ev,rfl,hA,by rw [hw];exact hb,hf d (by simp) y ev hy hx,hs,ho,fun j hj=>?_⟩,y8gY hw hA hb (fun x hx=>hf x (by simp [hx])) hr h4 fun j u hj=>?_⟩
   ·rw [hw]
    have h5:ev.cells[j]?=some (ev.cells[j]'(by omega)):=by simp
    rw [h5]
    refine hc j _ ?_
    rw [List.getElem?_append_left (by simpa [hs] using hj)]
    simp
   ·have:=hc (sz+j) u (by rw [List.getElem?_append_right (by simp [hs])];simpa [hs] using hj)
    rw [←this]
    congr 2
    rw [Nat.add_mul];omega
theorem y41Y {f:D->Option D}:∀ {ds ds':List D},mapO f ds=some ds'->(∀ d d',f d=some d'->closed d'=true)->closedL ds'=true
 | [],ds',h,_=>by simp only [mapO,Option.some.injEq] at h;subst h;rfl
 | d::ds,ds',h,hf=>by
   simp only [mapO,Option.bind_eq_some_iff,Option.map_eq_some_iff] at h
   obtain ⟨y,hy,r,hr,rfl⟩:=h
   simp [closedL,hf d y hy,y41Y hr hf]
theorem y8hY {bx:Nat->Box}:∀ (n:Nat) (d d':D),tell bx n d=some d'->closed d'=true
 | 0,d,d',h=>by
   unfold tell at h
   split at h
   ·simp only [Option.some.injEq] at h;subst h;assumption
   ·simp at h
 | n+1,d,d',h=>by
   unfold tell at h
   split at h
   ·simp only [Option.some.injEq] at h;subst h;assumption
   ·have ih:=y8hY (bx:=bx) n
    split at h
    all_goals first
     | (simp at h;done)
     | (simp only [Option.map_eq_some_iff] at h
        obtain ⟨cs',hm,rfl⟩:=h
        first
         | (simp only [closed];exact y41Y hm ih)
         | (simp only [closed];exact ih _ _ hm))
     | skip
    ·split at h
     ·split at h
      ·simp only [Option.map_eq_some_iff] at h
       obtain ⟨cs',hm,rfl⟩:=h
       simp only [closed];exact y41Y hm ih
      ·simp at h
     ·simp at h
    ·split at h
     ·simp only [Option.map_eq_some_iff] at h
      obtain ⟨cs',hm,rfl⟩:=h
      simp only [closed];exact y41Y hm ih
     ·simp at h
    ·split at h
     ·simp only [Option.map_eq_some_iff] at h
      obtain ⟨cs',hm,rfl⟩:=h
      simp only [closed];exact y41Y hm ih
     ·simp at h
    ·simp only [Option.bind_eq_some_iff,Option.map_eq_some_iff] at h
     obtain ⟨x,hx,y,hy,rfl⟩:=h
     simp only [closed,Bool.and_eq_true]
     exact ⟨y41Y hx ih,y41Y hy ih⟩
theorem y8iY {c c':Cx} {B0:Nat} (hB:∀ k,BR c B0 k) (hw:c'.w=c.w) (hA:∀ b,b<c.w.heap.size->c.A b->c'.A b):∀ (n:Nat) (d d':D) (v:Value),
 (∀ k∈refs c.bx n d,(c.bx k).st≠.dead->∀ b,yvY (c.lc k)=some b->c'.A b)->tell c.bx n d=some d'->RV c d v->RV c' d' v:=by
 intro n
 induction n with
 | zero =>
   intro d d' v _ h hv
   unfold tell at h
   split at h
   ·rename_i hc;simp only [Option.some.injEq] at h;subst h;exact RV.closed ⟨hw,hA⟩ d v hc hv
   ·simp at h
 | succ n ih =>
   intro d d' v hr h hv
   unfold tell at h
   unfold refs at hr
   split at h
   ·rename_i hc;simp only [Option.some.injEq] at h;subst h;exact RV.closed ⟨hw,hA⟩ d v hc hv
   ·rename_i hc
    rw [if_neg hc] at hr
    have ihl:∀ (l:List D),(∀ k∈l.flatMap (refs c.bx n),(c.bx k).st≠.dead->∀ b,yvY (c.lc k)=some b->c'.A b) ->
     ∀ x∈l,∀ x' v,tell c.bx n x=some x'->RV c x v->RV c' x' v:=fun l hl x hx x' v h1 h2 =>
     ih x x' v (fun k hk=>hl k (List.mem_flatMap.2 ⟨x,hx,hk⟩)) h1 h2
    split at h
    ·-- own
     rename_i k g
     split at h
     ·rename_i hgs
      obtain ⟨hg,hst⟩:=hgs
      split at h
      ·rename_i sz et hk
       simp only [Option.map_eq_some_iff] at h
       obtain ⟨cs',hm,rfl⟩:=h
       have hb:=hB k hst
       rw [hk] at hb
       obtain ⟨xs,h0,hown,hrel⟩:=hb
       simp only [RV] at hv ⊢
       rw [hv.2.2 hg]
       have hlen:=y30Y hm
       have hf:=ihl (c.bx k).cs (fun k' hk'=>hr k' (List.mem_cons_of_mem _ hk'))
       rcases hown.2 with ⟨h1,h2⟩|⟨b,cap,cur,h1,_,hh,hcap,hmax,hcs,htk⟩
       ·have h3:cs'=[]:=List.eq_nil_of_length_eq_zero (by omega)
        subst h3
        exact ⟨none,0,by rw [h1];rfl,by simp,by simp,fun _=>⟨rfl,rfl⟩,by simp [RSl]⟩
       ·have hblk:b<c.w.heap.size:=(Array.getElem?_eq_some_iff.mp hh).1
        refine ⟨some ⟨b,0,none⟩,cap,by rw [h1,hlen],by omega,by simp,by simp,?_⟩
        refine y8gY hw (hr k (List.mem_cons_self ..) hst b (by rw [h1];rfl)) hblk hf hm hrel fun j u hj=>?_
        rw [Nat.zero_mul,Nat.zero_add]
        exact hown.cells (g:=b) (by rw [h1];rfl) j u hj
      ·simp at h
     ·simp at h
    ·-- mapr
     rename_i k g
     split at h
     ·rename_i hgs
      obtain ⟨hg,hst,hk⟩:=hgs
      simp only [Option.map_eq_some_iff] at h
      obtain ⟨cs',hm,rfl⟩:=h
      have hb:=hB k hst
      rw [hk] at hb
      obtain ⟨b,mes,clk,h1,_,hh,hre,hsp,_⟩:=hb
      simp only [RV] at hv ⊢
      rw [hv.2.2 hg]
      have hf:=ihl (c.bx k).cs.tail (fun k' hk'=>hr k' (List.mem_cons_of_mem _ (by
       obtain ⟨x,hx,hx2⟩:=List.mem_flatMap.1 hk'
       exact List.mem_flatMap.2 ⟨x,List.mem_of_mem_tail hx,hx2⟩)))
      exact ⟨b,mes,clk,h1,hr k (List.mem_cons_self ..) hst b (by rw [h1];rfl),⟨by rw [hw];exact hh,hsp⟩,y8fY hf hm hre⟩
     ·simp at h
    ·-- ptr
     rename_i k g off
     split at h
     ·rename_i hgs
      obtain ⟨hg,hst,hk⟩:=hgs
      simp only [Option.map_eq_some_iff] at h
      obtain ⟨cs',hm,rfl⟩:=h
      have hb:=hB k hst
      rw [hk] at hb
      obtain ⟨b,cs,e,h1,_,hh,hrv,hone⟩:=hb
      simp only [RV] at hv
      obtain ⟨b',h1',hv'⟩:=hv.2.2 hg
      rw [h1] at h1'
      obtain rfl:b=b':=by simpa using h1'
      have hf:=ihl (c.bx k).cs (fun k' hk'=>hr k' (List.mem_cons_of_mem _ hk'))
      have hblk:b<c.w.heap.size:=(Array.getElem?_eq_some_iff.mp hh).1
      simp only [RV]
      refine ⟨⟨b,0,none⟩,.agg cs,by rw [hv',y2lY,Nat.zero_add],hr k (List.mem_cons_self ..) hst b (by rw [h1];rfl),by rw [hw];exact hblk,⟨cs,rfl,y40Y hf hm hrv,hone⟩,hone,fun j hj=>?_⟩
      rw [hw,y2lY,Nat.zero_add]
      simp [World.cell?,hh,Value.cells]
     ·simp at h
    ·rename_i cs
     simp only [Option.map_eq_some_iff] at h
     obtain ⟨cs',hm,rfl⟩:=h
     simp only [RV] at hv ⊢
     obtain ⟨vs,e,hs,ho⟩:=hv
     exact ⟨vs,e,y40Y (ihl cs hr) hm hs,ho⟩
    ·rename_i cs
     simp only [Option.map_eq_some_iff] at h
     obtain ⟨cs',hm,rfl⟩:=h
     simp only [RV] at hv ⊢
     obtain ⟨vs,e,hs⟩:=hv
     exact ⟨vs,e,y40Y (ihl cs hr) hm hs⟩
    ·rename_i sz nl xs
     simp only [Option.map_eq_some_iff] at h
     obtain ⟨cs',hm,rfl⟩:=h
     simp only [RV] at hv ⊢
     have hl:=y30Y hm
     obtain ⟨a,cap,e,h1,h3,h4,h5⟩:=hv
     exact ⟨a,cap,by rw [hl];exact e,by rw [hl];exact h1,h3,fun h0=>by
      obtain ⟨h6,h7⟩:=h4 h0
      subst h6
      simp only [mapO,Option.some.injEq] at hm
      exact ⟨hm.symm,h7⟩,ybgY hw hA (ihl xs hr) hm h5⟩
    ·rename_i x off
     simp only [Option.map_eq_some_iff] at h
     obtain ⟨x',hm,rfl⟩:=h
     simp only [RV] at hv ⊢
     obtain ⟨ad,ev,e,hA',hb,hx,ho,hcl⟩:=hv
     exact ⟨ad,ev,e,hA _ hb hA',by rw [hw];exact hb,ih x x' ev hr hm hx,ho,by rw [hw];exact hcl⟩
    ·rename_i f p q
     simp only [Option.bind_eq_some_iff,Option.map_eq_some_iff] at h
     obtain ⟨p',hp,q',hq,rfl⟩:=h
     simp only [RV] at hv ⊢
     obtain ⟨x,y,e,h1,h2⟩:=hv
     exact ⟨x,y,e,y40Y (ihl p (fun k hk=>hr k (List.mem_append_left _ hk))) hp h1,y40Y (ihl q (fun k hk=>hr k (List.mem_append_right _ hk))) hq h2⟩
    ·rename_i t x
     simp only [Option.map_eq_some_iff] at h
     obtain ⟨x',hm,rfl⟩:=h
     simp only [RV] at hv ⊢
     obtain ⟨y,e,hx⟩:=hv
     exact ⟨y,e,ih x x' y hr hm hx⟩
    ·rename_i es
     simp only [Option.map_eq_some_iff] at h
     obtain ⟨cs',hm,rfl⟩:=h
     simp only [RV] at hv ⊢
     obtain ⟨b,mes,clk,e,hA',hmm,hre⟩:=hv
     exact ⟨b,mes,clk,e,hA _ (Array.getElem?_eq_some_iff.mp hmm.1).1 hA',by rw [hw];exact hmm,y8fY (ihl es hr) hm hre⟩
    ·simp at h
def noLoc:Nat->Value:=fun _=>Go.undef
def Spec (P:Program) (G:World->Prop) (f:Nat) (args:List D) (r:D):Prop :=
 ∀ (w:World) (S:Nat->Prop) (vs:Array Value),G w->RVs ⟨w,S,bx0,noLoc⟩ args vs.toList ->
   Calls P f vs w fun e w'=>∃ v,e=.returned v/\Below w.heap.size w w'/\RV ⟨w',fun b=>S b∨w.heap.size<=b,bx0,noLoc⟩ r v
def Aof (B0:Nat) (S:Nat->Prop) (bx:Nat->Box) (lc:Nat->Value):Nat->Prop :=
 fun b=>(b<B0/\S b)∨(B0<=b/\∀ k,(bx k).st=.rw->yvY (lc k)≠some b)
def cxOf (B0:Nat) (S:Nat->Prop) (bx:Nat->Box) (lc:Nat->Value) (w:World):Cx:=⟨w,Aof B0 S bx lc,bx,lc⟩
structure Rel (B0 N:Nat) (S:Nat->Prop) (w0:World) (lc:Nat->Value) (s:St) (a:Act) (w:World):Prop where
 hB0:B0=w0.heap.size
 nt:a.tmps.size=N
 df:a.defers=[]
 below:Below B0 w0 w
 tm:Tms (cxOf B0 S s.bx lc w) s.tm a
 bx:∀ k,BR (cxOf B0 S s.bx lc w) B0 k
 sep:∀ k k' b,(s.bx k).st≠.dead->(s.bx k').st≠.dead->yvY (lc k)=some b->yvY (lc k')=some b->k=k'
section
variable {P:Program} {B0 N:Nat} {S:Nat->Prop} {w0:World} {lc:Nat->Value} {s:St} {a:Act} {w:World}
theorem y5rY (a:Act) (dst:Option Nat) (v:Value):(a.put dst v).tmps.size=a.tmps.size:=by
 unfold Act.put;cases dst<;>simp
theorem ybhY (a:Act) (dst:Option Nat) (v:Value):(a.put dst v).defers=a.defers:=by
 unfold Act.put;cases dst<;>rfl
theorem y8jY (a:Act) (t:Nat) (v:Value) (i:Nat) (h:t<a.tmps.size):(a.put (some t) v).tmps.getD i undef=if i=t then v else a.tmps.getD i undef:=by
 unfold Act.put
 simp only [Array.getD_eq_getD_getElem?,Array.getElem?_setIfInBounds]
 by_cases e:i=t
 ·subst e;simp [h]
 ·rw [if_neg (fun e'=>e e'.symm),if_neg e]
theorem Tms.put {c c':Cx} {tm:Nat->D} (h:Tms c tm a) (hk:Keeps c c') {t:Nat} (ht:t<a.tmps.size) {d:D} {v:Value} (hv:RV c' d v):Tms c' (upd tm t d) (a.put (some t) v):=by
 intro i
 rw [y8jY a t v i ht]
 unfold upd
 split
 ·exact hv
 ·exact (h i).keep hk
theorem Tms.keep {c c':Cx} {tm:Nat->D} (h:Tms c tm a) (hk:Keeps c c'):Tms c' tm a:=fun i=>(h i).keep hk
theorem Tms.putD {c c':Cx} {s:St} (h:Tms c s.tm a) (hk:Keeps c c') {dst:Option Nat} (ht:∀ t,dst=some t->t<a.tmps.size) {d:D} {v:Value} (hv:RV c' d v):Tms c' (putD s dst d).tm (a.put dst v):=by
 cases dst with
 | none=>exact h.keep hk
 | some t=>exact h.put hk (ht t rfl) hv
theorem y1wY (s:St) (dst:Option Nat) (d:D):(putD s dst d).bx=s.bx:=by cases dst<;>rfl
theorem BR.block {c:Cx} {k b:Nat} (h:BR c B0 k) (hst:(c.bx k).st≠.dead) (hb:yvY (c.lc k)=some b):B0<=b/\b<c.w.heap.size:=by
 have:=h hst
 split at this
 ·obtain ⟨b',cs,e,h1,h2,h3,_⟩:=this
  rw [h1] at hb
  simp only [yvY,Option.some.injEq] at hb
  subst hb
  exact ⟨h2,(Array.getElem?_eq_some_iff.mp h3).1⟩
 ·obtain ⟨xs,_,hown,_⟩:=this
  refine hown.lt b ?_
  rcases hown.2 with ⟨h1,_⟩|⟨g,cap,cur,h1,_⟩
  ·rw [h1] at hb;simp [yvY] at hb
  ·rw [h1] at hb ⊢;simpa [yvY,Value.ownBlock] using hb
 ·obtain ⟨b',mes,clk,h1,h2,h3,_⟩:=this
  rw [h1] at hb
  simp only [yvY,Option.some.injEq] at hb
  subst hb
  exact ⟨h2,(Array.getElem?_eq_some_iff.mp h3).1⟩
 ·obtain ⟨b',m,since,seen,last,h1,h2,h3,_⟩:=this
  rw [h1] at hb
  simp only [yvY,Option.some.injEq] at hb
  subst hb
  exact ⟨h2,(Array.getElem?_eq_some_iff.mp h3).1⟩
theorem BR.keep {c c':Cx} {k:Nat} (h:BR c B0 k) (hk:Keeps c c') (hbx:c'.bx k=c.bx k) (hlc:c'.lc k=c.lc k) (hm:∀ b,(c.bx k).st≠.dead->yvY (c.lc k)=some b->c'.w.heap[b]?=c.w.heap[b]?):BR c' B0 k:=by
 intro hst
 rw [hbx] at hst ⊢
 have hb:=h hst
 cases hkd:(c.bx k).kd with
 | var =>
   rw [hkd] at hb
   obtain ⟨b,cs,e,h1,h2,h3,h4,h5⟩:=hb
   exact ⟨b,cs,e,by rw [hlc];exact h1,h2,by rw [hm b hst (by rw [h1];rfl)];exact h3,h4.keep hk _ _,h5⟩
 | arr sz e =>
   rw [hkd] at hb
   obtain ⟨xs,h0,hown,hrel⟩:=hb
   refine ⟨xs,h0,?_,hrel.keep hk _ _ _⟩
   rw [hlc]
   refine ⟨hown.1,?_⟩
   rcases hown.2 with h1|⟨g,cap,cur,h1,h2,h3,h4⟩
   ·exact .inl h1
   ·exact .inr ⟨g,cap,cur,h1,h2,by rw [hm g hst (by rw [h1];rfl)];exact h3,h4⟩
 | map =>
   rw [hkd] at hb
   obtain ⟨b,mes,clk,h1,h2,h3,h4,h5⟩:=hb
   exact ⟨b,mes,clk,by rw [hlc];exact h1,h2,by rw [hm b hst (by rw [h1];rfl)];exact h3,h4.keep hk _ _,h5⟩
 | iter =>
   rw [hkd] at hb
   obtain ⟨b,m,since,seen,last,h1,h2,h3,h4⟩:=hb
   exact ⟨b,m,since,seen,last,by rw [hlc];exact h1,h2,by rw [hm b hst (by rw [h1];rfl)];exact h3,h4.keep hk⟩
theorem y42Y {w':World} (h:Below w.heap.size w w'):Keeps (cxOf B0 S s.bx lc w) (cxOf B0 S s.bx lc w') :=
 ⟨h.size,fun b hb hA=>⟨hA,h.block b hb⟩,fun _ _ hg=>⟨hg,fun e=>⟨e,rfl,rfl⟩⟩,MapsOld.of_same fun b hb _=>h.block b hb⟩
theorem Rel.world (h:Rel B0 N S w0 lc s a w) {w':World} (hw:Below w.heap.size w w'):Rel B0 N S w0 lc s a w' where
 hB0:=h.hB0
 nt:=h.nt
 df:=h.df
 below:=h.below.trans (hw.mono h.below.size |> fun k=>⟨k.os,k.tape,k.output,k.size,fun i hi=>k.block i (by rw [h.hB0] at hi;exact hi)⟩)
 tm:=h.tm.keep (y42Y hw)
 bx:=fun k=>(h.bx k).keep (y42Y hw) rfl rfl fun b hst hb=>hw.block b ((h.bx k).block hst hb).2
 sep:=h.sep
theorem Rel.put (h:Rel B0 N S w0 lc s a w) {dst:Option Nat} (ht:∀ t,dst=some t->t<N) {d:D} {v:Value} (hv:RV (cxOf B0 S s.bx lc w) d v):Rel B0 N S w0 lc (putD s dst d) (a.put dst v) w where
 hB0:=h.hB0
 nt:=by rw [y5rY];exact h.nt
 df:=by rw [ybhY];exact h.df
 below:=h.below
 tm:=by
  have:=h.tm.putD (Keeps.refl _) (dst:=dst) (fun t e=>by rw [h.nt];exact ht t e) hv
  rw [y1wY];exact this
 bx:=by rw [y1wY];exact h.bx
 sep:=by rw [y1wY];exact h.sep
theorem ykY {α:Type} (f:Nat->α) (i:Nat) (v:α):upd f i v i=v:=by simp [upd]
theorem y10Y {α:Type} {f:Nat->α} {i j:Nat} {v:α} (h:j≠i):upd f i v j=f j:=by simp [upd,h]
theorem Rel.newbox (h:Rel B0 N S w0 lc s a w) {t q:Nat} (ht:t<N) {w':World} {old:Nat->Prop} (nb:Box) (loc v:Value) (d:D) (hg:nb.gen=(s.bx q).gen+1)
 (bx1:Nat->Box) (hb1:∀ k,bx1 k=s.bx k∨(old k/\bx1 k=⟨(s.bx k).gen,.dead,(s.bx k).kd,(s.bx k).cs⟩)) (hold:∀ k,old k->(s.bx k).st=.rw/\bx1 k=⟨(s.bx k).gen,.dead,(s.bx k).kd,(s.bx k).cs⟩) (hkd:∀ k,old k->∃ sz e,(s.bx k).kd=.arr sz e)
 (hos:w'.os=w.os/\w'.tape=w.tape/\w'.output=w.output) (hsz:w.heap.size<=w'.heap.size) (hmem:∀ b,b<w.heap.size->(∀ k,old k->yvY (lc k)≠some b)->w'.heap[b]?=w.heap[b]?)
 (hblk:∀ b,yvY loc=some b->w.heap.size<=b∨∃ k,old k/\yvY (lc k)=some b)
 (hv:∀ c:Cx,c.w=w'->c.bx q=nb->c.lc q=loc->RV c d v)
 (hbr:Keeps (cxOf B0 S s.bx lc w) (cxOf B0 S (upd bx1 q nb) (upd lc q loc) w')->BR (cxOf B0 S (upd bx1 q nb) (upd lc q loc) w') B0 q) :
 Rel B0 N S w0 (upd lc q loc) ⟨upd s.tm t d,upd bx1 q nb⟩ (a.put (some t) v) w'/\Keeps (cxOf B0 S s.bx lc w) (cxOf B0 S (upd bx1 q nb) (upd lc q loc) w'):=by
 have hlt:∀ k b,(s.bx k).st≠.dead->yvY (lc k)=some b->B0<=b/\b<w.heap.size:=fun k b h1 h2=>(h.bx k).block (by exact h1) (by exact h2)
 have hst1:∀ k,(bx1 k).gen=(s.bx k).gen/\(bx1 k).kd=(s.bx k).kd/\((bx1 k).st≠.dead->bx1 k=s.bx k):=by
  intro k
  rcases hb1 k with e|⟨_,e⟩
  ·rw [e];exact ⟨rfl,rfl,fun _=>rfl⟩
  ·rw [e];exact ⟨rfl,rfl,fun hh=>absurd rfl hh⟩
 have hk:Keeps (cxOf B0 S s.bx lc w) (cxOf B0 S (upd bx1 q nb) (upd lc q loc) w'):=by
  refine ⟨hsz,fun b hb hA=>⟨?_,?_⟩,fun k g hgk=>?_,MapsOld.of_same fun b hb hm=>hmem b hb fun k hok hbl=>?_⟩
  ·rcases hA with hA|⟨h1,h2⟩
   ·exact .inl hA
   ·refine .inr ⟨h1,fun k hrwk=>?_⟩
    by_cases e:k=q
    ·subst e
     simp only [ykY] at hrwk ⊢
     intro hbl
     rcases hblk b hbl with h3|⟨k',h4,h5⟩
     ·have:b<w.heap.size:=hb
      omega
     ·exact h2 k' (hold k' h4).1 h5
    ·rw [y10Y e] at hrwk ⊢
     have:=(hst1 k).2.2 (by rw [hrwk];decide)
     rw [this] at hrwk
     exact h2 k hrwk
  ·refine hmem b hb fun k hok hbl=>?_
   rcases hA with ⟨h1,_⟩|⟨_,h2⟩
   ·have:=(hlt k b (by rw [(hold k hok).1];decide) hbl).1
    omega
   ·exact h2 k (hold k hok).1 hbl
  ·show g<=(upd bx1 q nb k).gen/\((upd bx1 q nb k).gen=g->(s.bx k).gen=g/\upd lc q loc k=lc k/\(upd bx1 q nb k).kd=(s.bx k).kd)
   have hgk':g<=(s.bx k).gen:=hgk
   by_cases e:k=q
   ·subst e
    simp only [ykY,hg]
    exact ⟨by omega,fun e'=>by omega⟩
   ·rw [y10Y e,y10Y e,(hst1 k).1,(hst1 k).2.1]
    exact ⟨hgk',fun e'=>⟨e',rfl,rfl⟩⟩
  ·obtain ⟨sz,e,hk⟩:=hkd k hok
   have hb':=h.bx k (by show (s.bx k).st≠_;rw [(hold k hok).1];decide)
   rw [show (cxOf B0 S s.bx lc w).bx k=s.bx k from rfl,hk] at hb'
   obtain ⟨xs,_,hown,_⟩:=hb'
   obtain ⟨mes,clk,hm⟩:=hm
   rcases hown.2 with ⟨h1,_⟩|⟨g,cap,cur,h1,_,h3,_⟩
   ·have h1':lc k=_:=h1
    rw [h1'] at hbl;simp [yvY] at hbl
   ·have h1':lc k=_:=h1
    rw [h1'] at hbl
    simp only [yvY,Option.some.injEq] at hbl
    subst hbl
    have h3':w.heap[g]?=_:=h3
    have hm':w.heap[g]?=_:=hm
    rw [hm'] at h3'
    simp at h3'
 have hB:B0<=w.heap.size:=by rw [h.hB0];exact h.below.size
 refine ⟨⟨h.hB0,by rw [y5rY];exact h.nt,by rw [ybhY];exact h.df,?_,?_,?_,?_⟩,hk⟩
 ·refine ⟨hos.1.trans h.below.os,hos.2.1.trans h.below.tape,hos.2.2.trans h.below.output,Nat.le_trans h.below.size hsz,fun b hb=>?_⟩
  rw [←h.below.block b hb]
  refine hmem b (by omega) fun k hok hbl=>?_
  have:=(hlt k b (by rw [(hold k hok).1];decide) hbl).1
  omega
 ·exact h.tm.put hk (by rw [h.nt];exact ht) (hv _ rfl (by simp [cxOf,ykY]) (by simp [cxOf,ykY]))
 ·intro k
  by_cases e:k=q
  ·subst e;exact hbr hk
  ·rcases hb1 k with e1|⟨_,e1⟩
   ·refine (h.bx k).keep hk (by simp only [cxOf];rw [y10Y e];exact e1) (by simp only [cxOf];rw [y10Y e]) fun b hst hbl=>?_
    refine hmem b (hlt k b hst hbl).2 fun k' hok hbl'=>?_
    have:k'=k:=h.sep k' k b (by rw [(hold k' hok).1];decide) hst hbl' hbl
    subst this
    have h3:=(hold k' hok).2
    rw [e1] at h3
    have h4:(s.bx k').st=.dead:=by rw [h3]
    exact hst h4
   ·intro hst
    exact absurd (by simp only [cxOf];rw [y10Y e,e1]) hst
 ·intro k k' b hst hst' hbl hbl'
  simp only at hst hst'
  by_cases e:k=q<;>by_cases e':k'=q
  ·rw [e,e']
  ·exfalso
   subst e
   rw [ykY] at hbl
   rw [y10Y e'] at hst' hbl'
   have h3:=(hst1 k').2.2 hst'
   rw [h3] at hst'
   rcases hblk b hbl with h4|⟨k1,h4,h5⟩
   ·have:=(hlt k' b hst' hbl').2
    omega
   ·have:k1=k':=h.sep k1 k' b (by rw [(hold k1 h4).1];decide) hst' h5 hbl'
    subst this
    have h6:=(hold k1 h4).2
    rw [h3] at h6
    exact hst' (by rw [h6])
  ·exfalso
   subst e'
   rw [ykY] at hbl'
   rw [y10Y e] at hst hbl
   have h3:=(hst1 k).2.2 hst
   rw [h3] at hst
   rcases hblk b hbl' with h4|⟨k1,h4,h5⟩
   ·have:=(hlt k b hst hbl).2
    omega
   ·have:k1=k:=h.sep k1 k b (by rw [(hold k1 h4).1];decide) hst h5 hbl
    subst this
    have h6:=(hold k1 h4).2
    rw [h3] at h6
    exact hst (by rw [h6])
  ·rw [y10Y e] at hst hbl
   rw [y10Y e'] at hst' hbl'
   have h3:=(hst1 k).2.2 hst
   have h4:=(hst1 k').2.2 hst'
   rw [h3] at hst
   rw [h4] at hst'
   exact h.sep k k' b hst hst' hbl hbl'
end
section
variable {P:Program} {B0 N:Nat} {S:Nat->Prop} {w0:World} {lc:Nat->Value} {s:St} {a:Act} {w:World} {C:Nat->List D->Option D} {T:Sh}
theorem BR.var {c:Cx} {k:Nat} (hkd:(c.bx k).kd=.var) {b:Nat} {cs:Array Value} {e:TypeId} (h1:c.lc k=.pointer (some ⟨b,0,none⟩)) (h2:B0<=b) (h3:c.w.heap[b]?=some (.cells cs e (0,0))) (h4:RVs c (c.bx k).cs cs.toList) (h5:∀ u∈cs.toList,u.oneCell'=true):BR c B0 k:=by
 intro _;rw [hkd];exact ⟨b,cs,e,h1,h2,h3,h4,h5⟩
theorem BR.arr {c:Cx} {k sz e:Nat} (hkd:(c.bx k).kd=.arr sz e) {xs:List Value} (h0:0<sz) (h1:c.w.ownsRow B0 e sz (c.lc k) (c.bx k).cs.length xs) (h2:REl c sz (c.bx k).cs xs):BR c B0 k:=by
 intro _;rw [hkd];exact ⟨xs,h0,h1,h2⟩
theorem Rel.turned (h:Rel B0 N S w0 lc s a w) {k:Nat} (hk:(s.bx k).st=.rw) (nb:Box) (hn:nb.gen=(s.bx k).gen/\nb.kd=(s.bx k).kd/\nb.st=.rw) {w':World}
 (hos:w'.os=w.os/\w'.tape=w.tape/\w'.output=w.output) (hsz:w'.heap.size=w.heap.size) (hmem:∀ b,yvY (lc k)≠some b->w'.heap[b]?=w.heap[b]?) (hmo:MapsOld w w')
 (hbr:Keeps (cxOf B0 S s.bx lc w) (cxOf B0 S (upd s.bx k nb) lc w')->BR (cxOf B0 S (upd s.bx k nb) lc w') B0 k) :
 Rel B0 N S w0 lc ⟨s.tm,upd s.bx k nb⟩ a w'/\Keeps (cxOf B0 S s.bx lc w) (cxOf B0 S (upd s.bx k nb) lc w'):=by
 have hlt:∀ k b,(s.bx k).st≠.dead->yvY (lc k)=some b->B0<=b/\b<w.heap.size:=fun k b h1 h2=>(h.bx k).block (by exact h1) (by exact h2)
 have hst:∀ i,(upd s.bx k nb i).gen=(s.bx i).gen/\(upd s.bx k nb i).kd=(s.bx i).kd/\(upd s.bx k nb i).st=(s.bx i).st:=by
  intro i
  by_cases e:i=k
  ·subst e;rw [ykY];exact ⟨hn.1,hn.2.1,hn.2.2.trans hk.symm⟩
  ·rw [y10Y e];exact ⟨rfl,rfl,rfl⟩
 have hkp:Keeps (cxOf B0 S s.bx lc w) (cxOf B0 S (upd s.bx k nb) lc w'):=by
  refine ⟨Nat.le_of_eq hsz.symm,fun b _ hA=>⟨?_,?_⟩,fun i g hg=>?_,hmo⟩
  ·rcases hA with hA|⟨h1,h2⟩
   ·exact .inl hA
   ·exact .inr ⟨h1,fun i hi=>h2 i ((hst i).2.2 ▸ hi)⟩
  ·refine hmem b fun hbl=>?_
   rcases hA with ⟨h1,_⟩|⟨_,h2⟩
   ·have:=(hlt k b (by rw [hk];decide) hbl).1;omega
   ·exact h2 k hk hbl
  ·show g<=(upd s.bx k nb i).gen/\((upd s.bx k nb i).gen=g->(s.bx i).gen=g/\lc i=lc i/\(upd s.bx k nb i).kd=(s.bx i).kd)
   rw [(hst i).1,(hst i).2.1]
   exact ⟨hg,fun e=>⟨e,rfl,rfl⟩⟩
 refine ⟨⟨h.hB0,h.nt,h.df,?_,h.tm.keep hkp,?_,?_⟩,hkp⟩
 ·refine ⟨hos.1.trans h.below.os,hos.2.1.trans h.below.tape,hos.2.2.trans h.below.output,by rw [hsz];exact h.below.size,fun b hb=>?_⟩
  rw [←h.below.block b hb]
  refine hmem b fun hbl=>?_
  have:=(hlt k b (by rw [hk];decide) hbl).1;omega
 ·intro i
  by_cases e:i=k
  ·subst e;exact hbr hkp
  ·refine (h.bx i).keep hkp (by simp only [cxOf];rw [y10Y e]) rfl fun b hst' hbl=>hmem b fun hbl'=>e (h.sep i k b hst' (by rw [hk];decide) hbl hbl')
 ·intro i j b hi hj hbi hbj
  exact h.sep i j b (by rw [←(hst i).2.2];exact hi) (by rw [←(hst j).2.2];exact hj) hbi hbj
theorem Rel.freeze (h:Rel B0 N S w0 lc s a w) (l:List Nat):Rel B0 N S w0 lc ⟨s.tm,freeze s.bx l⟩ a w/\Keeps (cxOf B0 S s.bx lc w) (cxOf B0 S (freeze s.bx l) lc w):=by
 have hst:∀ i,(AM.freeze s.bx l i).gen=(s.bx i).gen/\(AM.freeze s.bx l i).kd=(s.bx i).kd/\(AM.freeze s.bx l i).cs=(s.bx i).cs/\((AM.freeze s.bx l i).st=.rw->(s.bx i).st=.rw)/\((AM.freeze s.bx l i).st≠.dead->(s.bx i).st≠.dead):=by
  intro i
  unfold AM.freeze
  split
  ·rename_i hh;exact ⟨rfl,rfl,rfl,fun _=>hh.2,fun _=>by rw [hh.2];decide⟩
  ·exact ⟨rfl,rfl,rfl,id,id⟩
 have hkp:Keeps (cxOf B0 S s.bx lc w) (cxOf B0 S (AM.freeze s.bx l) lc w):=by
  refine ⟨Nat.le_refl _,fun b _ hA=>⟨?_,rfl⟩,fun i g hg=>?_,MapsOld.refl _⟩
  ·rcases hA with hA|⟨h1,h2⟩
   ·exact .inl hA
   ·exact .inr ⟨h1,fun i hi=>h2 i ((hst i).2.2.2.1 hi)⟩
  ·show g<=(AM.freeze s.bx l i).gen/\_
   rw [(hst i).1]
   exact ⟨hg,fun e=>⟨by simpa [cxOf,(hst i).1] using e,rfl,(hst i).2.1⟩⟩
 refine ⟨⟨h.hB0,h.nt,h.df,h.below,h.tm.keep hkp,fun i hi=>?_,fun i j b hi hj=>h.sep i j b ((hst i).2.2.2.2 hi) ((hst j).2.2.2.2 hj)⟩,hkp⟩
 have hi':=(hst i).2.2.2.2 hi
 have hb:=h.bx i hi'
 simp only [cxOf] at hb ⊢
 rw [(hst i).2.1,(hst i).2.2.1]
 cases hkd:(s.bx i).kd with
 | var =>
   rw [hkd] at hb
   obtain ⟨b,cs,e,h1,h2,h3,h4,h5⟩:=hb
   exact ⟨b,cs,e,h1,h2,h3,h4.keep hkp _ _,h5⟩
 | arr sz e =>
   rw [hkd] at hb
   obtain ⟨xs,h0,hown,hrel⟩:=hb
   exact ⟨xs,h0,hown,hrel.keep hkp _ _ _⟩
 | map =>
   rw [hkd] at hb
   obtain ⟨b,mes,clk,h1,h2,h3,h4,h5⟩:=hb
   exact ⟨b,mes,clk,h1,h2,h3,h4.keep hkp _ _,h5⟩
 | iter =>
   rw [hkd] at hb
   obtain ⟨b,m,since,seen,last,h1,h2,h3,h4⟩:=hb
   exact ⟨b,m,since,seen,last,h1,h2,h3,h4.keep hkp⟩
def y1gY (P:Program) (B0 N:Nat) (S:Nat->Prop) (w0:World) (lc:Nat->Value) (bx:Nat->Box) (o:Oper) (a:Act) (w:World) (s':St):Prop :=
 ∀ (K:Act->World->Prop) (Q:Exit->Act->World->Prop),(∀ lc' a' w',Rel B0 N S w0 lc' s' a' w'->Keeps (cxOf B0 S bx lc w) (cxOf B0 S s'.bx lc' w')->K a' w')->o.wp P a w K Q
theorem yh1Y (h:Rel B0 N S w0 lc s a w) {o:Oper} {d:D} (hd:∀ t,o.dst=some t->t<N) (hy:ynY P (cxOf B0 S s.bx lc w) a o d):y1gY P B0 N S w0 lc s.bx o a w (putD s o.dst d):=by
 intro K Q hK
 obtain ⟨v,w',h1,h2,h3⟩:=hy
 unfold Oper.wp
 rw [show (execOp a.eval o).run P w=.ok (.value v) w' from h1]
 refine hK lc _ _ ((h.world h2).put hd h3) ?_
 rw [y1wY]
 exact y42Y h2
theorem y4rY {o:Oper} {s':St} {v:Value} {w':World} {lc':Nat->Value} (h1:(execOp a.eval o).run P w=.ok (.value v) w') (h2:Rel B0 N S w0 lc' s' (a.put o.dst v) w'/\Keeps (cxOf B0 S s.bx lc w) (cxOf B0 S s'.bx lc' w')):y1gY P B0 N S w0 lc s.bx o a w s':=by
 intro K Q hK
 unfold Oper.wp
 rw [h1]
 exact hK _ _ _ h2.1 h2.2
theorem ybiY {c:Cx} {t:Nat} {nb:Box} {b:Nat} (h1:c.bx t=nb) (h2:c.lc t=.pointer (some ⟨b,0,none⟩)):RV c (.ptr t nb.gen 0) (.pointer (some ⟨b,0,none⟩)):=by
 simp only [RV]
 rw [h1]
 exact ⟨rfl,Nat.le_refl _,fun _=>⟨b,h2,rfl⟩⟩
theorem s_box (h:Rel B0 N S w0 lc s a w) {o:Oper} {t:Nat} (q:Nat) (hd:o.dst=some t) (ht:t<N) {e:TypeId} {v:Value} {cs:List D} (hrun:(execOp a.eval o).run P w=.ok (.value (.pointer (some ⟨w.heap.size,0,none⟩))) (w.alloc (.cells v.cells e)))
 (hrv:RVs (cxOf B0 S s.bx lc w) cs v.cells.toList) (hone:∀ u∈v.cells.toList,u.oneCell'=true) :
 y1gY P B0 N S w0 lc s.bx o a w ⟨upd s.tm t (.ptr q ((s.bx q).gen+1) 0),upd s.bx q ⟨(s.bx q).gen+1,.rw,.var,cs⟩⟩:=by
 refine y4rY (lc':=upd lc q (.pointer (some ⟨w.heap.size,0,none⟩))) hrun ?_
 rw [hd]
 refine h.newbox ht (old:=fun _=>False) ⟨(s.bx q).gen+1,.rw,.var,cs⟩ _ _ _ rfl s.bx (fun k=>.inl rfl) (fun k hk=>hk.elim) (fun k hk=>hk.elim) ⟨rfl,rfl,rfl⟩ (by simp) (fun b hb _=>Below.heap_alloc w _ b hb) ?_ ?_ ?_
 ·intro b hb
  simp only [yvY,Option.some.injEq] at hb
  exact .inl (Nat.le_of_eq hb)
 ·intro c hw hb hl
  have:=ybiY (nb:=⟨(s.bx q).gen+1,.rw,.var,cs⟩) hb hl
  exact this
 ·intro hk _
  have hB:B0<=w.heap.size:=by rw [h.hB0];exact h.below.size
  simp only [cxOf,ykY]
  exact ⟨w.heap.size,v.cells,e,rfl,hB,heap_alloc_new w _,hrv.keep hk _ _,hone⟩
theorem ybjY (h:Rel B0 N S w0 lc s a w) {o:Oper} {t:Nat} (q:Nat) (hd:o.dst=some t) (ht:t<N) {e:TypeId} {z:D} (ho:o.op=.alloc e) (hz:zeroT P e=some z) :
 y1gY P B0 N S w0 lc s.bx o a w ⟨upd s.tm t (.ptr q ((s.bx q).gen+1) 0),upd s.bx q ⟨(s.bx q).gen+1,.rw,.var,z.cells⟩⟩:=by
 obtain ⟨zv,hzv,hzr,hz1⟩:=y3yY hz (cxOf B0 S s.bx lc w)
 obtain ⟨h1,h2⟩:=hzr.cells hz1
 refine s_box h q hd ht (e:=e) (v:=zv) ?_ h1 h2
 unfold execOp
 simp only [ho]
 refine run_v ?_
 unfold Instr.alloc
 simp [y4pY hzv,Result.andThen,newVar,newRow]
theorem yh2Y (h:Rel B0 N S w0 lc s a w) {o:Oper} {t:Nat} (q:Nat) (hd:o.dst=some t) (ht:t<N) {e t1:TypeId} {x:Operand} {x':Opd} (ho:o.op=.box e x) (hx:opdT P t1 x=some x') (h1:(x'.get s.tm).one=true) :
 y1gY P B0 N S w0 lc s.bx o a w ⟨upd s.tm t (.ptr q ((s.bx q).gen+1) 0),upd s.bx q ⟨(s.bx q).gen+1,.rw,.var,(x'.get s.tm).cells⟩⟩:=by
 obtain ⟨k1,k2⟩:=(ybY h.tm hx).cells h1
 refine s_box h q hd ht (e:=e) (v:=a.eval x) ?_ k1 k2
 unfold execOp
 simp only [ho]
 refine run_v ?_
 simp [Instr.box,newVar,newRow]
theorem ybkY (h:Rel B0 N S w0 lc s a w) {o:Oper} {t:Nat} (q:Nat) (hd:o.dst=some t) (ht:t<N) {ty e:TypeId} {len n:Nat} {parts:Array (Nat × Operand)} {z:D} {l:List (Nat × Opd)} {r:List D} (ho:o.op=.buildSlice ty len parts)
 (hu:P.underlying ty=some (.slice e)) (hn:szT P e=some n) (hz:zeroT P e=some z) (h0:0<n) (hsm:len*n<=16777216)
 (hp:mapO (fun p:Nat × Operand=>(opdT P e p.2).map fun y=>(p.1,y)) parts.toList=some l) (hzl:z.cells.length=n) (hr:y26Y n (List.replicate len z) (l.map fun p=>(p.1,p.2.get s.tm))=some r) :
 y1gY P B0 N S w0 lc s.bx o a w ⟨upd s.tm t (.own q ((s.bx q).gen+1)),upd s.bx q ⟨(s.bx q).gen+1,.rw,.arr n e,r⟩⟩:=by
 obtain ⟨cells,k1,k2,k3⟩:=ybeY h.tm hu hn hz h0 hsm hp hzl hr
 have hB:B0<=w.heap.size:=by rw [h.hB0];exact h.below.size
 refine y4rY (lc':=upd lc q (.slice (some ⟨w.heap.size,0,none⟩) len len)) (v:=.slice (some ⟨w.heap.size,0,none⟩) len len) (w':=w.alloc (.cells cells e)) ?_ ?_
 ·unfold execOp
  simp only [ho]
  exact run_v k1
 ·rw [hd]
  refine h.newbox ht (old:=fun _=>False) ⟨(s.bx q).gen+1,.rw,.arr n e,r⟩ _ _ _ rfl s.bx (fun k=>.inl rfl) (fun k hk=>hk.elim) (fun k hk=>hk.elim) ⟨rfl,rfl,rfl⟩ (by simp) (fun b hb _=>Below.heap_alloc w _ b hb) ?_ ?_ ?_
  ·intro b hb
   simp only [yvY,Option.some.injEq] at hb
   exact .inl (Nat.le_of_eq hb)
  ·intro c hw hb hl
   simp only [RV]
   rw [hb,hl]
   exact ⟨rfl,Nat.le_refl _,fun _=>rfl⟩
  ·intro hk _
   simp only [cxOf,ykY]
   have hlen:=y3zY k2
   simp only [Array.length_toList] at hlen
   rw [k3] at hlen
   refine ⟨cells.toList,h0,⟨by simp [hlen,k3],.inr ⟨w.heap.size,len,cells,by rw [k3],hB,heap_alloc_new w _,by omega,?_,hlen,?_⟩⟩,k2.keep hk _ _ _⟩
   ·have:len<=len*n:=Nat.le_mul_of_pos_right _ h0
    simp only [maxLen];omega
   ·rw [k3];exact List.take_of_length_le (by simp [hlen])
theorem yblY {t e:TypeId} {n b off:Nat} {cur:Array Value} {v:Value} (hn:szT P t=some n) (hh:w.heap[b]?=some (.cells cur e (0,0))) (hs:v.cells.size=n) (hone:∀ u∈v.cells.toList,u.oneCell'=true) (hl:off+n<=cur.size) :
 (Instr.storeAt t (.pointer (some ⟨b,off,none⟩)) v).run P w=.ok () (w.setRow b (cur.toList.take off++v.cells.toList++cur.toList.drop (off+n)).toArray):=by
 have:=run_storeCells_at (P:=P) b off e v.cells.toList 0 cur w hh (by simp;omega) hone
 unfold Instr.storeAt Instr.sureAddr storeVar
 simp only [Sem.run_bind,Sem.run_pure,Result.andThen,y2sY hn,hs]
 simp only [ne_eq,not_true_eq_false,if_false]
 simp only [Nat.add_zero,Array.length_toList,hs] at this
 simpa using this
theorem REl.over {c:Cx} {sz:Nat}:∀ {ds:List D} {xs:List Value} {i off:Nat} {x:D} {us:List Value} {ucs:List D},REl c sz ds xs->ds[i]?=some x->RVs c ucs us->(∀ u∈us,u.oneCell'=true)->off+us.length<=sz->(y1vY x=true∨(y1vY x=false/\us.length=1)) ->
 REl c sz (ds.set i (reD x (over x.cells off ucs))) (xs.take (i*sz+off)++us++xs.drop (i*sz+off+us.length))
 | [],_,_,_,_,_,_,_,hx,_,_,_,_=>by simp at hx
 | e::ds,xs,0,off,x,us,ucs,h,hx,hu,ho,hl,hag=>by
   simp only [List.getElem?_cons_zero,Option.some.injEq] at hx
   subst hx
   simp only [REl] at h
   obtain ⟨e0,rest,rfl,h1,h2,h3,h4⟩:=h
   simp only [List.set_cons_zero,REl,Nat.zero_mul,Nat.zero_add]
   have hcs:=h2.cells_of h3
   have hov:=y8aY (off:=off) hcs hu
   have hlen:e0.cells.toList.length=sz:=by simp [h1]
   have hone:=y8bY (off:=off) (n:=off+us.length) h3 ho
   have hsplit:(e0.cells.toList++rest).take off++us++(e0.cells.toList++rest).drop (off+us.length)=(e0.cells.toList.take off++us++e0.cells.toList.drop (off+us.length))++rest:=by
    rw [List.take_append_of_le_length (by omega),List.drop_append_of_le_length (by omega)]
    simp only [List.append_assoc]
   have hnl:(e0.cells.toList.take off++us++e0.cells.toList.drop (off+us.length)).length=sz:=by
    simp only [List.length_append,List.length_take,List.length_drop,hlen];omega
   rcases hag with hag|⟨hag,hu1⟩
   ·cases e<;>simp [y1vY] at hag
    rename_i cs
    refine ⟨.agg (e0.cells.toList.take off++us++e0.cells.toList.drop (off+us.length)).toArray,rest,by rw [hsplit];rfl,?_,?_,?_,h4⟩
    ·simpa [Value.cells] using hnl
    ·simp only [reD,RV]
     exact ⟨_,rfl,by simpa [D.cells] using hov,by simpa using hone⟩
    ·simpa [Value.cells] using hone
   ·have h1e:e.one=true:=by
     cases e<;>simp only [D.one]
     case junk=>simp [RV] at h2
     case undef=>simp only [RV] at h2;subst h2;simp [Go.undef,Value.cells,Value.oneCell'] at h3
     case tup=>simp only [RV] at h2;obtain ⟨vs,rfl,_⟩:=h2;simp [Value.cells,Value.oneCell'] at h3
    have hec:e.cells=[e]:=by cases e<;>simp [y1vY,D.cells] at hag ⊢
    have he0:e0.cells=#[e0]:=y3vY (yb1Y h2 h1e hag)
    have hsz1:sz=1:=by rw [←h1,he0];rfl
    have hoff:off=0:=by omega
    subst hoff
    match us,hu1,hu,ho,hov,hsplit with
    | [u],_,hu,ho,_,hsplit =>
      match ucs,hu with
      | [uc],hu =>
        simp only [RVs] at hu
        obtain ⟨u',r',he,hur,rfl⟩:=hu
        simp only [List.cons.injEq,and_true] at he
        subst he
        have huo:=ho u (by simp)
        refine ⟨u,rest,?_,?_,?_,?_,h4⟩
        ·rw [hsplit,y3vY huo,he0];simp
        ·rw [y3vY huo];simpa using hsz1.symm
        ·rw [hec]
         have:reD e (AM.over [e] 0 [uc])=uc:=by
          cases e<;>simp [y1vY] at hag<;>simp [reD,AM.over]
         rw [this];exact hur
        ·rw [y3vY huo];simpa using huo
      | [],hu=>simp [RVs] at hu
      | _::_::_,hu=>have:=hu.length;simp at this
 | e::ds,xs,i+1,off,x,us,ucs,h,hx,hu,ho,hl,hag=>by
   simp only [List.getElem?_cons_succ] at hx
   simp only [REl] at h
   obtain ⟨e0,rest,rfl,h1,h2,h3,h4⟩:=h
   simp only [List.set_cons_succ,REl]
   have:=REl.over h4 hx hu ho hl hag
   refine ⟨e0,_,?_,h1,h2,h3,this⟩
   have hl':e0.cells.toList.length=sz:=by simp [h1]
   rw [show (i+1)*sz+off=e0.cells.toList.length+(i*sz+off) from by rw [hl',Nat.add_mul];omega]
   rw [List.take_length_add_append,Nat.add_assoc,List.drop_length_add_append]
   simp only [List.append_assoc]
theorem yh3Y {α:Type} (l us:List α) (o L:Nat) (h:o+us.length<=L) (hl:L<=l.length) :
 (l.take o++us++l.drop (o+us.length)).take L=(l.take L).take o++us++(l.take L).drop (o+us.length):=by
 have hA:(l.take o++us).length=o+us.length:=by simp only [List.length_append,List.length_take];omega
 rw [List.take_append,hA,List.take_of_length_le (by omega),List.drop_take,List.take_take,Nat.min_eq_left (by omega)]
theorem ybmY {b:Nat} {cur:Array Value} {e:TypeId} {cs:Array Value} (hh:w.heap[b]?=some (.cells cur e (0,0))):MapsOld w (w.setRow b cs) :=
 MapsOld.of_same fun b2 _ hm=>setRow_other w b b2 _ fun e2=>by
  subst e2
  obtain ⟨mes,clk,hm⟩:=hm
  rw [hm] at hh
  simp at hh
theorem yh4Y (h:Rel B0 N S w0 lc s a w) {o:Oper} (hd:o.dst=none) {t t1 t2:TypeId} {n:Nat} {x v:Operand} {x' v':Opd} {bx':Nat->Box} (ho:o.op=.store t x v) (hn:szT P t=some n) (hx:opdT P t1 x=some x') (hv:opdT P t2 v=some v')
 (hs:y1qY s.bx n (x'.get s.tm) (v'.get s.tm)=some bx'):y1gY P B0 N S w0 lc s.bx o a w ⟨s.tm,bx'⟩:=by
 have hp:=ybY h.tm hx
 have hq:=ybY h.tm hv
 have hrunU:∀ {w':World},(Instr.storeAt t (a.eval x) (a.eval v)).run P w=.ok () w'->(execOp a.eval o).run P w=.ok .skip w':=by
  intro w' hr
  unfold execOp
  simp only [ho,Sem.run_bind,hr,Result.andThen,Sem.run_pure]
 have fin:∀ {w':World},(Instr.storeAt t (a.eval x) (a.eval v)).run P w=.ok () w'->(Rel B0 N S w0 lc ⟨s.tm,bx'⟩ a w'/\Keeps (cxOf B0 S s.bx lc w) (cxOf B0 S bx' lc w'))->y1gY P B0 N S w0 lc s.bx o a w ⟨s.tm,bx'⟩:=by
  intro w' hr hrel K Q hK
  unfold Oper.wp
  rw [hrunU hr,Oper.upon_skip,hd]
  exact hK lc a w' hrel.1 hrel.2
 unfold y1qY at hs
 split at hs
 ·rename_i hc
  obtain ⟨hl,hone,hn0⟩:=hc
  obtain ⟨hcs,hco⟩:=hq.cells hone
  have hsz:=hq.cells_size hone
  split at hs
  ·rename_i k g off e1
   rw [e1] at hp
   split at hs
   ·rename_i hc
    obtain ⟨hg,hst,hkd,hle⟩:=hc
    simp only [Option.some.injEq] at hs
    subst hs
    simp only [RV] at hp
    obtain ⟨b,hlc,hpv⟩:=hp.2.2 hg
    have hb:=h.bx k (by rw [show (cxOf B0 S s.bx lc w).bx k=s.bx k from rfl,hst];decide)
    simp only [cxOf,hkd] at hb
    obtain ⟨b',cs,e,hlc',hB0b,hh,hrv,hone'⟩:=hb
    have hbb:b=b':=by
     have:lc k=.pointer (some ⟨b,0,none⟩):=hlc
     rw [this] at hlc';simpa using hlc'
    subst hbb
    have hlen:=hrv.length
    simp only [Array.length_toList] at hlen
    have hr:=yblY (P:=P) (off:=off) hn hh (by omega) hco (by omega)
    rw [←hpv] at hr
    refine fin hr ?_
    refine h.turned hst ⟨g,.rw,.var,_⟩ ⟨hg.symm,hkd.symm,rfl⟩ ⟨rfl,rfl,rfl⟩ (by simp) (fun b2 hb2=>setRow_other w b b2 _ (fun e2=>hb2 (by rw [hlc',e2];rfl))) (ybmY hh) ?_
    intro hk
    refine BR.var (b:=b) (e:=e) (by simp only [cxOf,ykY]) hlc' hB0b (setRow_heap w b cs _ e _ hh) ?_ ?_
    ·have:=y8aY (off:=off) hrv hcs
     simp only [Array.length_toList,hsz,hl] at this
     have:=RVs.keep hk _ _ this
     simp only [cxOf,ykY] at this ⊢
     exact this
    ·exact y8bY hone' hco
   ·simp at hs
  ·rename_i k g i off e1
   rw [e1] at hp
   split at hs
   ·rename_i hc
    obtain ⟨hg,hst,hkd⟩:=hc
    cases hel:(s.bx k).cs[i]? with
    | none=>rw [hel] at hs;simp at hs
    | some y =>
      rw [hel] at hs
      simp only at hs
      split at hs
      ·rename_i hle
       simp only [Option.some.injEq] at hs
       subst hs
       simp only [RV] at hp
       obtain ⟨b,n',cap,sz,e,hk2,hlc,hpv⟩:=hp.2.2 hg
       have hk2':(s.bx k).kd=.arr sz e:=hk2
       have hlc':lc k=.slice (some ⟨b,0,none⟩) n' cap:=hlc
       have hb:=h.bx k (by rw [show (cxOf B0 S s.bx lc w).bx k=s.bx k from rfl,hst];decide)
       simp only [cxOf,hk2'] at hb
       obtain ⟨xs,h0,hown,hrel⟩:=hb
       obtain ⟨ev,r1,r2,r3,r4⟩:=y83Y hrel hel
       have hyl:=(r1.cells_of r3).length
       simp only [Array.length_toList,r2] at hyl
       rcases hown.2 with ⟨q1,_⟩|⟨b',cap',cur,q1,q2,q3,q4,q5,q6,q7⟩
       ·rw [hlc'] at q1;simp at q1
       ·rw [hlc'] at q1
        simp only [Value.slice.injEq,Option.some.injEq,Addr.mk.injEq,and_true] at q1
        obtain ⟨rfl,hn',rfl⟩:=q1
        have hilt:i<(s.bx k).cs.length:=(List.getElem?_eq_some_iff.1 hel).1
        have hm1:i*sz+sz<=(s.bx k).cs.length*sz:=by have:=Nat.mul_le_mul_right sz hilt;rwa [Nat.succ_mul] at this
        have hm2:(s.bx k).cs.length*sz<=cap*sz:=Nat.mul_le_mul_right sz q4
        have hr:=yblY (P:=P) (off:=i*sz+off) hn q3 (by omega) hco (by omega)
        rw [←hpv] at hr
        refine fin hr ?_
        refine h.turned hst ⟨g,.rw,(s.bx k).kd,_⟩ ⟨hg.symm,rfl,rfl⟩ ⟨rfl,rfl,rfl⟩ (by simp) (fun b2 hb2=>setRow_other w b b2 _ (fun e2=>hb2 (by rw [hlc',e2];rfl))) (ybmY q3) ?_
        intro hk
        have hus:(a.eval v).cells.toList.length=n:=by simp;omega
        have hov:=REl.over (off:=off) hrel hel hcs hco (by omega) (by
         cases hag:y1vY y with
         | true=>exact .inl rfl
         | false =>
           refine .inr ⟨rfl,?_⟩
           have:y.cells.length=1:=by cases y<;>simp [y1vY,D.cells] at hag ⊢
           omega)
        have hxl:=y3zY hrel
        rw [hus] at hov
        refine BR.arr (sz:=sz) (e:=e) (xs:=xs.take (i*sz+off)++(a.eval v).cells.toList++xs.drop (i*sz+off+n)) (by simp only [cxOf,ykY];exact hk2') h0 ⟨?_,.inr ⟨b,cap,_,hlc'.trans (by rw [hn'];simp only [cxOf,ykY,List.length_set]),q2,setRow_heap w b cur _ e _ q3,?_,q5,?_,?_⟩⟩ ?_
        ·simp only [cxOf,ykY,List.length_set,List.length_append,List.length_take,List.length_drop,hus,hxl];omega
        ·simp only [cxOf,ykY,List.length_set];exact q4
        ·simp only [List.size_toArray,List.length_append,List.length_take,List.length_drop,hus,Array.length_toList];omega
        ·simp only [cxOf,ykY,List.length_set]
         rw [←q7,←hus]
         exact yh3Y _ _ _ _ (by omega) (by simp only [Array.length_toList];omega)
        ·have:=REl.keep hk _ _ _ hov
         simp only [cxOf,ykY] at this ⊢
         exact this
      ·simp at hs
   ·simp at hs
  ·simp at hs
 ·simp at hs
theorem yh5Y (bx:Nat->Box) (l:List Nat) (i:Nat):(AM.freeze bx l i).gen=(bx i).gen/\(AM.freeze bx l i).kd=(bx i).kd/\(AM.freeze bx l i).cs=(bx i).cs/\((AM.freeze bx l i).st=.rw->(bx i).st=.rw)/\((AM.freeze bx l i).st≠.dead->(bx i).st≠.dead):=by
 unfold AM.freeze
 split
 ·rename_i hh;exact ⟨rfl,rfl,rfl,fun _=>hh.2,fun _=>by rw [hh.2];decide⟩
 ·exact ⟨rfl,rfl,rfl,id,id⟩
theorem yh6Y {α:Type} (f:Nat->α) (i:Nat) (v u:α):upd (upd f i v) i u=upd f i u:=by
 funext k
 unfold upd
 split<;>rfl
theorem y8kY (h:Rel B0 N S w0 lc s a w) {ds:List D} {d d':D} {v:Value} (hm:d∈ds) (ht:tell s.bx depth d=some d') (hv:RV (cxOf B0 S s.bx lc w) d v) :
 RV (cxOf B0 S (AM.freeze s.bx (ds.flatMap (refs s.bx depth))) lc w) d' v:=by
 refine y8iY (c':=cxOf B0 S (AM.freeze s.bx (ds.flatMap (refs s.bx depth))) lc w) h.bx rfl ?_ depth d d' v ?_ ht hv
 ·intro b hb hA
  exact ((h.freeze (ds.flatMap (refs s.bx depth))).2.mem b hb hA).1
 ·intro k hk hst b hbl
  refine .inr ⟨((h.bx k).block hst hbl).1,fun i hi hbi=>?_⟩
  unfold AM.freeze at hi
  split at hi
  ·simp at hi
  ·rename_i hn
   have:i=k:=h.sep i k b (by rw [hi];decide) hst hbi hbl
   subst this
   exact hn ⟨List.mem_flatMap.2 ⟨d,hm,hk⟩,hi⟩
theorem y8lY {c c':Cx} {f:D->Option D} {sz:Nat}:∀ {ds ds':List D} {xs:List Value},(∀ d∈ds,∀ d' v,f d=some d'->RV c d v->RV c' d' v)->mapO f ds=some ds'->REl c sz ds xs->REl c' sz ds' xs
 | [],ds',xs,_,hm,h=>by
   simp only [mapO,Option.some.injEq] at hm
   subst hm
   simpa [REl] using h
 | d::ds,ds',xs,hf,hm,h=>by
   simp only [mapO,Option.bind_eq_some_iff,Option.map_eq_some_iff] at hm
   obtain ⟨d1,h1,r,h2,rfl⟩:=hm
   simp only [REl] at h ⊢
   obtain ⟨ev,rest,rfl,h3,h4,h5,h6⟩:=h
   exact ⟨ev,rest,rfl,h3,hf d (by simp) d1 ev h1 h4,h5,y8lY (fun d hd=>hf d (by simp [hd])) h2 h6⟩
theorem s_app (h:Rel B0 N S w0 lc s a w) {o:Oper} {t:Nat} (hd:o.dst=some t) (ht:t<N) {ty e t1 t2:TypeId} {sz bytes:Nat} {x y:Operand} {x' y':Opd} {s':St} (ho:o.op=.call { callee:=.builtin .append,args:=#[x,y],argTypes:=#[ty,ty] })
 (hu:P.underlying ty=some (.slice e)) (hn:szT P e=some sz) (hb:y5jY P e=some bytes) (h0:0<sz) (hb0:0<bytes) (hz:(P.info? e).bind (·.zero)≠none) (hzs:∀ z,(P.info? e).bind (·.zero)=some z->z.cells.size=sz) (hx:opdT P t1 x=some x') (hy:opdT P t2 y=some y')
 (hs:step C T ⟨some t,.app sz e bytes x' y',none⟩ s=some s'):y1gY P B0 N S w0 lc s.bx o a w s':=by
 have hp:=ybY h.tm hx
 have hq:=ybY h.tm hy
 have hB:B0<=w.heap.size:=by rw [h.hB0];exact h.below.size
 obtain ⟨ie,hie,hsz⟩:=y5qY hn
 have hby:ie.bytes=bytes:=by
  unfold y5jY at hb;rw [hie] at hb;simpa using hb
 cases hzz:ie.zero with
 | none=>rw [hie] at hz;simp [hzz] at hz
 | some z =>
   have hzsz:=hzs z (by rw [hie];exact hzz)
   simp only [step,Option.bind_eq_some_iff] at hs
   obtain ⟨⟨ysz,ys⟩,hel,zs,hzs2,hs⟩:=hs
   simp only at hzs2 hs
   obtain ⟨ad,ycap,news,y1,y2,y3,y4⟩:=y8dY h.bx hq hel
   have hzl:=y30Y hzs2
   generalize hfl:ys.flatMap (refs s.bx depth)=fl at hs
   have hy2':REl (cxOf B0 S (AM.freeze s.bx fl) lc w) ysz zs news:=y8lY (fun d hm d' v ht hv=>by rw [←hfl];exact y8kY h hm ht hv) hzs2 y2
   obtain ⟨h2,hkp⟩:=h.freeze fl
   have hfr:=yh5Y s.bx fl
   have key:∀ (q:Nat) (base:List D) (xs:List Value) (bx1:Nat->Box) (old:Nat->Prop),ysz=sz->(base.length+ys.length)*bytes<=140737488355328 ->
    w.ownsRow B0 e sz (a.eval x) base.length xs->REl (cxOf B0 S (AM.freeze s.bx fl) lc w) sz base xs ->
    (∀ k,bx1 k=AM.freeze s.bx fl k∨(old k/\bx1 k=⟨(AM.freeze s.bx fl k).gen,.dead,(AM.freeze s.bx fl k).kd,(AM.freeze s.bx fl k).cs⟩))->(∀ k,old k->(AM.freeze s.bx fl k).st=.rw/\bx1 k=⟨(AM.freeze s.bx fl k).gen,.dead,(AM.freeze s.bx fl k).kd,(AM.freeze s.bx fl k).cs⟩) ->
    (∀ b,yvY (a.eval x)=some b->∃ k,old k/\yvY (lc k)=some b)->(∀ k,old k->lc k=a.eval x)->(∀ k,old k->∃ sz e,(AM.freeze s.bx fl k).kd=.arr sz e) ->
    y1gY P B0 N S w0 lc s.bx o a w ⟨upd s.tm t (.own q ((s.bx q).gen+1)),upd bx1 q ⟨(s.bx q).gen+1,.rw,.arr sz e,base++zs⟩⟩:=by
    intro q base xs bx1 old hys hroom hown hrel hb1 hold hblk hlold hokd
    subst hys
    have hyl:=y3zY y2
    have h63:base.length+ys.length<=maxLen:=by
     have:=Nat.le_mul_of_pos_right (base.length+ys.length) hb0
     simp only [maxLen];omega
    have main:∃ v' w',(Builtin.append_ #[ty,ty] o.type #[a.eval x,a.eval y]).run P w=.ok v' w'/\w'.ownsRow B0 e ysz v' (base.length+ys.length) (xs++news)/\w.grownBy w' (a.eval x).ownBlock/\(v'.ownBlock=(a.eval x).ownBlock∨v'.ownBlock=some w.heap.size):=by
     rw [y1]
     cases ad with
     | some ad =>
       obtain ⟨v',w',k1,k2,k3,_,k5⟩:=run_append_own_at (P:=P) (w:=w) B0 ty o.type e ie z ysz bytes hu hie hzz hsz hby hzsz h0 (a.eval x) base.length xs hown ad ys.length ycap news hyl (y4 ad rfl) y2.one h63 hroom hB
       exact ⟨v',w',k1,k2,k3,k5⟩
     | none =>
       obtain ⟨h1,h2⟩:=y3 rfl
       subst h1
       subst h2
       have hne:news=[]:=List.eq_nil_of_length_eq_zero (by simpa using hyl)
       subst hne
       exact ⟨a.eval x,w,run_append_owned_none (P:=P) (w:=w) B0 ty o.type e ie ysz hu hie (a.eval x) base.length xs hown,by simpa using hown,World.grownBy.refl _ _,.inl rfl⟩
    obtain ⟨v',w',k1,k2,k3,k4⟩:=main
    have hob:∀ v:Value,(∃ n c,v=.slice none n c)∨(∃ ad n c,v=.slice (some ad) n c)->yvY v=v.ownBlock:=by
     intro v hv
     rcases hv with ⟨n,c,rfl⟩|⟨ad,n,c,rfl⟩<;>rfl
    have hform:∀ {W:World} {v:Value} {n:Nat} {l:List Value},W.ownsRow B0 e ysz v n l->yvY v=v.ownBlock:=by
     intro W v n l ho'
     rcases ho'.2 with ⟨h1,_⟩|⟨g,cap,cur,h1,_⟩
     ·exact hob v (.inl ⟨_,_,h1⟩)
     ·exact hob v (.inr ⟨_,_,_,h1⟩)
    refine y4rY (lc':=upd lc q v') (v:=v') (w':=w') ?_ ?_
    ·unfold execOp
     simp only [ho,resolve,invoke,Go.builtin,Sem.run_bind,Sem.run_pure,Result.andThen,List.map_toArray,List.map_cons,List.map_nil,k1]
    ·rw [hd]
     have hnb:=h2.newbox (t:=t) (q:=q) ht (w':=w') (old:=old) ⟨(s.bx q).gen+1,.rw,.arr ysz e,base++zs⟩ v' v' (.own q ((s.bx q).gen+1)) (by simp only [(hfr q).1]) bx1 hb1 hold hokd ⟨k3.os,k3.tape,k3.output⟩ k3.size ?_ ?_ ?_ ?_
     ·exact ⟨hnb.1,hkp.trans hnb.2⟩
     ·intro b hb hno
      refine k3.block b hb fun he=>?_
      have h1:yvY (a.eval x)=some b:=by rw [hform hown,←he]
      obtain ⟨k,h2,h3⟩:=hblk b h1
      exact hno k h2 h3
     ·intro b hbl
      rw [hform k2] at hbl
      rcases k4 with k4|k4
      ·rw [k4,←hform hown] at hbl
       exact .inr (hblk b hbl)
      ·rw [k4] at hbl
       simp only [Option.some.injEq] at hbl
       exact .inl (Nat.le_of_eq hbl)
     ·intro c hw hb hl
      simp only [RV]
      rw [hb,hl]
      refine ⟨?_,Nat.le_refl _,fun _=>rfl⟩
      rcases k2.2 with ⟨h1,_⟩|⟨g,cap,cur,h1,_⟩<;>rw [h1]<;>rfl
     ·intro hk
      refine BR.arr (sz:=ysz) (e:=e) (xs:=xs++news) (by simp only [cxOf,ykY]) h0 ?_ ?_
      ·simp only [cxOf,ykY,List.length_append,hzl];exact k2
      ·have:=(hrel.keep hk _ _ _).append (hy2'.keep hk _ _ _)
       simp only [cxOf,ykY] at this ⊢
       exact this
   split at hs
   ·rename_i k g e1
    rw [e1] at hp
    split at hs
    ·rename_i hc
     obtain ⟨hg,hst,hkd,hys,hroom⟩:=hc
     simp only [Option.some.injEq] at hs
     subst hs
     have hb':=h2.bx k (by rw [show (cxOf B0 S (AM.freeze s.bx fl) lc w).bx k=AM.freeze s.bx fl k from rfl,hst];decide)
     simp only [cxOf,(hfr k).2.1,(hfr k).2.2.1,hkd] at hb'
     obtain ⟨xs,_,hown,hrel⟩:=hb'
     simp only [RV] at hp
     have hpv:a.eval x=lc k:=hp.2.2 hg
     rw [←hpv] at hown
     have:=key k (s.bx k).cs xs (upd (AM.freeze s.bx fl) k ⟨(AM.freeze s.bx fl k).gen,.dead,(AM.freeze s.bx fl k).kd,(AM.freeze s.bx fl k).cs⟩) (fun i=>i=k) hys hroom hown hrel (fun i=>by
      by_cases hi:i=k
      ·subst hi;exact .inr ⟨rfl,by rw [ykY]⟩
      ·exact .inl (y10Y hi)) (fun i hi=>by subst hi;exact ⟨hst,by rw [ykY]⟩) (fun b hb=>⟨k,rfl,by rw [←hpv];exact hb⟩) (fun i hi=>by rw [hi];exact hpv.symm) (fun i hi=>by rw [hi,(hfr k).2.1];exact ⟨_,_,hkd⟩)
     rw [yh6Y,hg] at this
     exact this
    ·simp at hs
   ·rename_i sz' e1
    rw [e1] at hp
    split at hs
    ·rename_i hc
     obtain ⟨_,hys,hroom⟩:=hc
     simp only [Option.some.injEq] at hs
     subst hs
     simp only [RV] at hp
     obtain ⟨_,_,_,_,hnl,_⟩:=hp
     have hpv:=hnl trivial
     have:=key (T.base+t) [] [] (AM.freeze s.bx fl) (fun _=>False) hys (by simpa using hroom) (by rw [hpv];exact World.ownsRow_nil _ _ _ _) (by simp [REl]) (fun k=>.inl rfl) (fun k hk=>hk.elim) (fun b hb=>by rw [hpv] at hb;simp [yvY] at hb) (fun k hk=>hk.elim) (fun k hk=>hk.elim)
     simpa using this
    ·simp at hs
   ·simp at hs
end
mutual
theorem RV.scalar {c c':Cx}:∀ (d:D) (v:Value),scalar d=true->RV c d v->RV c' d v
 | .junk,_,_,hv=>by simp [RV] at hv
 | .undef,_,_,hv=>by simpa [RV] using hv
 | .int _ _,_,_,hv=>by simpa [RV] using hv
 | .bool _,_,_,hv=>by simpa [RV] using hv
 | .str _,_,_,hv=>by simpa [RV] using hv
 | .agg cs,v,hc,hv=>by
   simp only [RV,AM.scalar] at hv hc ⊢
   obtain ⟨vs,e,hs,ho⟩:=hv
   exact ⟨vs,e,RVs.scalar cs _ hc hs,ho⟩
 | .tup cs,v,hc,hv=>by
   simp only [RV,AM.scalar] at hv hc ⊢
   obtain ⟨vs,e,hs⟩:=hv
   exact ⟨vs,e,RVs.scalar cs _ hc hs⟩
 | .sl _ _ _,v,hc,hv=>by simp [AM.scalar] at hc
 | .own _ _,v,hc,hv=>by simp [AM.scalar] at hc
 | .mapr _ _,v,hc,hv=>by simp [AM.scalar] at hc
 | .ptr _ _ _,v,hc,hv=>by simp [AM.scalar] at hc
 | .eptr _ _ _ _,v,hc,hv=>by simp [AM.scalar] at hc
 | .vptr _ _,v,hc,hv=>by simp [AM.scalar] at hc
 | .nilp,_,_,hv=>by simpa [RV] using hv
 | .fn _ _ _,v,hc,hv=>by simp [AM.scalar] at hc
 | .nilf,_,_,hv=>by simpa [RV] using hv
 | .iface t d,v,hc,hv=>by
   simp only [RV,AM.scalar] at hv hc ⊢
   obtain ⟨x,e,hx⟩:=hv
   exact ⟨x,e,RV.scalar d x hc hx⟩
 | .nili,_,_,hv=>by simpa [RV] using hv
 | .opq,_,_,hv=>by simpa [RV] using hv
 | .mapv es,v,hc,hv=>by simp [AM.scalar] at hc
 | .nilm,_,_,hv=>by simpa [RV] using hv
theorem RVs.scalar {c c':Cx}:∀ (ds:List D) (vs:List Value),scalarL ds=true->RVs c ds vs->RVs c' ds vs
 | [],_,_,hv=>by simpa [RVs] using hv
 | d::ds,_,hc,hv=>by
   simp only [RVs,scalarL,Bool.and_eq_true] at hv hc ⊢
   obtain ⟨v,r,e,h1,h2⟩:=hv
   exact ⟨v,r,e,RV.scalar d v hc.1 h1,RVs.scalar ds r hc.2 h2⟩
end
theorem ybnY {bx:Nat->Box} (n:Nat) {d:D} (h:closed d=true):refs bx n d=[]:=by
 cases n<;>simp [refs,h]
theorem y3bY {bx:Nat->Box} (n:Nat):∀ {l:List D},closedL l=true->l.flatMap (refs bx n)=[]
 | [],_=>rfl
 | d::l,h=>by
   simp only [closedL,Bool.and_eq_true] at h
   simp [ybnY n h.1,y3bY n h.2]
def y1Y (P:Program) (f:Nat):Prop:=∀ args w,(callFunc f args).run P w=.ok (.enter f args) w
def Sound (P:Program) (G:World->Prop) (C:Nat->List D->Option D):Prop:=∀ f args r,C f args=some r->y1Y P f/\closed r=true/\Spec P G f args r
def yh7Y (P:Program) (G:World->Prop) (v:Nat->List D->D->Prop):Prop:=∀ f args r,v f args r->y1Y P f/\closed r=true/\Spec P G f args r
def Grows (G:World->Prop):Prop:=∀ w w',G w->Below w.heap.size w w'->G w'
structure Mem (B0:Nat) (S:Nat->Prop) (w0:World) (lc:Nat->Value) (bx:Nat->Box) (w:World):Prop where
 hB0:B0=w0.heap.size
 below:Below B0 w0 w
 hbx:∀ k,BR (cxOf B0 S bx lc w) B0 k
 sep:∀ k k' b,(bx k).st≠.dead->(bx k').st≠.dead->yvY (lc k)=some b->yvY (lc k')=some b->k=k'
def SpecS (P:Program) (G:World->Prop) (f:Nat) (args:List D) (bx:Nat->Box) (post:D->(Nat->Box)->Prop):Prop :=
 ∀ (B0:Nat) (S:Nat->Prop) (w0:World) (lc:Nat->Value) (w:World) (vs:Array Value),G w0->Mem B0 S w0 lc bx w->RVs (cxOf B0 S bx lc w) args vs.toList ->
   Calls P f vs w fun e w'=>∃ r bx' v lc',post r bx'/\e=.returned v/\Mem B0 S w0 lc' bx' w'/\Keeps (cxOf B0 S bx lc w) (cxOf B0 S bx' lc' w')/\RV (cxOf B0 S bx' lc' w') r v
def y1xY (P:Program) (G:World->Prop) (R:Ans):Prop :=
 yh7Y P G R.v/\∀ f args bx post,R.s f args bx post->y1Y P f/\SpecS P G f args bx post
theorem Tells.sound {P:Program} {G:World->Prop} {R:Ans} (h:y1xY P G R) {base:Nat} {C:Nat->List D->Option D} {T:Sh} (ht:Tells R base C T):Sound P G C :=
 fun f args r hr=>h.1 f args r (ht.1 f args r hr)
section
variable {P:Program} {B0 N:Nat} {S:Nat->Prop} {w0:World} {lc:Nat->Value} {s:St} {a:Act} {w:World} {C:Nat->List D->Option D} {T:Sh} {G:World->Prop}
theorem Rel.good (h:Rel B0 N S w0 lc s a w) (hGG:Grows G) (hG:G w0):G w:=hGG w0 w hG (by have:=h.below;rw [h.hB0] at this;exact this)
theorem Rel.mem (h:Rel B0 N S w0 lc s a w):Mem B0 S w0 lc s.bx w:=⟨h.hB0,h.below,h.bx,h.sep⟩
theorem Rel.back (h:Rel B0 N S w0 lc s a w) {lc':Nat->Value} {bx':Nat->Box} {w':World} (hm:Mem B0 S w0 lc' bx' w') (hk:Keeps (cxOf B0 S s.bx lc w) (cxOf B0 S bx' lc' w')):Rel B0 N S w0 lc' ⟨s.tm,bx'⟩ a w' where
 hB0:=h.hB0
 nt:=h.nt
 df:=h.df
 below:=hm.below
 tm:=h.tm.keep hk
 bx:=hm.hbx
 sep:=hm.sep
theorem yh8Y {R:Ans} {base:Nat} (h:Rel B0 N S w0 lc s a w) (hG:G w0) (hR:y1xY P G R) {o:Oper} (hd:∀ t,o.dst=some t->t<N) {cl:Call} {f:Operand} (ho:o.op=.call cl) (hcl:cl.callee=.value f) {t1:TypeId} {f':Opd} {ats:List TypeId} {l':List Opd}
 (hf:opdT P t1 f=some f') (hargs:argsT P ats cl.args.toList=some l') {Kd:St->Prop} (hcw:callW R base f' l' o.dst s Kd)
 {K:Act->World->Prop} {Q:Exit->Act->World->Prop} (hK:∀ s' lc' a' w',Kd s'->Rel B0 N S w0 lc' s' a' w'->Keeps (cxOf B0 S s.bx lc w) (cxOf B0 S s'.bx lc' w')->K a' w'):o.wp P a w K Q:=by
 obtain ⟨g,first,caps,post,hfn,hr,_,hpost⟩:=hcw
 obtain ⟨hent,hspec⟩:=hR.2 _ _ _ _ hr
 have hfv:=ybY h.tm hf
 rw [hfn] at hfv
 simp only [RV] at hfv
 obtain ⟨xs,ys,hfe,hxs,hys⟩:=hfv
 have has:=y82Y h.tm hargs
 have hall:RVs (cxOf B0 S s.bx lc w) (first++l'.map (·.get s.tm)++caps) (xs.toList++cl.args.toList.map a.eval++ys.toList):=(hxs.append has).append hys
 have hcall:=hspec B0 S w0 lc w (xs.toList++cl.args.toList.map a.eval++ys.toList).toArray hG h.mem (by simpa using hall)
 unfold Oper.wp
 have hrun:(execOp a.eval o).run P w=.ok (.enter g (xs.toList++cl.args.toList.map a.eval++ys.toList).toArray) w:=by
  obtain ⟨callee,args,at2⟩:=cl
  simp only at hcl
  subst hcl
  unfold execOp
  simp only [ho,resolve,hfe,Deferred.ofValue,Sem.run_bind,Sem.run_pure,Result.andThen,invoke]
  have:(xs++args.map a.eval)++ys=(xs.toList++args.toList.map a.eval++ys.toList).toArray:=by
   apply Array.toList_inj.mp;simp
  rw [this]
  exact hent _ _
 rw [hrun,Oper.upon_enter]
 refine hcall.mono fun e w' hq=>?_
 obtain ⟨r,bx',v,lc',hp,he,hmem,hkp,hrv⟩:=hq
 subst he
 refine hK _ lc' _ _ (hpost r bx' hp) ((h.back hmem hkp).put hd hrv) ?_
 rw [y1wY]
 exact hkp
theorem y8mY (h:Rel B0 N S w0 lc s a w) (hG:G w) (hC:Sound P G C) {o:Oper} (hd:∀ t,o.dst=some t->t<N) {cl:Call} {f:Operand} (ho:o.op=.call cl) (hcl:cl.callee=.value f) {t1:TypeId} {f':Opd} {ats:List TypeId} {l':List Opd}
 (hf:opdT P t1 f=some f') (hargs:argsT P ats cl.args.toList=some l') {g:Nat} {first caps l:List D} {r:D} (hfn:f'.get s.tm=.fn g first caps)
 (hl:mapO (tell s.bx depth) (first++l'.map (·.get s.tm)++caps)=some l) (hr:C g (stripL l)=some r) {bx2:Nat->Box}
 (hb:(bx2=s.bx/\(closedL (first++l'.map (·.get s.tm)++caps)=true∨scalar r=true))∨bx2=freeze s.bx ((first++l'.map (·.get s.tm)++caps).flatMap (refs s.bx depth))) :
 y1gY P B0 N S w0 lc s.bx o a w (putD ⟨s.tm,bx2⟩ o.dst r):=by
 obtain ⟨hent,hcr,hspec⟩:=hC _ _ _ hr
 obtain ⟨h2,hkp⟩:Rel B0 N S w0 lc ⟨s.tm,bx2⟩ a w/\Keeps (cxOf B0 S s.bx lc w) (cxOf B0 S bx2 lc w):=by
  rcases hb with ⟨e,_⟩|e
  ·subst e;exact ⟨h,Keeps.refl _⟩
  ·subst e;exact h.freeze _
 have hfv:=ybY h.tm hf
 rw [hfn] at hfv
 simp only [RV] at hfv
 obtain ⟨xs,ys,hfe,hxs,hys⟩:=hfv
 have has:=y82Y h.tm hargs
 have hall:RVs (cxOf B0 S s.bx lc w) (first++l'.map (·.get s.tm)++caps) (xs.toList++cl.args.toList.map a.eval++ys.toList):=(hxs.append has).append hys
 have hS:∃ S':Nat->Prop,(∀ b,b<w.heap.size->(cxOf B0 S s.bx lc w).A b->S' b)/\(∀ k∈(first++l'.map (·.get s.tm)++caps).flatMap (refs s.bx depth),(s.bx k).st≠.dead->∀ b,yvY (lc k)=some b->S' b) /\
  (scalar r=true∨∀ b,S' b->(cxOf B0 S bx2 lc w).A b):=by
  rcases hb with ⟨e,hcs⟩|e
  ·subst e
   rcases hcs with hcs|hcs
   ·exact ⟨(cxOf B0 S s.bx lc w).A,fun b _ hA=>hA,by rw [y3bY _ hcs];simp,.inr fun b hA=>hA⟩
   ·exact ⟨fun _=>True,fun _ _ _=>trivial,fun _ _ _ _ _=>trivial,.inl hcs⟩
  ·subst e
   refine ⟨(cxOf B0 S (freeze s.bx _) lc w).A,fun b hb hA=>?_,fun k hk hst b hbl=>?_,.inr fun b hA=>hA⟩
   ·rcases hA with hA|⟨h1,h3⟩
    ·exact .inl hA
    ·refine .inr ⟨h1,fun i hi=>h3 i ?_⟩
     unfold freeze at hi
     split at hi
     ·simp at hi
     ·exact hi
   ·refine .inr ⟨((h.bx k).block hst hbl).1,fun i hi hbi=>?_⟩
    unfold freeze at hi
    split at hi
    ·simp at hi
    ·rename_i hn
     have:i=k:=h.sep i k b (by rw [hi];decide) hst hbi hbl
     subst this
     exact hn ⟨hk,hi⟩
 obtain ⟨S',hS1,hS2,hS3⟩:=hS
 have hvs:RVs ⟨w,S',bx0,noLoc⟩ (stripL l) (xs.toList++cl.args.toList.map a.eval++ys.toList):=by
  refine RVs.strip _ _ (y40Y ?_ hl hall)
  intro d hdm d' v ht hv
  exact y8iY (c':=⟨w,S',bx0,noLoc⟩) h.bx rfl hS1 depth d d' v (fun k hk hst b hbl=>hS2 k (List.mem_flatMap.2 ⟨d,hdm,hk⟩) hst b hbl) ht hv
 have hcall:=hspec w S' (xs.toList++cl.args.toList.map a.eval++ys.toList).toArray hG (by simpa using hvs)
 intro K Q hK
 unfold Oper.wp
 have hrun:(execOp a.eval o).run P w=.ok (.enter g (xs.toList++cl.args.toList.map a.eval++ys.toList).toArray) w:=by
  obtain ⟨callee,args,at2⟩:=cl
  simp only at hcl
  subst hcl
  unfold execOp
  simp only [ho,resolve,hfe,Deferred.ofValue,Sem.run_bind,Sem.run_pure,Result.andThen,invoke]
  have:(xs++args.map a.eval)++ys=(xs.toList++args.toList.map a.eval++ys.toList).toArray:=by
   apply Array.toList_inj.mp;simp
  rw [this]
  exact hent _ _
 rw [hrun,Oper.upon_enter]
 refine hcall.mono fun e w' hpost=>?_
 obtain ⟨v,he,hbel,hrv⟩:=hpost
 subst he
 have h3:=h2.world hbel
 refine hK lc _ _ (h3.put hd ?_) (by rw [y1wY];exact hkp.trans (y42Y (s:=⟨s.tm,bx2⟩) hbel))
 rcases hS3 with hsc|hS3
 ·exact RV.scalar r v hsc hrv
 ·have hwd:Wider ⟨w',fun b=>S' b∨w.heap.size<=b,bx0,noLoc⟩ (cxOf B0 S bx2 lc w'):=by
   refine ⟨rfl,fun b _ hA=>?_⟩
   rcases hA with hA|hA
   ·exact hS3 b hA
   ·have hB:B0<=w.heap.size:=by rw [h.hB0];exact h.below.size
    refine .inr ⟨Nat.le_trans hB hA,fun i hi hbi=>?_⟩
    have:=(h2.bx i).block (by rw [show (cxOf B0 S bx2 lc w).bx i=bx2 i from rfl,hi];decide) hbi
    have h4:b<w.heap.size:=this.2
    omega
  exact RV.closed hwd r v hcr hrv
end
end Go.Proofs.AM
