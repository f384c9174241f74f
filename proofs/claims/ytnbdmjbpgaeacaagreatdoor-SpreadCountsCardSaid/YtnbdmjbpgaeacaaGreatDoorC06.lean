/- Part 6 of the lemmas: AML, AMLaw. -/
import Derived.Test.YtnbdmjbpgaeacaaGreatDoorC03
import Derived.Test.YtnbdmjbpgaeacaaGreatDoorC05
import Derived.IntWalk
import Derived.Laws.Strings
import Derived.Sort.Walk0
import Derived.ProofKit
import Derived.OpenShut
import Derived.SizedLaws
set_option maxRecDepth 100000
set_option maxHeartbeats 8000000
set_option linter.all false
namespace Go.Proofs.AM
open Go
abbrev Str:=List UInt8
def mkS (s:Str):D:=.str ⟨⟨s⟩⟩
section
variable {O:Ops} (hO:O=Ops.std)
include hO
theorem o_add (k:IntKind) (a b:Int):O .iop .add k a b=k.wrap (a+b):=by subst hO;simp [Ops.std,y2mY,binD,Go.binOp,Op.intArith,yzY,pure]
theorem o_sub (k:IntKind) (a b:Int):O .iop .sub k a b=k.wrap (a-b):=by subst hO;simp [Ops.std,y2mY,binD,Go.binOp,Op.intArith,yzY,pure]
theorem o_mul (k:IntKind) (a b:Int):O .iop .mul k a b=k.wrap (a*b):=by subst hO;simp [Ops.std,y2mY,binD,Go.binOp,Op.intArith,yzY,pure]
theorem o_quo (k:IntKind) (a b:Int) (hb:b≠0):O .iop .quo k a b=k.wrap (a.tdiv b):=by subst hO;simp [Ops.std,y2mY,binD,Go.binOp,Op.intDiv,yzY,pure,hb]
theorem o_rem (k:IntKind) (a b:Int) (hb:b≠0):O .iop .rem k a b=a.tmod b:=by subst hO;simp [Ops.std,y2mY,binD,Go.binOp,Op.intDiv,yzY,pure,hb]
theorem o_eql (a b:Int):O .icmp .eql a b=decide (a=b):=by
 subst hO;simp [Ops.std,y1yY,binD,Go.binOp,Op.intCmp,yzY,pure]
 by_cases h:a=b<;>simp [h]
theorem o_neq (a b:Int):O .icmp .neq a b=decide (a≠b):=by
 subst hO;simp [Ops.std,y1yY,binD,Go.binOp,Op.intCmp,yzY,pure]
 by_cases h:a=b<;>simp [h]
theorem o_lss (a b:Int):O .icmp .lss a b=decide (a<b):=by subst hO;simp [Ops.std,y1yY,binD,Go.binOp,Op.intCmp,yzY,pure]
theorem o_leq (a b:Int):O .icmp .leq a b=decide (a<=b):=by subst hO;simp [Ops.std,y1yY,binD,Go.binOp,Op.intCmp,yzY,pure]
theorem o_gtr (a b:Int):O .icmp .gtr a b=decide (b<a):=by subst hO;simp [Ops.std,y1yY,binD,Go.binOp,Op.intCmp,yzY,pure]
theorem o_geq (a b:Int):O .icmp .geq a b=decide (b<=a):=by subst hO;simp [Ops.std,y1yY,binD,Go.binOp,Op.intCmp,yzY,pure]
theorem ydnY (a b:Str):O .scmp .eql ⟨⟨a⟩⟩ ⟨⟨b⟩⟩=decide (a=b):=by
 subst hO;simp [Ops.std,y1yY,binD,Go.binOp,Op.stringOp,yzY,pure,ByteArray.toList_eq]
 by_cases h:a=b<;>simp [h]
theorem ydoY (a b:Str):O .scmp .neq ⟨⟨a⟩⟩ ⟨⟨b⟩⟩=decide (a≠b):=by
 subst hO;simp [Ops.std,y1yY,binD,Go.binOp,Op.stringOp,yzY,pure,ByteArray.toList_eq]
 by_cases h:a=b<;>simp [h]
theorem ydpY (a b:Str):O .scmp .lss ⟨⟨a⟩⟩ ⟨⟨b⟩⟩=decide (a<b):=by
 subst hO;simp [Ops.std,y1yY,binD,Go.binOp,Op.stringOp,yzY,pure,ByteArray.toList_eq,bytesLess_eq]
theorem ydqY (a b:Str):O .scmp .geq ⟨⟨a⟩⟩ ⟨⟨b⟩⟩=decide (¬a<b):=by
 subst hO;simp [Ops.std,y1yY,binD,Go.binOp,Op.stringOp,yzY,pure,ByteArray.toList_eq,bytesLess_eq,-List.not_lt]
theorem ydrY (a b:Str):O .scmp .leq ⟨⟨a⟩⟩ ⟨⟨b⟩⟩=decide (a<b∨a=b):=by
 subst hO;simp [Ops.std,y1yY,binD,Go.binOp,Op.stringOp,yzY,pure,ByteArray.toList_eq,bytesLess_eq]
 by_cases h:a=b<;>simp [h]
theorem o_cat (a b:Str):O .cat ⟨⟨a⟩⟩ ⟨⟨b⟩⟩=⟨⟨a++b⟩⟩:=by
 subst hO
 apply ByteArray.ext
 simp [Ops.std]
theorem o_beq (neg a b:Bool):O .beq neg a b=((a == b) != neg):=by subst hO;rfl
theorem o_neg (k:IntKind) (a:Int):O .neg .neg k a=k.wrap (0-a):=by subst hO;simp [Ops.std,y2mY,unD,Op.unary,Op.intArith,yzY,pure]
theorem ydsY (k:IntKind) (a:Int):O .wrap k a=k.wrap a:=by subst hO;rfl
theorem o_nat (a:Int):O .nat a=a.toNat:=by subst hO;rfl
theorem o_len (l:List D):O .len l=l.length:=by subst hO;rfl
theorem y18Y (s:Str):O .slen ⟨⟨s⟩⟩=s.length:=by subst hO;rfl
theorem o_app (a b:List D):O .app a b=a++b:=by subst hO;rfl
theorem y20Y (l:List D) (a b:Int):O .subL l a b=(l.take b.toNat).drop a.toNat:=by subst hO;rfl
theorem o_u8 (b:UInt8):O .u8 b=b.toNat:=by subst hO;rfl
theorem ydtY (s:Str):O .bytes ⟨⟨s⟩⟩=s.map fun b=>.int .u8 b.toNat:=by subst hO;rfl
theorem o_set (l:List D) (i:Nat) (d:D):O .set l i d=l.set i d:=by subst hO;rfl
theorem o_max (a b:Int):O .mx true a b=max a b:=by
 subst hO
 show (if b > a then b else a)=max a b
 split<;>omega
theorem o_min (a b:Int):O .mx false a b=min a b:=by
 subst hO
 show (if b<a then b else a)=min a b
 split<;>omega
end
theorem y4aY {n:Int} (h1:-9223372036854775808<=n) (h2:n<9223372036854775808):IntKind.i64.wrap n=n:=IntWalk.i64_in n ⟨h1,by omega⟩
theorem yduY {n:Int} (h1:0<=n) (h2:n<256):IntKind.u8.wrap n=n:=IntWalk.u8_in n ⟨h1,by omega⟩
section
variable {O:Ops} (hO:O=Ops.std)
include hO
theorem y0Y {a b:Int} (h1:-9223372036854775808<=a+b) (h2:a+b<9223372036854775808):O .iop .add .i64 a b=a+b:=by rw [o_add hO,y4aY h1 h2]
theorem y15Y {a b:Int} (h1:-9223372036854775808<=a-b) (h2:a-b<9223372036854775808):O .iop .sub .i64 a b=a-b:=by rw [o_sub hO,y4aY h1 h2]
theorem yjhY {a b:Int} (h1:-9223372036854775808<=a*b) (h2:a*b<9223372036854775808):O .iop .mul .i64 a b=a*b:=by rw [o_mul hO,y4aY h1 h2]
end
def cmpP:BinOp->Int->Int->Prop
 | .eql,a,b=>a=b
 | .neq,a,b=>a≠b
 | .lss,a,b=>a<b
 | .leq,a,b=>a<=b
 | .gtr,a,b=>b<a
 | .geq,a,b=>b<=a
 | _,_,_=>True
def nocmp:BinOp->Bool
 | .eql|.neq|.lss|.leq|.gtr|.geq=>false
 | _=>true
section
variable {O:Ops} (hO:O=Ops.std)
include hO
theorem ct {op:BinOp} {a b:Int} (h:true=O .icmp op a b):cmpP op a b:=by
 cases op<;>first|exact trivial|(simp only [o_eql hO,o_neq hO,o_lss hO,o_leq hO,o_gtr hO,o_geq hO] at h;simpa [cmpP] using h.symm)
theorem cf {op:BinOp} {a b:Int} (h:false=O .icmp op a b):nocmp op=true∨¬cmpP op a b:=by
 cases op<;>first|exact .inl rfl|(simp only [o_eql hO,o_neq hO,o_lss hO,o_leq hO,o_gtr hO,o_geq hO] at h;right;simpa [cmpP] using h.symm)
theorem f_eql {a b:Int} (h:false=O .icmp .eql a b):a≠b:=(cf hO h).resolve_left (by decide)
theorem f_neq {a b:Int} (h:false=O .icmp .neq a b):a=b:=Classical.byContradiction ((cf hO h).resolve_left (by decide))
theorem f_lss {a b:Int} (h:false=O .icmp .lss a b):b<=a:=Int.not_lt.1 ((cf hO h).resolve_left (by decide))
theorem f_leq {a b:Int} (h:false=O .icmp .leq a b):b<a:=Int.not_le.1 ((cf hO h).resolve_left (by decide))
theorem f_gtr {a b:Int} (h:false=O .icmp .gtr a b):a<=b:=Int.not_lt.1 ((cf hO h).resolve_left (by decide))
theorem f_geq {a b:Int} (h:false=O .icmp .geq a b):a<b:=Int.not_le.1 ((cf hO h).resolve_left (by decide))
theorem t_eql {a b:Int} (h:true=O .icmp .eql a b):a=b:=ct hO h
theorem t_neq {a b:Int} (h:true=O .icmp .neq a b):a≠b:=ct hO h
theorem t_lss {a b:Int} (h:true=O .icmp .lss a b):a<b:=ct hO h
theorem t_leq {a b:Int} (h:true=O .icmp .leq a b):a<=b:=ct hO h
theorem t_gtr {a b:Int} (h:true=O .icmp .gtr a b):b<a:=ct hO h
theorem t_geq {a b:Int} (h:true=O .icmp .geq a b):b<=a:=ct hO h
theorem y3hY {a b:Str} (h:true=O .scmp .eql ⟨⟨a⟩⟩ ⟨⟨b⟩⟩):a=b:=by rw [ydnY hO] at h;simpa using h.symm
theorem y3iY {a b:Str} (h:false=O .scmp .eql ⟨⟨a⟩⟩ ⟨⟨b⟩⟩):a≠b:=by rw [ydnY hO] at h;simpa using h.symm
theorem y50Y {a b:Str} (h:true=O .scmp .neq ⟨⟨a⟩⟩ ⟨⟨b⟩⟩):a≠b:=by rw [ydoY hO] at h;simpa using h.symm
theorem y51Y {a b:Str} (h:false=O .scmp .neq ⟨⟨a⟩⟩ ⟨⟨b⟩⟩):a=b:=by rw [ydoY hO] at h;simpa using h.symm
theorem y76Y {a b:Str} (h:true=O .scmp .lss ⟨⟨a⟩⟩ ⟨⟨b⟩⟩):a<b:=by rw [ydpY hO] at h;simpa using h.symm
theorem y77Y {a b:Str} (h:false=O .scmp .lss ⟨⟨a⟩⟩ ⟨⟨b⟩⟩):¬a<b:=by rw [ydpY hO] at h;simpa using h.symm
theorem yjiY {a b:Str} (h:true=O .scmp .geq ⟨⟨a⟩⟩ ⟨⟨b⟩⟩):¬a<b:=by rw [ydqY hO] at h;simpa [-List.not_lt] using h.symm
theorem yjjY {a b:Str} (h:false=O .scmp .geq ⟨⟨a⟩⟩ ⟨⟨b⟩⟩):a<b:=by rw [ydqY hO] at h;simpa [-List.not_lt] using h.symm
theorem b_eq {a b t:Bool} (h:t=O .beq false a b):t=(a == b):=by rw [o_beq hO] at h;simpa using h
theorem b_ne {a b t:Bool} (h:t=O .beq true a b):t=(a != b):=by rw [o_beq hO] at h;rw [h];cases a<;>cases b<;>rfl
end
theorem y4Y {f:DS->(Ex->DS->Prop)->Prop} {s:DS} {Q:Ex->DS->Prop} (J:Nat->DS->Prop) (h0:∃ n d,J n d/\s.le d)
 (h:∀ J':Nat->DS->Prop,(∀ n d,J n d->J' n d)->∀ n d,J n d->f d (thenX (fun s'=>∃ m d',J' m d'/\s'.le d'/\m<n) Q)):loopX f s Q :=
 ⟨J,h0,h J fun _ _ h=>h⟩
theorem y2dY {f g:DS->(Ex->DS->Prop)->Prop} {s:DS} {Q:Ex->DS->Prop} (M:DS->Prop) (h1:∀ M':DS->Prop,(∀ d,M d->M' d)->f s (thenX (fun s'=>∃ d,M' d/\s'.le d) Q)) (h2:∀ d,M d->g d Q):joinX f g s Q:=⟨M,h1 M fun _ h=>h,h2⟩
theorem y7Y {α:Type} {l:List α} {f:α->D} {k:Nat} {y:α} (h:l[k]?=some y) {xs:List D} (hx:xs=l.map f) {i:Int} (hi:i=k):atX xs i (f y):=by
 subst hi hx
 exact ⟨by omega,by simp [h]⟩
theorem y8Y {α:Type} {f:α->D} (hf:∀ a,Clean (f a)) {l:List α} {xs:List D} (hx:xs=l.map f):CleanL xs:=by
 subst hx
 induction l with
 | nil=>exact ⟨rfl,rfl⟩
 | cons a l ih =>
   obtain ⟨h1,h2⟩:=hf a
   obtain ⟨h3,h4⟩:=ih
   exact ⟨by simp [closedL,h1,h3],by simp [stripL,h2,h4]⟩
theorem CleanL.x {xs:List D} (h:CleanL xs):ClosedX xs:=⟨h.c⟩
theorem CleanL.app {xs ys:List D} (h:CleanL xs) (k:CleanL ys):CleanL (xs++ys):=by
 induction xs with
 | nil=>exact k
 | cons x xs ih =>
   have h1:=h.c
   have h2:=h.s
   simp only [closedL,Bool.and_eq_true,stripL,List.cons.injEq] at h1 h2
   have:=ih ⟨h1.2,h2.2⟩
   exact ⟨by simp [closedL,h1.1,this.c],by simp [stripL,h2.1,this.s]⟩
theorem yhY (s:Str):Clean (mkS s):=⟨rfl,rfl⟩
def SCall (V:Ans) (base:Nat) (g:Nat) (l:List D) (gv:List (Nat × Box)) (Q:D->List (Nat × Box)->Prop):Prop :=
 ∀ bx:Nat->Box,(∀ k b,find gv k=some b->bx k=b)->∃ post,V.s g l bx post/\(∃ r bx',post r bx')/\∀ r bx',post r bx' ->
   ∃ kn,Q r kn/\(∀ k b,find kn k=some b->bx' k=b)/\∀ k,k<base->find gv k=none->bx' k=bx k/\find kn k=none
def keepX (base:Nat) (gv:List (Nat × Box)):List (Nat × Box)->List (Nat × Box)
 | []=>[]
 | (k,b)::r=>match Nat.blt k base,find gv k with|true,none=>(k,b)::keepX base gv r|_,_=>keepX base gv r
def appL:List (Nat × Box)->List (Nat × Box)->List (Nat × Box)
 | [],l=>l
 | p::r,l=>p::appL r l
theorem y78Y (base:Nat) (gv:List (Nat × Box)):∀ (l:List (Nat × Box)) (k:Nat) (b:Box),find (keepX base gv l) k=some b->k<base/\find gv k=none/\find l k=some b
 | [],k,b,h=>by simp [keepX,find] at h
 | (j,c)::r,k,b,h=>by
   simp only [keepX] at h
   split at h
   ·rename_i h1 h2
    rw [Nat.blt_eq] at h1
    simp only [find] at h ⊢
    cases hb:Nat.beq k j with
    | true =>
      rw [hb] at h
      rw [Nat.beq_eq] at hb
      subst hb
      exact ⟨h1,h2,h⟩
    | false =>
      rw [hb] at h
      exact y78Y base gv r k b h
   ·rename_i hne
    obtain ⟨h1,h2,h3⟩:=y78Y base gv r k b h
    refine ⟨h1,h2,?_⟩
    simp only [find]
    cases hb:Nat.beq k j with
    | true =>
      rw [Nat.beq_eq] at hb
      subst hb
      exact absurd h2 (hne (by rw [Nat.blt_eq];exact h1))
    | false=>exact h3
theorem y9pY (l:List (Nat × Box)) (k:Nat):∀ (r:List (Nat × Box)),find (appL r l) k=match find r k with|some b=>some b|none=>find l k
 | []=>rfl
 | (j,c)::r=>by
   simp only [appL,find]
   cases Nat.beq k j with
   | true=>rfl
   | false=>exact y9pY l k r
theorem yjkY {V:Ans} {base cb g:Nat} {l:List D} {gv:List (Nat × Box)} {Q:D->List (Nat × Box)->Prop} {s:DS} {K:D->List (Nat × Box)->Prop} (hc:SCall V cb g l gv Q) (hb:base<=cb)
 (hgv:leB s.bx gv) (hK:∀ r kn,Q r kn->K r (appL kn (keepX cb gv s.bx))):sharedX V base s g l K:=by
 refine ⟨fun bx hbx=>?_⟩
 obtain ⟨post,h1,h2,h3⟩:=hc bx fun k b h=>hbx k b (y5tY hgv k b h)
 refine ⟨post,h1,h2,fun r bx' hp=>?_⟩
 obtain ⟨kn,h4,h5,h6⟩:=h3 r bx' hp
 refine ⟨_,fun k b h=>?_,fun k hk hn=>?_,hK r kn h4⟩
 ·rw [y9pY] at h
  split at h
  ·rename_i b' hb'
   simp only [Option.some.injEq] at h
   subst h
   exact h5 k _ hb'
  ·obtain ⟨h7,h8,h9⟩:=y78Y _ _ _ _ _ h
   rw [(h6 k h7 h8).1]
   exact hbx k b h9
 ·have hg:find gv k=none:=by
   cases hf:find gv k with
   | none=>rfl
   | some b=>have:=y5tY hgv k b hf;rw [hn] at this;simp at this
  obtain ⟨h7,h8⟩:=h6 k (by omega) hg
  refine ⟨h7,?_⟩
  rw [y9pY,h8]
  cases hf:find (keepX cb gv s.bx) k with
  | none=>rfl
  | some b=>have:=(y78Y _ _ _ _ _ hf).2.2;rw [hn] at this;simp at this
theorem SCall.of {P:Program} {G:World->Prop} (hGG:Grows G) (hm:P.follows .mixedOrders=true) {sh:List Nat} {f:Nat} {fn:Go.Func} {af:Func} (he:y1Y P f) (hf:P.funcs[f]?=some fn) (hT:funcT P sh fn=some af.erase) {base:Nat} {args:List D} {gv:List (Nat × Box)} {Q:D->List (Nat × Box)->Prop}
 (hn:args.length=af.params/\af.params<=af.ntmps) (h:∀ O:Ops,O=Ops.std->∀ V:Ans,V=PR P G->wpS O V base af args gv Q):SCall (PR P G) base f args gv Q:=by
 intro bx hbx
 have ha:=yhkY (base:=base) hn h bx hbx
 refine ⟨_,yjgY hGG hm he hf hT ha,?_,fun r bx' hp=>hp⟩
 obtain ⟨e,s',hw⟩:=y9nY ha.2
 cases e with
 | normal=>obtain ⟨ds,_,hp⟩:=hw;exact ⟨_,_,hp⟩
 | ret=>obtain ⟨ds,_,hp⟩:=hw;exact ⟨_,_,hp⟩
 | exit i=>exact hw.elim
end Go.Proofs.AM
namespace Go.Proofs.AM
open Go
def gW (gs:List (Nat × Gh)) (n:Nat) (c:Code):Code:=gs.foldr (fun p c=>match Nat.beq p.1 n with|true=>.gh p.2 c|false=>c) c
def inJ (js:List Nat) (n:Nat):Bool:=match js with|[]=>false|j::r=>match Nat.beq j n with|true=>true|false=>inJ r n
def insG (gs:List (Nat × Gh)) (js:List Nat):Code->Nat->Code × Nat
 | .seq a b,n=>match insG gs js a (n+1) with|(a',k)=>match insG gs js b k with|(b',m)=>(gW gs n (match inJ js n with|true=>.join a' b'|false=>.seq a' b'),m)
 | .cond c a b,n=>match insG gs js a (n+1) with|(a',k)=>match insG gs js b k with|(b',m)=>(gW gs n (.cond c a' b'),m)
 | .block i b,n=>match insG gs js b (n+1) with|(b',k)=>(gW gs n (.block i b'),k)
 | .loop b,n=>match insG gs js b (n+1) with|(b',k)=>(gW gs n (.loop b'),k)
 | c,n=>(gW gs n c,n+1)
def cB (P:Program) (sh:List Nat) (f:Go.Func):Code:=match funcT P sh f with|some f=>f.body|none=>.skip
def cI (P:Program) (sh:List Nat) (f:Go.Func) (gs:List (Nat × Gh)) (js:List Nat):Code:=(insG gs js (cB P sh f) 0).1
end Go.Proofs.AM
namespace Go.Proofs.AM.Cd
open Go
abbrev Zz:D:=.int .i64 0
abbrev Ee:D:=.str ⟨#[]⟩
abbrev vv (d n:Nat):AOp:=⟨some d,.mov (.tmp n),none⟩
abbrev ll (d n:Nat):AOp:=⟨some d,.load 1 false (.tmp n),none⟩
abbrev ff (d a n:Nat):AOp:=⟨some d,.fAddr a (.tmp n),none⟩
abbrev gg (d:Nat) (k:A) (n:Nat) (b:Bool):AOp:=⟨some d,k,some (n,b)⟩
abbrev gv (d x n:Nat) (b:Bool):AOp:=⟨some d,.mov (.tmp x),some (n,b)⟩
abbrev gl (d x n:Nat) (b:Bool):AOp:=⟨some d,.load 1 false (.tmp x),some (n,b)⟩
abbrev gf (d a x n:Nat) (b:Bool):AOp:=⟨some d,.fAddr a (.tmp x),some (n,b)⟩
abbrev SS (x:List AOp) (b:Code):Code:=.seq (.ops x) b
abbrev QQ (a b:Code):Code:=.seq a b
abbrev CC (n:Nat) (x:List Opd):A:=.call false (.const (.fn n [] [])) x
abbrev KK (d:Nat) (n:Int):AOp:=⟨some d,.mov (.const (.int .i64 n)),none⟩
abbrev II (n:Int):Opd:=.const (.int .i64 n)
abbrev BB (n:Bool):Opd:=.const (.bool n)
end Go.Proofs.AM.Cd
namespace Go.Proofs.AM
abbrev jI (n:Int):Go.Proofs.AM.D:=.int .i64 n
end Go.Proofs.AM
namespace Go.Proofs.AM
open Go Go.RowKit Go.ChangeShapes Go.WideShapes Go.ChangeAt
inductive Lf where
 | bool
 | int (k:IntKind)
 | str
 | sl (sz bytes:Nat) (ag:Bool) (ls:List Lf)
def lfFs (P:Program) (f:TypeId->Option (List Lf)):List Field->Nat->Option (List Lf)
 | [],_=>some []
 | fd::r,off=>if fd.offset=off then (f fd.type).bind fun ls=>if ls.length=P.cellsOf fd.type then (lfFs P f r (off+ls.length)).map fun l=>ls++l else none else none
def lfT (P:Program):Nat->TypeId->Option (List Lf)
 | 0,_=>none
 | n+1,t =>
   match P.underlying t with
   | some .bool=>some [.bool]
   | some (.int k)=>some [.int k]
   | some .string=>some [.str]
   | some (.slice e)=>(aggT P e).bind fun g=>(lfT P n e).bind fun ls=>if 0<ls.length/\ls.length=P.cellsOf e/\(g=false->ls.length=1) then some [.sl ls.length (P.bytesOf e) g ls] else none
   | some (.struct fs)=>(lfFs P (lfT P n) fs.toList 0).bind fun ls=>if ls.length=P.cellsOf t then some ls else none
   | some (.array k e)=>(lfT P n e).bind fun ls=>if ls.length=P.cellsOf e/\P.cellsOf t=k*ls.length then some (List.replicate k ls).flatten else none
   | _=>none
mutual
def FitL:Lf->D->Prop
 | .bool,d=>∃ b,d=.bool b
 | .int k,d=>∃ n,d=.int k n/\(Lit.int k n).wf=true
 | .str,d=>∃ s:Str,d=mkS s/\s.length<=reachBytes
 | .sl sz bytes ag ls,d=>∃ xs:List D,d=.sl sz false xs/\xs.length*bytes<=reachBytes/\∀ x∈xs,∃ cs,mkD ag cs=some x/\FitLs ls cs
def FitLs:List Lf->List D->Prop
 | [],ds=>ds=[]
 | l::r,ds=>∃ d r',ds=d::r'/\FitL l d/\FitLs r r'
end
theorem FitLs.append:∀ {l m:List Lf} {a b:List D},FitLs l a->FitLs m b->FitLs (l++m) (a++b)
 | [],m,a,b,h,k=>by simp only [FitLs] at h;subst h;simpa using k
 | x::l,m,a,b,h,k=>by
   simp only [FitLs] at h
   obtain ⟨d,r,rfl,h1,h2⟩:=h
   simp only [List.cons_append,FitLs]
   exact ⟨d,_,rfl,h1,h2.append k⟩
theorem FitLs.length:∀ {l:List Lf} {a:List D},FitLs l a->a.length=l.length
 | [],a,h=>by simp only [FitLs] at h;subst h;rfl
 | x::l,a,h=>by
   simp only [FitLs] at h
   obtain ⟨d,r,rfl,h1,h2⟩:=h
   simp [h2.length]
section
variable {H:Type} {enc:TypeId × Value->H} {P:Program} {w:World}
def allCx (w:World):Cx:=⟨w,fun _=>True,bx0,noLoc⟩
def Told (w:World) (ls:List Lf) (cs:List Value):Prop :=
 ∃ ds,FitLs ls ds/\RVs (allCx w) ds cs/\∀ u∈cs,u.oneCell'=true
theorem Told.append {l m:List Lf} {a b:List Value} (h:Told w l a) (k:Told w m b):Told w (l++m) (a++b):=by
 obtain ⟨d1,h1,h2,h3⟩:=h
 obtain ⟨d2,k1,k2,k3⟩:=k
 refine ⟨d1++d2,h1.append k1,h2.append k2,fun u hu=>?_⟩
 rcases List.mem_append.1 hu with hu|hu
 ·exact h3 u hu
 ·exact k3 u hu
theorem ydvY {α:Type} (cs:List α) (o a b:Nat):(cs.drop o).take (a+b)=(cs.drop o).take a++(cs.drop (o+a)).take b:=by
 rw [List.take_add,List.drop_drop]
theorem yjlY {base:Nat} {a:Addr} {n:Nat} {l:List Value} (h:w.cells? base a n=some l):l.length=n/\∀ j,j<n->w.cell? (a.add j)=l[j]?:=by
 unfold World.cells? at h
 split at h
 ·exact ⟨by simpa using mapM_some_length h,fun i hi=>mapM_some_get h i i (by simp [hi])⟩
 ·simp at h
theorem y9qY {e:TypeId} {k:Nat}:∀ {l:List (DataW H)} {x:DataW H},x∈l->k∈x.weights P e->k∈DataW.weightsAll P e l
 | [],_,hx,_=>by simp at hx
 | y::r,x,hx,hk=>by
   simp only [DataW.weightsAll,List.mem_append]
   rcases List.mem_cons.1 hx with rfl|hx
   ·exact .inl hk
   ·exact .inr (y9qY hx hk)
theorem ydwY {ag:Bool} {ls:List Lf} {ds:List D} (h:FitLs ls ds) (h1:ag=false->ls.length=1):∃ x,mkD ag ds=some x:=by
 cases ag with
 | true=>exact ⟨_,rfl⟩
 | false =>
   have:=h.length
   rw [h1 rfl] at this
   match ds,this with
   | [d],_=>exact ⟨d,rfl⟩
theorem ydxY:∀ (n:Nat) (t:TypeId) (ls:List Lf),lfT P n t=some ls->∀ (fuel:Nat) (cs:List Value) (d:DataW H) (ps:List MemPlace),
 DataW.trod enc P w 0 (fun _=>true) true fuel t cs=some (d,ps)->(∀ m∈d.weights P t,m<=reachBytes)->Told w ls cs
 | 0,_,_,h,_,_,_,_,_,_=>by simp [lfT] at h
 | n+1,t,ls,h,fuel,cs,d,ps,ht,hw=>by
   have ih:=ydxY n
   unfold lfT at h
   split at h
   ·rename_i hu
    simp only [Option.some.injEq] at h
    subst h
    obtain ⟨b,rfl,_⟩:=DataW.trod_bool hu ht
    exact ⟨[.bool b],by simp [FitLs,FitL],by simp [RVs,RV],by simp [Value.oneCell']⟩
   ·rename_i k hu
    simp only [Option.some.injEq] at h
    subst h
    obtain ⟨m,rfl,_,hwf⟩:=DataW.trod_int hu ht
    exact ⟨[.int k m],by simp [FitLs,FitL,hwf],by simp [RVs,RV],by simp [Value.oneCell']⟩
   ·rename_i hu
    simp only [Option.some.injEq] at h
    subst h
    obtain ⟨s,rfl,hx,hs⟩:=DataW.trod_string hu ht
    simp only [Prod.mk.injEq] at hx
    obtain ⟨rfl,rfl⟩:=hx
    refine ⟨[.str s],?_,by simp [RVs,RV],by simp [Value.oneCell']⟩
    simp only [FitLs,FitL]
    exact ⟨_,[],rfl,⟨s.data.toList,rfl,hw _ (by simp [DataW.weights])⟩,rfl⟩
   ·rename_i e hu
    simp only [Option.bind_eq_some_iff] at h
    obtain ⟨g,hg,le,hle,h⟩:=h
    split at h
    ·rename_i hc
     obtain ⟨h0,hsz,hag⟩:=hc
     simp only [Option.some.injEq] at h
     subst h
     rcases DataW.trod_slice hu ht with ⟨rfl,_⟩|⟨a,len,cap,elems,rest,m,_,rfl,hx,_,hlc,_,hlen,hel,_,_⟩
     ·refine ⟨[.sl le.length false []],?_,?_,by simp [Value.oneCell']⟩
      ·simp only [FitLs,FitL]
       exact ⟨_,[],rfl,⟨[],rfl,by simp,by simp⟩,rfl⟩
      ·simp only [RVs,RV,RSl]
       exact ⟨_,[],rfl,⟨none,0,rfl,by simp,by simp,by simp,trivial⟩,rfl⟩
     ·simp only [Prod.mk.injEq] at hx
      obtain ⟨rfl,rfl⟩:=hx
      have helem:∀ i,i<len->∃ ccs,w.cells? 0 (a.add (i*P.cellsOf e)) (P.cellsOf e)=some ccs/\Told w le ccs:=by
       intro i hi
       have h1:=hel i hi
       rw [List.getElem?_eq_getElem (by omega)] at h1
       simp only [Option.bind_eq_some_iff] at h1
       obtain ⟨ccs,h2,h3⟩:=h1
       refine ⟨ccs,h2,ih e le hle m ccs _ _ h3 fun k hk=>hw k ?_⟩
       simp only [DataW.weights,hu]
       refine List.mem_cons_of_mem _ (List.mem_append_left _ ?_)
       exact y9qY (List.mem_map.2 ⟨elems[i],List.getElem_mem _,rfl⟩) hk
      have hxs:∀ k,k<=len->∃ xs:List D,xs.length=len-k/\RSl (allCx w) le.length (some a) k xs/\∀ x∈xs,∃ cs,mkD g cs=some x/\FitLs le cs:=by
       intro k hk
       induction hj:len-k generalizing k with
       | zero=>exact ⟨[],rfl,by simp [RSl],by simp⟩
       | succ j ihj =>
         obtain ⟨xs,e1,e2,e3⟩:=ihj (k+1) (by omega) (by omega)
         obtain ⟨ccs,c1,ds,f1,f2,f3⟩:=helem k (by omega)
         obtain ⟨c2,c3⟩:=yjlY c1
         obtain ⟨x,hx⟩:=ydwY f1 hag
         obtain ⟨hv,hag2⟩:=y6oY f2 f3 hx
         refine ⟨x::xs,by simp [e1],?_,fun y hy=>?_⟩
         ·simp only [RSl]
          have hcc:(if g then Value.agg ccs.toArray else ccs.headD .nilIface).cells.toList=ccs:=by
           cases g with
           | true=>simp [Value.cells]
           | false =>
             have h1:=hag2 rfl
             have h2:(ccs.headD .nilIface).oneCell'=true:=f3 _ (by rw [h1];simp)
             simp only [Bool.false_eq_true,if_false]
             rw [y3vY h2]
             exact h1.symm
          have hcs:(if g then Value.agg ccs.toArray else ccs.headD .nilIface).cells.size=le.length:=by
           rw [←Array.length_toList,hcc,c2,hsz]
          refine ⟨⟨a,_,rfl,trivial,?_,hv,hcs,by rw [hcc];exact f3,fun j hj=>?_⟩,e2⟩
          ·have:=c3 0 (by omega)
           rw [List.getElem?_eq_getElem (by omega)] at this
           have:=World.block_lt_of_cell? _ _ this
           show a.block<w.heap.size
           simpa [y2yY] using this
          ·have:=c3 j (by omega)
           rw [y5iY,←hsz] at this
           rw [show (allCx w).w=w from rfl,this,←Array.getElem?_toList,hcc]
         ·rcases List.mem_cons.1 hy with rfl|hy
          ·exact ⟨ds,hx,f1⟩
          ·exact e3 y hy
      obtain ⟨xs,e1,e2,e3⟩:=hxs 0 (Nat.zero_le _)
      refine ⟨[.sl le.length false xs],?_,?_,by simp [Value.oneCell']⟩
      ·simp only [FitLs,FitL]
       refine ⟨_,[],rfl,⟨xs,rfl,?_,e3⟩,rfl⟩
       have:=hw ((elems.map (·.1)).length+(rest.map (·.1)).length |> (·*P.bytesOf e)) (by simp only [DataW.weights,hu];exact List.mem_cons_self ..)
       simp only [List.length_map] at this
       have h2:xs.length*P.bytesOf e<=(elems.length+rest.length)*P.bytesOf e:=Nat.mul_le_mul_right _ (by omega)
       omega
      ·simp only [RVs,RV]
       refine ⟨_,[],rfl,⟨some a,cap,by rw [e1,Nat.sub_zero],by omega,by simp,by simp,e2⟩,rfl⟩
    ·simp at h
   ·rename_i fs hu
    simp only [Option.bind_eq_some_iff] at h
    obtain ⟨l,hl,h⟩:=h
    split at h
    ·rename_i hlen
     simp only [Option.some.injEq] at h
     subst h
     obtain ⟨xs,m,_,hx,hcl,hxl,hf⟩:=DataW.trod_struct hu ht
     simp only [Prod.mk.injEq] at hx
     obtain ⟨rfl,rfl⟩:=hx
     have key:∀ (fl:List Field) (i0 off:Nat) (l:List Lf),(∀ j f,fl[j]?=some f->fs[i0+j]?=some f)->lfFs P (lfT P n) fl off=some l->Told w l ((cs.drop off).take l.length):=by
      intro fl
      induction fl with
      | nil =>
        intro i0 off l _ hl
        simp only [lfFs,Option.some.injEq] at hl
        subst hl
        exact ⟨[],by simp [FitLs],by simp [RVs],by simp⟩
      | cons fd r ihr =>
        intro i0 off l hfl hl
        simp only [lfFs] at hl
        split at hl
        ·rename_i hoff
         simp only [Option.bind_eq_some_iff] at hl
         obtain ⟨l1,hl1,hl⟩:=hl
         split at hl
         ·rename_i hsz
          simp only [Option.map_eq_some_iff] at hl
          obtain ⟨l2,hl2,rfl⟩:=hl
          have h0:fs[i0]?=some fd:=by simpa using hfl 0 fd rfl
          have h1:=hf i0 fd h0
          have hi0:i0<xs.length:=by rw [hxl];exact (Array.getElem?_eq_some_iff.1 h0).1
          rw [List.getElem?_eq_getElem hi0] at h1
          rw [List.length_append,ydvY]
          refine Told.append ?_ (ihr (i0+1) (off+l1.length) l2 (fun j f hj=>by have:=hfl (j+1) f hj;rw [←this];congr 1;omega) hl2)
          rw [hoff,←hsz] at h1
          refine ih fd.type l1 hl1 m _ _ _ h1 fun k hk=>hw k ?_
          simp only [DataW.weights,hu]
          exact DataW.weights_mem_each (j:=i0) (t:=fd.type) (d:=xs[i0].1) (by simp [h0]) (by simp [List.getElem?_map,List.getElem?_eq_getElem hi0]) k hk
         ·simp at hl
        ·simp at hl
     have:=key fs.toList 0 0 l (fun j f hj=>by simpa using hj) hl
     rwa [List.drop_zero,List.take_of_length_le (by omega)] at this
    ·simp at h
   ·rename_i k e hu
    simp only [Option.bind_eq_some_iff] at h
    obtain ⟨le,hle,h⟩:=h
    split at h
    ·rename_i hc
     obtain ⟨hsz,hct⟩:=hc
     simp only [Option.some.injEq] at h
     subst h
     obtain ⟨xs,m,_,hx,hcl,hxl,hf⟩:=DataW.trod_array hu ht
     simp only [Prod.mk.injEq] at hx
     obtain ⟨rfl,rfl⟩:=hx
     have key:∀ j,j<=k->Told w (List.replicate j le).flatten (cs.take (j*le.length)):=by
      intro j
      induction j with
      | zero=>intro _;exact ⟨[],by simp [FitLs],by simp [RVs],by simp⟩
      | succ j ihj =>
        intro hj
        have h1:=hf j (by omega)
        rw [List.getElem?_eq_getElem (by omega)] at h1
        rw [List.replicate_succ',List.flatten_append,Nat.add_mul,Nat.one_mul]
        have:=ydvY cs 0 (j*le.length) le.length
        simp only [List.drop_zero,Nat.zero_add] at this
        rw [this]
        refine Told.append (ihj (by omega)) ?_
        rw [←hsz] at h1
        simp only [List.flatten_cons,List.flatten_nil,List.append_nil]
        refine ih e le hle m _ _ _ h1 fun q hq=>hw q ?_
        simp only [DataW.weights,hu]
        exact y9qY (List.mem_map.2 ⟨xs[j],List.getElem_mem _,rfl⟩) hq
     have:=key k (Nat.le_refl _)
     rwa [List.take_of_length_le (by omega)] at this
    ·simp at h
   ·simp at h
def ArgsFit (P:Program):List TypeId->List D->Prop
 | [],xs=>xs=[]
 | t::ts,xs=>∃ x r,xs=x::r/\(∃ ls g cs,lfT P 20 t=some ls/\aggT P t=some g/\mkD g cs=some x/\FitLs ls cs)/\ArgsFit P ts r
def y9rY (P:Program) (ts:List TypeId):Bool:=ts.all fun t =>
 match lfT P 20 t,aggT P t with
 | some ls,some g=>g||ls.length == 1
 | _,_=>false
theorem yjmY {W:World} {base:Nat} {t:TypeId} {v:Value} {g:Bool} (hg:aggT P t=some g) (h:Value.okWide P W .any base t v) (hl:∃ n ls,lfT P n t=some ls):if g then ∃ cs,v=.agg cs else v.oneCell'=true:=by
 unfold Value.okWide at h
 unfold aggT at hg
 split at hg
 ·rename_i hu
  simp only [Option.some.injEq] at hg
  subst hg
  rw [hu] at h
  simp only at h
  obtain ⟨cs,h,_⟩:=h
  simpa using ⟨cs,h⟩
 ·rename_i hu
  simp only [Option.some.injEq] at hg
  subst hg
  rw [hu] at h
  simp only at h
  obtain ⟨cs,h,_⟩:=h
  simpa using ⟨cs,h⟩
 ·rename_i dd hns hna hu
  simp only [Option.some.injEq] at hg
  subst hg
  obtain ⟨n,ls,hl⟩:=hl
  cases n with
  | zero=>simp [lfT] at hl
  | succ n =>
    unfold lfT at hl
    simp only [Bool.false_eq_true,if_false]
    have fin:∀ {dsc:TypeDesc},P.underlying t=some dsc->dsc=.bool∨(∃ k,dsc=.int k)∨dsc=.string∨(∃ e,dsc=.slice e)->v.oneCell'=true:=by
     intro dsc hu hd
     rw [hu] at h
     rcases hd with rfl|⟨k,rfl⟩|rfl|⟨e,rfl⟩<;>simp only [Cell.okWide,Cell.ok,hu] at h<;>cases v<;>first|rfl|(simp at h;done)
    split at hl
    ·rename_i hu2;exact fin hu2 (.inl rfl)
    ·rename_i k hu2;exact fin hu2 (.inr (.inl ⟨k,rfl⟩))
    ·rename_i hu2;exact fin hu2 (.inr (.inr (.inl rfl)))
    ·rename_i e hu2;exact fin hu2 (.inr (.inr (.inr ⟨e,rfl⟩)))
    ·rename_i fs hu2;exact (hns fs (by have:=hu.symm.trans hu2;simpa using this)).elim
    ·rename_i k e hu2;exact (hna k e (by have:=hu.symm.trans hu2;simpa using this)).elim
    ·simp at hl
 ·simp at hg
theorem ydyY {W:World} {base:Nat}:∀ {ts:List TypeId} {vs:List Value} {ds:List (DataW H)} {ps:List MemPlace},y9rY P ts=true->DataW.TrodAll enc P W 0 (fun _=>true) true ts vs ds ps ->
 (∀ (j:Nat) t v,ts[j]?=some t->vs[j]?=some v->Value.okWide P W .any base t v)->(∀ m∈DataW.weightsEach P ts ds,m<=reachBytes)->∃ xs,ArgsFit P ts xs/\RVs (allCx W) xs vs
 | [],[],[],ps,_,_,_,_=>⟨[],rfl,rfl⟩
 | [],_::_,_,_,_,h,_,_=>by simp [DataW.TrodAll] at h
 | [],[],_::_,_,_,h,_,_=>by simp [DataW.TrodAll] at h
 | _::_,[],_,_,_,h,_,_=>by simp [DataW.TrodAll] at h
 | _::_,_::_,[],_,_,h,_,_=>by simp [DataW.TrodAll] at h
 | t::ts,v::vs,d::ds,ps,hk,h,hok,hw=>by
   simp only [DataW.TrodAll] at h
   obtain ⟨p,q,⟨fuel,h1⟩,h2,rfl⟩:=h
   simp only [y9rY,List.all_cons,Bool.and_eq_true] at hk
   obtain ⟨hk1,hk2⟩:=hk
   obtain ⟨xs,h3,h4⟩:=ydyY (ts:=ts) hk2 h2 (fun j t v hj hv=>hok (j+1) t v hj hv) (fun m hm=>hw m (by simp [DataW.weightsEach,hm]))
   split at hk1
   ·rename_i ls g hls hg
    obtain ⟨cs,f1,f2,f3⟩:=ydxY 20 t ls hls fuel _ d p h1 fun m hm=>hw m (by simp [DataW.weightsEach,hm])
    have hform:=yjmY hg (hok 0 t v rfl rfl) ⟨20,ls,hls⟩
    have hag:g=false->ls.length=1:=by
     intro e;subst e;simpa using hk1
    obtain ⟨x,hx⟩:=ydwY f1 hag
    obtain ⟨hv,_⟩:=y6oY f2 f3 hx
    refine ⟨x::xs,⟨x,xs,rfl,⟨ls,g,cs,hls,hg,hx,f1⟩,h3⟩,?_⟩
    simp only [RVs]
    refine ⟨v,vs,rfl,?_,h4⟩
    cases g with
    | true =>
      simp only [if_true] at hform hv
      obtain ⟨ws,rfl⟩:=hform
      simpa [Value.cells] using hv
    | false =>
      simp only [Bool.false_eq_true,if_false] at hform hv
      rw [y3vY hform] at hv
      simpa using hv
   ·simp at hk1
theorem ydzY (hl:laidOutB P=true) {W W':World} (hb:Below W.heap.size W W'):∀ {ts:List TypeId} {vs:List Value} {ds:List (DataW H)} {ps:List MemPlace},(ts.all fun t=>P.readableRec t&&decide (t<P.types.size))=true ->
 DataW.TrodAll enc P W 0 (fun _=>true) true ts vs ds ps->(∀ x∈ps,x.block<W.heap.size)->DataW.TrodAll enc P W' 0 (fun b=>decide (b<W.heap.size)) true ts vs ds ps
 | [],[],[],ps,_,h,_=>h
 | [],_::_,_,_,_,h,_=>by simp [DataW.TrodAll] at h
 | [],[],_::_,_,_,h,_=>by simp [DataW.TrodAll] at h
 | _::_,[],_,_,_,h,_=>by simp [DataW.TrodAll] at h
 | _::_,_::_,[],_,_,h,_=>by simp [DataW.TrodAll] at h
 | t::ts,v::vs,d::ds,ps,hk,h,hlt=>by
   simp only [DataW.TrodAll] at h ⊢
   obtain ⟨p,q,h1,h2,rfl⟩:=h
   simp only [List.all_cons,Bool.and_eq_true,decide_eq_true_eq] at hk
   exact ⟨p,q,Below.trod hl hk.1.1 hk.1.2 h1 hb (fun x hx=>hlt x (by simp [hx])),ydzY hl hb (by simpa using hk.2) h2 (fun x hx=>hlt x (by simp [hx])),rfl⟩
theorem law_contract {G:World->Prop} {f:FuncId} {fn:Go.Func} {s:ChangeSpec} {conds:List PathCond} {X:World->Array Value->Prop} {bt:TypeId}
 (hl:laidOutB P=true) (hk:y9rY P fn.params.toList=true) (hr:(fn.params.toList.all fun t=>P.readableRec t&&decide (t<P.types.size))=true)
 (hres:fn.resultTypes=#[bt]) (hbt:P.underlying bt=some .bool) (hvars:s.vars=[])
 (hs:∀ ds:List (DataW H),ds.length=fn.params.size->(s.fn H ds).results=[.lit (.bool true)]/\(s.fn H ds).args=ds/\(s.fn H ds).vars=[])
 (hX:∀ W args,X W args->G W)
 (hcall:∀ xs,ArgsFit P fn.params.toList xs->(PR P G).v f xs (.bool true)) :
 ∀ (W:World) (base:Nat) (args:Array Value) (ds gs:List (DataW H)) (before:List MemPlace),
   (∀ (j:Nat) t v,fn.params[j]?=some t->args[j]?=some v->Value.okWide P W .any base t v) ->
   DataW.Whole enc P fn.params.toList s.vars false W args.toList ds gs before ->
   conds.all (PathCond.test P ⟨fn.params.toList,ds,s.plain.varTypes P,gs⟩)=true ->
   (DataW.weightsEach P (fn.params.toList++s.plain.varTypes P) (ds++gs)).all (·<=reachBytes)=true->X W args ->
   Calls P f args W fun e W'=>∃ v,e=.returned v/\s.post enc P fn false true false false W args v W':=by
 intro W base args ds gs before hok hW _ hsz hXW
 have hW':=hW
 obtain ⟨p,q,hA,hV,rfl,hfz,hnd⟩:=hW
 rw [hvars] at hV
 obtain ⟨rfl,rfl⟩:=trodVars_none hV
 simp only [List.append_nil] at hsz hW' ⊢
 have hlen:ds.length=fn.params.size:=by
  have:∀ {ts:List TypeId} {vs:List Value} {ds:List (DataW H)} {ps:List MemPlace},DataW.TrodAll enc P W 0 (fun _=>true) true ts vs ds ps->ds.length=ts.length:=by
   intro ts
   induction ts with
   | nil=>intro vs ds ps h;cases vs<;>cases ds<;>simp [DataW.TrodAll] at h ⊢
   | cons t ts ih =>
     intro vs ds ps h
     cases vs<;>cases ds<;>simp only [DataW.TrodAll] at h
     obtain ⟨_,_,_,h,_⟩:=h
     simp [ih h]
  have:=this hA
  simpa using this
 obtain ⟨r1,r2,r3⟩:=hs ds hlen
 have hvt:s.plain.varTypes P=[]:=by simp [DataSpec.varTypes,ChangeSpec.plain,hvars]
 rw [hvt,List.append_nil] at hsz
 obtain ⟨xs,h1,h2⟩:=ydyY (base:=base) hk hA (fun j t v hj hv=>hok j t v (by simpa using hj) (by simpa using hv)) (by simpa using hsz)
 obtain ⟨_,_,hspec⟩:=hcall xs h1
 refine (hspec W (fun _=>True) args (hX _ _ hXW) h2).mono fun e W' hpost=>?_
 obtain ⟨v,rfl,hb,hv⟩:=hpost
 simp only [RV] at hv
 subst hv
 have hlt:∀ x∈p,x.block<W.heap.size:=fun x hx=>hW'.lt x hx
 refine ⟨_,rfl,ds,[],p,[],p,[],hW',?_,?_,?_,hb.frame _,fun h=>by cases h⟩
 ·rw [List.append_nil,r1,hres]
  exact trodAll_mk1 (shut_bool hbt _)
 ·rw [List.append_nil,r2]
  exact ydzY hl hb hr hA hlt
 ·rw [List.append_nil,r3,hvars]
  rfl
end
end Go.Proofs.AM
