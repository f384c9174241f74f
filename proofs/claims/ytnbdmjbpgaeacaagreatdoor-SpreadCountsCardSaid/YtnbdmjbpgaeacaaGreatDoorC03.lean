/- Part 3 of the lemmas: AMX, AMXb, AMXs, AMXt. -/
import Derived.Test.YtnbdmjbpgaeacaaGreatDoorC01
import Derived.Test.YtnbdmjbpgaeacaaGreatDoorC02
set_option maxRecDepth 100000
set_option maxHeartbeats 8000000
set_option linter.all false
namespace Go.Proofs.AM
open Go
structure DS where
 tm:List (Nat × D)
 bx:List (Nat × Box)
 fr:Bool
def find {α:Type}:List (Nat × α)->Nat->Option α
 | [],_=>none
 | (j,a)::r,i=>match Nat.beq i j with|true=>some a|false=>find r i
def putL {α:Type}:List (Nat × α)->Nat->α->List (Nat × α)
 | [],i,a=>[(i,a)]
 | (j,b)::r,i,a=>match Nat.beq i j with|true=>(i,a)::r|false=>(j,b)::putL r i a
theorem y5sY {α:Type} (l:List (Nat × α)) (i:Nat) (a:α) (j:Nat):find (putL l i a) j=if j=i then some a else find l j:=by
 induction l with
 | nil =>
   simp only [putL,find]
   cases h:Nat.beq j i with
   | true=>rw [Nat.beq_eq] at h;simp [h]
   | false =>
     have:j≠i:=fun e=>by subst e;simp at h
     simp [this]
 | cons p r ih =>
   obtain ⟨k,b⟩:=p
   simp only [putL]
   cases h:Nat.beq i k with
   | true =>
     rw [Nat.beq_eq] at h
     subst h
     simp only [find]
     cases h2:Nat.beq j i with
     | true=>rw [Nat.beq_eq] at h2;simp [h2]
     | false =>
       have:j≠i:=fun e=>by subst e;simp at h2
       simp [this]
   | false =>
     simp only [find,ih]
     cases h2:Nat.beq j k with
     | true =>
       rw [Nat.beq_eq] at h2
       subst h2
       have:j≠i:=fun e=>by subst e;simp at h
       simp [this]
     | false=>rfl
structure SatF (B:Nat) (bE:Nat->Box) (ks:Nat->Prop) (ds:DS) (s:St):Prop where
 tm:∀ t d,find ds.tm t=some d->s.tm t=d
 bx:∀ k b,find ds.bx k=some b->s.bx k=b
 fr:ds.fr=true->∀ k,find ds.bx k=none->(s.bx k).gen=0/\(s.bx k).st=.dead
 fm:∀ k,k<B->¬ks k->s.bx k=bE k
 sub:∀ k b,k<B->find ds.bx k=some b->ks k
section
variable {B:Nat} {bE:Nat->Box} {ks:Nat->Prop}
theorem SatF.put {ds:DS} {s:St} (h:SatF B bE ks ds s) (t:Nat) (d:D):SatF B bE ks ⟨putL ds.tm t d,ds.bx,ds.fr⟩ ⟨upd s.tm t d,s.bx⟩ where
 tm:=fun t' d' h'=>by
  rw [y5sY] at h'
  show upd s.tm t d t'=d'
  unfold upd
  split at h'
  ·rename_i e;rw [if_pos e];simpa using h'
  ·rename_i e;rw [if_neg e];exact h.tm t' d' h'
 bx:=h.bx
 fr:=h.fr
 fm:=h.fm
 sub:=h.sub
theorem SatF.box {ds:DS} {s:St} (h:SatF B bE ks ds s) (k:Nat) (b:Box) (hk:B<=k∨ks k):SatF B bE ks ⟨ds.tm,putL ds.bx k b,ds.fr⟩ ⟨s.tm,upd s.bx k b⟩ where
 tm:=h.tm
 bx:=fun k' b' h'=>by
  rw [y5sY] at h'
  show upd s.bx k b k'=b'
  unfold upd
  split at h'
  ·rename_i e;rw [if_pos e];simpa using h'
  ·rename_i e;rw [if_neg e];exact h.bx k' b' h'
 fr:=fun hf k' hk=>by
  rw [y5sY] at hk
  show (upd s.bx k b k').gen=0/\(upd s.bx k b k').st=.dead
  unfold upd
  split at hk
  ·simp at hk
  ·rename_i e;rw [if_neg e];exact h.fr hf k' hk
 fm:=fun k' h1 h2=>by
  show upd s.bx k b k'=bE k'
  unfold upd
  split
  ·rename_i e
   subst e
   rcases hk with hk|hk
   ·omega
   ·exact absurd hk h2
  ·exact h.fm k' h1 h2
 sub:=fun k' b' h1 h'=>by
  rw [y5sY] at h'
  split at h'
  ·rename_i e
   subst e
   rcases hk with hk|hk
   ·omega
   ·exact hk
  ·exact h.sub k' b' h1 h'
theorem SatF.has {ds:DS} {s:St} (h:SatF B bE ks ds s) {k:Nat} {b:Box} (hf:find ds.bx k=some b):B<=k∨ks k:=by
 rcases Nat.lt_or_ge k B with hlt|hge
 ·exact .inr (h.sub k b hlt hf)
 ·exact .inl hge
end
theorem SatF.known {B:Nat} {bE:Nat->Box} {ks:Nat->Prop} {ds:DS} {s:St} (h:SatF B bE ks ds s) {t:Nat} {d:D} (e:s.tm t=d):SatF B bE ks ⟨putL ds.tm t d,ds.bx,ds.fr⟩ s where
 tm:=fun t' d' h'=>by
  rw [y5sY] at h'
  split at h'
  ·rename_i e2;subst e2;simp only [Option.some.injEq] at h';rw [e,h']
  ·exact h.tm t' d' h'
 bx:=h.bx
 fr:=h.fr
 fm:=h.fm
 sub:=h.sub
def leT (l:List (Nat × D)):List (Nat × D)->Prop
 | []=>True
 | (t,d)::r=>find l t=some d/\leT l r
def leB (l:List (Nat × Box)):List (Nat × Box)->Prop
 | []=>True
 | (t,d)::r=>find l t=some d/\leB l r
def DS.le (a b:DS):Prop:=leT a.tm b.tm/\leB a.bx b.bx/\b.fr=false
theorem yboY {l:List (Nat × D)}:∀ {r:List (Nat × D)},leT l r->∀ t d,find r t=some d->find l t=some d
 | [],_,t,d,h=>by simp [find] at h
 | (i,x)::r,hl,t,d,h=>by
   simp only [leT] at hl
   simp only [find] at h
   cases e:Nat.beq t i with
   | true=>rw [e] at h;rw [Nat.beq_eq] at e;subst e;simp only [Option.some.injEq] at h;subst h;exact hl.1
   | false=>rw [e] at h;exact yboY hl.2 t d h
theorem y5tY {l:List (Nat × Box)}:∀ {r:List (Nat × Box)},leB l r->∀ t d,find r t=some d->find l t=some d
 | [],_,t,d,h=>by simp [find] at h
 | (i,x)::r,hl,t,d,h=>by
   simp only [leB] at hl
   simp only [find] at h
   cases e:Nat.beq t i with
   | true=>rw [e] at h;rw [Nat.beq_eq] at e;subst e;simp only [Option.some.injEq] at h;subst h;exact hl.1
   | false=>rw [e] at h;exact y5tY hl.2 t d h
theorem SatF.le {B:Nat} {bE:Nat->Box} {ks:Nat->Prop} {a b:DS} {s:St} (h:SatF B bE ks a s) (hl:a.le b):SatF B bE ks b s :=
 ⟨fun t d hd=>h.tm t d (yboY hl.1 t d hd),fun t d hd=>h.bx t d (y5tY hl.2.1 t d hd),fun hf=>by rw [hl.2.2] at hf;simp at hf,h.fm,fun k d hk hd=>h.sub k d hk (y5tY hl.2.1 k d hd)⟩
inductive OK where
 | iop|icmp|scmp|cat|beq|bnot|neg|wrap|nat|len|slen|app|subS|subL|u8|bytes|set|mx|eqc
@[reducible] def OK.ty:OK->Type
  | .iop=>BinOp->IntKind->Int->Int->Int
  | .icmp=>BinOp->Int->Int->Bool
  | .scmp=>BinOp->ByteArray->ByteArray->Bool
  | .cat=>ByteArray->ByteArray->ByteArray
  | .beq=>Bool->Bool->Bool->Bool
  | .bnot=>Bool->Bool
  | .neg=>UnOp->IntKind->Int->Int
  | .wrap=>IntKind->Int->Int
  | .nat=>Int->Nat
  | .len=>List D->Int
  | .slen=>ByteArray->Int
  | .app=>List D->List D->List D
  | .subS=>ByteArray->Int->Int->ByteArray
  | .subL=>List D->Int->Int->List D
  | .u8=>UInt8->Int
  | .bytes=>ByteArray->List D
  | .set=>List D->Nat->D->List D
  | .mx=>Bool->Int->Int->Int
  | .eqc=>Bool->List (Nat × EqT)->List D->List D->Bool
abbrev Ops:=(k:OK)->k.ty
def y2mY:Option D->Int
 | some (.int _ n)=>n
 | _=>0
def y1yY:Option D->Bool
 | some (.bool b)=>b
 | _=>false
def Ops.std:Ops
 | .iop=>fun op k a b=>y2mY (binD op (.int k a) (.int k b))
 | .icmp=>fun op a b=>y1yY (binD op (.int .i64 a) (.int .i64 b))
 | .scmp=>fun op a b=>y1yY (binD op (.str a) (.str b))
 | .cat=>fun a b=>a++b
 | .beq=>fun neg a b=>(a == b) != neg
 | .bnot=>fun a=>!a
 | .neg=>fun op k a=>y2mY (unD op (.int k a))
 | .wrap=>fun k a=>k.wrap a
 | .nat=>fun n=>n.toNat
 | .len=>fun l=>l.length
 | .slen=>fun s=>s.size
 | .app=>(·++·)
 | .subS=>fun s a b=>s.extract a.toNat b.toNat
 | .subL=>fun l a b=>(l.take b.toNat).drop a.toNat
 | .u8=>fun b=>b.toNat
 | .bytes=>y5gY
 | .set=>fun l i d=>l.set i d
 | .mx=>fun m a b=>if m then (if b > a then b else a) else (if b<a then b else a)
 | .eqc=>fun neg ts xs ys=>((ylY ts xs ys).getD false) != neg
section
variable (O:Ops) (V:Ans)
def getX (s:DS) (x:Opd) (K:D->Prop):Prop :=
 match x with
 | .tmp t=>match find s.tm t with|some d=>K d|none=>False
 | .const d=>K d
def getsX (s:DS):List Opd->(List D->Prop)->Prop
 | [],K=>K []
 | x::r,K=>getX s x fun d=>getsX s r fun ds=>K (d::ds)
def takeX:List D->Nat->(List D->Prop)->Prop
 | _,0,K=>K []
 | [],_+1,_=>False
 | x::r,n+1,K=>takeX r n fun ys=>K (x::ys)
def dropX:List D->Nat->(List D->Prop)->Prop
 | l,0,K=>K l
 | [],_+1,_=>False
 | _::r,n+1,K=>dropX r n K
def mkX (ag:Bool) (cs:List D) (K:D->Prop):Prop :=
 match ag with
 | true=>K (.agg cs)
 | false=>match cs with|[c]=>K c|_=>False
def partX (cs:List D) (off n:Nat) (ag:Bool) (K:D->Prop):Prop:=dropX cs off fun l=>takeX l n fun l=>mkX ag l K
def overX:List D->Nat->List D->(List D->Prop)->Prop
 | l,0,[],K=>K l
 | [],0,_::_,_=>False
 | _::r,0,v::vs,K=>overX r 0 vs fun l=>K (v::l)
 | [],_+1,_,_=>False
 | x::r,o+1,vs,K=>overX r o vs fun l=>K (x::l)
def atX (xs:List D) (i:Int) (x:D):Prop:=0<=i/\xs[i.toNat]?=some x
structure CleanL (xs:List D):Prop where
 c:closedL xs=true
 s:stripL xs=xs
structure Clean (x:D):Prop where
 c:closed x=true
 s:strip x=x
structure ClosedX (xs:List D):Prop where
 c:closedL xs=true
structure LeX (a b:Int):Prop where
 h:a<=b
structure LtX (a b:Int):Prop where
 h:a<b
structure Fit2 (a b:Int):Prop where
 h:a+b<=9223372036854775807
structure FitA (a b:Int) (n:Nat):Prop where
 h:(a+b)*n<=140737488355328
structure FitB (a:Int) (n:Nat):Prop where
 h:a*n<=140737488355328
def y1sY (s:DS) (k g:Nat) (K:BK->List D->Prop):Prop :=
 match find s.bx k with
 | some b=>g=b.gen/\(match b.st with|.dead=>False|_=>K b.kd b.cs)
 | none=>False
def rwX (s:DS) (k g:Nat) (K:BK->List D->Prop):Prop :=
 match find s.bx k with
 | some b=>g=b.gen/\(match b.st with|.rw=>K b.kd b.cs|_=>False)
 | none=>False
def genX (s:DS) (k g:Nat) (K:Prop):Prop :=
 match find s.bx k with
 | some b=>g=b.gen/\(match b.st with|.dead=>False|_=>K)
 | none=>False
def varX (kd:BK) (K:Prop):Prop:=match kd with|.var=>K|_=>False
def arrX (kd:BK) (K:Nat->Nat->Prop):Prop:=match kd with|.arr sz e=>K sz e|_=>False
def mapX (kd:BK) (cs:List D) (K:Int->List D->Prop):Prop:=match kd,cs with|.map,.int .i64 c::es=>K c es|_,_=>False
def itX (kd:BK) (cs:List D) (K:D->Int->List D->Prop):Prop:=match kd,cs with|.iter,m::.int .i64 c::ks=>K m c ks|_,_=>False
def y43Y (s:DS) (d:D) (K:Nat->List D->Prop):Prop :=
 match d with
 | .sl sz _ xs=>K sz xs
 | .own k g=>y1sY s k g fun kd cs=>arrX kd fun sz _=>K sz cs
 | _=>False
def entsX (s:DS) (d:D) (K:List D->Prop):Prop :=
 match d with
 | .mapv es=>K es
 | .nilm=>K []
 | .mapr k g=>y1sY s k g fun kd cs=>mapX kd cs fun _ es=>K es
 | _=>False
def loadX (s:DS) (n:Nat) (ag:Bool) (p:D) (K:D->Prop):Prop :=
 match p with
 | .ptr k g off=>y1sY s k g fun kd cs=>varX kd (partX cs off n ag K)
 | .eptr k g i off=>y1sY s k g fun kd cs=>arrX kd fun _ _=>∃ x,cs[i]?=some x/\partX x.cells off n ag K
 | .vptr x off=>partX x.cells off n ag K
 | _=>False
def y28Y (f:D->(D->Prop)->Prop):List D->(List D->Prop)->Prop
 | [],K=>K []
 | x::r,K=>f x fun x'=>y28Y f r fun r'=>K (x'::r')
def tellX (s:DS):Nat->D->(D->Prop)->Prop
 | 0,_,_=>False
 | n+1,d,K =>
   match d with
   | .int k a=>K (.int k a)
   | .bool b=>K (.bool b)
   | .str t=>K (.str t)
   | .nilp=>K .nilp
   | .nilf=>K .nilf
   | .nili=>K .nili
   | .nilm=>K .nilm
   | .opq=>K .opq
   | .sl sz _ xs=>CleanL xs/\K (.sl sz false xs)
   | .mapv es=>CleanL es/\K (.mapv es)
   | .own k g=>y1sY s k g fun kd cs=>arrX kd fun sz _=>CleanL cs/\K (.sl sz false cs)
   | .mapr k g=>y1sY s k g fun kd cs=>mapX kd cs fun _ es=>CleanL es/\K (.mapv es)
   | .ptr k g off=>y1sY s k g fun kd cs=>varX kd (y28Y (tellX s n) cs fun cs'=>K (.vptr (.agg cs') off))
   | .agg cs=>y28Y (tellX s n) cs fun cs'=>K (.agg cs')
   | .tup cs=>y28Y (tellX s n) cs fun cs'=>K (.tup cs')
   | .fn f a b=>y28Y (tellX s n) a fun a'=>y28Y (tellX s n) b fun b'=>K (.fn f a' b')
   | .iface t x=>tellX s n x fun x'=>K (.iface t x')
   | .vptr x off=>Clean x/\K (.vptr x off)
   | _=>False
def y1iY (f:D->List Nat):List D->List Nat
 | []=>[]
 | x::r=>f x++y1iY f r
def refsX (s:DS):Nat->D->List Nat
 | 0,_=>[]
 | n+1,d =>
   match d with
   | .own k _|.mapr k _=>[k]
   | .ptr k _ _=>k::(match find s.bx k with|some b=>y1iY (refsX s n) b.cs|none=>[])
   | .agg cs|.tup cs=>y1iY (refsX s n) cs
   | .fn _ a b=>y1iY (refsX s n) a++y1iY (refsX s n) b
   | .iface _ x=>refsX s n x
   | _=>[]
def memX (k:Nat):List Nat->Bool
 | []=>false
 | j::r=>match Nat.beq k j with|true=>true|false=>memX k r
def y44Y (l:List Nat):List (Nat × Box)->List (Nat × Box)
 | []=>[]
 | (k,b)::r=>(k,match memX k l with|true=>(match b.st with|.rw=>⟨b.gen,.ro,b.kd,b.cs⟩|_=>b)|false=>b)::y44Y l r
def y45Y (bx:List (Nat × Box)):List Nat->Bool
 | []=>true
 | k::r=>match find bx k with|some _=>y45Y bx r|none=>false
structure sharedX (base:Nat) (s:DS) (g:Nat) (l:List D) (K:D->List (Nat × Box)->Prop):Prop where
 h : ∀ bx:Nat->Box,(∀ k b,find s.bx k=some b->bx k=b)->∃ post,V.s g l bx post/\(∃ r bx',post r bx')/\∀ r bx',post r bx' ->
   ∃ kn,(∀ k b,find kn k=some b->bx' k=b)/\(∀ k,k<base->find s.bx k=none->bx' k=bx k/\find kn k=none)/\K r kn
def callX (pm:Bool) (s:DS) (g:Nat) (l:List D) (K:D->List (Nat × Box)->Prop):Prop :=
 y28Y (tellX s 8) l fun l'=>∃ r,V.v g l' r /\
  match scalar r with
  | true=>K r s.bx
  | false=>match y1iY (refsX s 8) l with
    | []=>K r s.bx
    | k::ks=>match pm with|true=>False|false=>match y45Y s.bx (k::ks) with|true=>K r (y44Y (k::ks) s.bx)|false=>False
def isCmp:BinOp->Bool
 | .eql|.neq|.lss|.leq|.gtr|.geq=>true
 | _=>false
def y8nY:BinOp->Bool
 | .quo|.rem=>true
 | _=>false
def isShB:BinOp->Bool
 | .shl|.shr=>true
 | _=>false
def binX (op:BinOp) (x y:D) (K:D->Prop):Prop :=
 match x,y with
 | .int k a,.int k' b =>
   match isCmp op with
   | true=>k=k'/\∀ t:Bool,t=O .icmp op a b->K (.bool t)
   | false=>match isShB op with
     | true=>∃ n,binD op (.int k a) (.int k' b)=some (.int k n)/\K (.int k n)
     | false=>match y8nY op with
       | true=>k=k'/\b≠0/\K (.int k (O .iop op k a b))
       | false=>k=k'/\K (.int k (O .iop op k a b))
 | .str a,.str b =>
   match isCmp op with
   | true=>∀ t:Bool,t=O .scmp op a b->K (.bool t)
   | false=>match op with|.add=>Fit2 (O .slen a) (O .slen b)/\K (.str (O .cat a b))|_=>False
 | _,_=>False
def y5uY:List D->List (Nat × Nat × D)->(List D->Prop)->Prop
 | cs,[],K=>K cs
 | cs,(off,n,v)::r,K=>match Nat.beq v.cells.length n,v.one with|true,true=>overX cs off v.cells fun cs'=>y5uY cs' r K|_,_=>False
def y6uY (s:DS):List (Nat × Nat × Opd)->(List (Nat × Nat × D)->Prop)->Prop
 | [],K=>K []
 | (a,b,x)::r,K=>getX s x fun d=>y6uY s r fun l=>K ((a,b,d)::l)
def setX:List D->Nat->D->(List D->Prop)->Prop
 | [],_,_,_=>False
 | _::r,0,d,K=>K (d::r)
 | x::r,n+1,d,K=>setX r n d fun l=>K (x::l)
def elsX (s:DS) (sz:Nat):List D->List (Nat × Opd)->(List D->Prop)->Prop
 | l,[],K=>K l
 | l,(i,x)::r,K=>getX s x fun d=>match Nat.beq d.cells.length sz,d.one with|true,true=>setX l i d fun l'=>elsX s sz l' r K|_,_=>False
def minX (isMax:Bool) (k:IntKind):Int->List D->(Int->Prop)->Prop
 | a,[],K=>K a
 | a,.int k' b::r,K=>k'=k/\minX isMax k (O .mx isMax a b) r K
 | _,_::_,_=>False
def valX (s : DS) (k : A) (K : D → Prop) : Prop :=
  match k with
  | .mov x => getX s x K
  | .pick c a b => getX s c fun d => match d with | .bool t => (if t = true then getX s a K else getX s b K) | _ => False
  | .build zero parts => y6uY s parts fun l => y5uY zero l fun cs => K (.agg cs)
  | .mkSl true sz _ zero len parts => match Nat.beq zero.cells.length sz with | true => elsX s sz (List.replicate len zero) parts fun l => ClosedX l ∧ K (.sl sz false l) | false => False
  | .appP sz bytes x y => getX s x fun d => getX s y fun e => y43Y s e fun sz' ys => match d with
    | .sl sz0 true [] => sz0 = sz ∧ sz' = sz ∧ FitB (O .len ys) bytes ∧ ClosedX ys ∧ K (.sl sz false ys)
    | _ => False
  | .load n ag x => getX s x fun p => loadX s n ag p K
  | .fAddr off x => getX s x fun d => match d with
    | .ptr k g o => genX s k g (K (.ptr k g (o + off)))
    | .eptr k g i o => genX s k g (K (.eptr k g i (o + off)))
    | .vptr x o => K (.vptr x (o + off))
    | _ => False
  | .fAddrP off x => getX s x fun d => match d with
    | .ptr k g o => y1sY s k g fun kd _ => varX kd (K (.ptr k g (o + off)))
    | .vptr x o => K (.vptr x (o + off))
    | _ => False
  | .loadP n ag x => getX s x fun p => match p with
    | .ptr k g o => loadX s n ag (.ptr k g o) K
    | .vptr x o => loadX s n ag (.vptr x o) K
    | _ => False
  | .fld off n ag x => getX s x fun d => match d with | .agg cs => partX cs off n ag K | _ => False
  | .iAddrS sz x i => getX s x fun d => getX s i fun e => match e with
    | .int _ n => (match d with
      | .sl sz' _ xs => sz' = sz ∧ ∃ x, atX xs n x ∧ K (.vptr x 0)
      | .own k g => y1sY s k g fun kd cs => arrX kd fun sz' _ => sz' = sz ∧ LeX 0 n ∧ LtX n (O .len cs) ∧ K (.eptr k g (O .nat n) 0)
      | _ => False)
    | _ => False
  | .iAddrA sz len x i => getX s x fun d => getX s i fun e => match e with
    | .int _ (.ofNat j) => (match Nat.blt j len with
      | true => (match d with
        | .ptr k g o => genX s k g (K (.ptr k g (o + j * sz)))
        | .vptr x o => K (.vptr x (o + j * sz))
        | _ => False)
      | false => False)
    | _ => False
  | .idxStr x i => getX s x fun d => getX s i fun e => match d, e with
    | .str t, .int _ n => ∃ c, LeX 0 n ∧ t.data.toList[n.toNat]? = some c ∧ K (.int .u8 (O .u8 c))
    | _, _ => False
  | .idxArr sz len ag x i => getX s x fun d => getX s i fun e => match d, e with
    | .agg cs, .int _ (.ofNat j) => (match Nat.blt j len with | true => partX cs (j * sz) sz ag K | false => False)
    | _, _ => False
  | .bin op x y => getX s x fun d => getX s y fun e => binX O op d e K
  | .eqb neg x y => getX s x fun d => getX s y fun e => match d, e with | .bool a, .bool b => ∀ t : Bool, t = O .beq neg a b → K (.bool t) | _, _ => False
  | .eqn neg x y => getX s x fun d => getX s y fun e => match d, e with
    | .nili, .nili => K (.bool (match neg with | true => false | false => true))
    | .iface _ _, .nili => K (.bool neg)
    | .opq, .nili => K (.bool neg)
    | _, _ => False
  | .eqa neg ts x y => getX s x fun d => getX s y fun e => match d, e with
    | .agg xs, .agg ys => (ylY ts xs ys).isSome = true ∧ ∀ t : Bool, t = O .eqc neg ts xs ys → K (.bool t)
    | _, _ => False
  | .un op x => getX s x fun d => match op, d with
    | .not, .bool b => (match b with | true => K (.bool false) | false => K (.bool true))
    | .neg, .int k n => K (.int k (O .neg .neg k n))
    | _, _ => False
  | .cvInt k x => getX s x fun d => match d with | .int _ n => K (.int k (O .wrap k n)) | _ => False
  | .cvId x => getX s x fun d => match d with | .str t => K (.str t) | _ => False
  | .cvSB x => getX s x fun d => match d with | .str t => K (.sl 1 false (O .bytes t)) | _ => False
  | .cvBS x => getX s x fun d => y43Y s d fun sz xs => match Nat.beq sz 1 with | true => ∃ l, strOf xs = some l ∧ K (.str ⟨l.toArray⟩) | false => False
  | .ext i x => getX s x fun d => match d with | .tup ds => (match ds[i]? with | some d => K d | none => False) | _ => False
  | .lenStr x => getX s x fun d => match d with | .str t => K (.int .i64 (O .slen t)) | _ => False
  | .lenSl x => getX s x fun d => y43Y s d fun _ xs => K (.int .i64 (O .len xs))
  | .lenMap x => getX s x fun d => entsX s d fun xs => K (.int .i64 (O .len xs))
  | .mm isMax k x ys => getX s x fun d => getsX s ys fun es => match d with | .int k' a => k' = k ∧ minX O isMax k a es fun n => K (.int k n) | _ => False
  | .slcStr x lo hi => getX s x fun d => match d with
    | .str t =>
      (match hi with | some h => getX s h | none => fun K => K (.int .i64 (O .slen t))) fun hd => (match lo with | some l => getX s l | none => fun K => K (.int .i64 0)) fun ld => match hd, ld with
        | .int _ h, .int _ l => LeX 0 l ∧ LeX l h ∧ LeX h (O .slen t) ∧ K (.str (O .subS t l h))
        | _, _ => False
    | _ => False
  | .slc sz x lo hi => getX s x fun d => match d with
    | .sl sz' _ xs =>
      (match hi with | some h => getX s h | none => fun K => K (.int .i64 (O .len xs))) fun hd => (match lo with | some l => getX s l | none => fun K => K (.int .i64 0)) fun ld => match hd, ld with
        | .int _ h, .int _ l => sz' = sz ∧ LeX 0 l ∧ LeX l h ∧ LeX h (O .len xs) ∧ K (.sl sz false (O .subL xs l h))
        | _, _ => False
    | _ => False
  | .mkf f first caps => getsX s first fun a => getsX s caps fun b => K (.fn f a b)
  | .mki t x => getX s x fun d => K (.iface t d)
  | .asr t zero ok x => getX s x fun d => match d with
    | .iface t' d => (match Nat.beq t' t with
      | true => (match ok with | true => K (.tup [d, .bool true]) | false => K d)
      | false => (match ok with | true => K (.tup [zero, .bool false]) | false => False))
    | .nili => (match ok with | true => K (.tup [zero, .bool false]) | false => False)
    | _ => False
  | .nilc x => getX s x fun d => match d with
    | .fn f a b => K (.fn f a b)
    | .ptr k g o => genX s k g (K (.ptr k g o))
    | .eptr k g i o => genX s k g (K (.eptr k g i o))
    | .vptr x o => K (.vptr x o)
    | _ => False
  | .look kt zero ok m k => getX s m fun d => getX s k fun kd => entsX s d fun es => keyOk kt kd = true ∧ ∃ r, lookD kt kd es = some r ∧
    match r with
    | some v => (match ok with | true => K (.tup [v, .bool true]) | false => K v)
    | none => (match ok with | true => K (.tup [zero, .bool false]) | false => K zero)
  | .entry it => getX s it fun d => match d with
    | .ptr k g 0 => rwX s k g fun kd cs => itX kd cs fun m c ks => iterX s m c fun es => ∃ kd v, ks.getLast? = some kd ∧ y3tY kd es = some (some v) ∧ K (.tup [kd, v])
    | _ => False
  | _ => False
where iterX (s : DS) (m : D) (c : Int) (K : List D → Prop) : Prop :=
  match m with
  | .mapr i g => y1sY s i g fun kd cs => mapX kd cs fun n es => n = c ∧ K es
  | .mapv es => K es
  | .nilm => K []
  | _ => False
def newX (s:DS) (q:Nat) (K:Nat->Prop):Prop :=
 match find s.bx q with
 | some b=>K (b.gen+1)
 | none=>match s.fr with|true=>K 1|false=>∀ g,K g
def slotX (s:DS) (q:Nat) (K:Prop):Prop :=
 match find s.bx q with
 | some b=>(match b.st with|.dead=>K|_=>match b.kd with|.var=>False|_=>K)
 | none=>match s.fr with|true=>K|false=>False
def deadX (s:DS) (q:Nat) (K:Prop):Prop :=
 match find s.bx q with
 | some b=>(match b.st with|.dead=>K|_=>False)
 | none=>match s.fr with|true=>K|false=>False
def stepX (base : Nat) (s : DS) (k : A) (dst : Option Nat) (K : DS → Prop) : Prop :=
  match dst with
  | some t =>
    match k with
    | .alloc zero => newX s (base + t) fun g => K ⟨putL s.tm t (.ptr (base + t) g 0), putL s.bx (base + t) ⟨g, .rw, .var, zero⟩, s.fr⟩
    | .allocF zero => deadX s (base + t) (newX s (base + t) fun g => K ⟨putL s.tm t (.ptr (base + t) g 0), putL s.bx (base + t) ⟨g, .rw, .var, zero⟩, s.fr⟩)
    | .box x => getX s x fun d => d.one = true ∧ newX s (base + t) fun g => K ⟨putL s.tm t (.ptr (base + t) g 0), putL s.bx (base + t) ⟨g, .rw, .var, d.cells⟩, s.fr⟩
    | .mkSl false sz e zero len parts => match Nat.beq zero.cells.length sz with
      | true => elsX s sz (List.replicate len zero) parts fun l => newX s (base + t) fun g => K ⟨putL s.tm t (.own (base + t) g), putL s.bx (base + t) ⟨g, .rw, .arr sz e, l⟩, s.fr⟩
      | false => False
    | .app sz e bytes x y => getX s x fun d => getX s y fun d2 => y43Y s d2 fun sz' ys => (match Nat.beq sz' sz with
      | true => (match d with
        | .own k g => rwX s k g fun kd cs => ClosedX ys ∧ arrX kd fun sz0 e0 => sz0 = sz ∧ e0 = e ∧ FitA (O .len cs) (O .len ys) bytes ∧ K ⟨putL s.tm t (.own k (g + 1)), putL s.bx k ⟨g + 1, .rw, .arr sz e, O .app cs ys⟩, s.fr⟩
        | .sl sz0 true [] => sz0 = sz ∧ ClosedX ys ∧ FitB (O .len ys) bytes ∧ newX s (base + t) fun g => K ⟨putL s.tm t (.own (base + t) g), putL s.bx (base + t) ⟨g, .rw, .arr sz e, ys⟩, s.fr⟩
        | _ => False)
      | false => False)
    | .appD sz e bytes x y => getX s x fun d => getX s y fun d2 => y43Y s d2 fun sz' ys => (match Nat.beq sz' sz with
      | true => (match d with
        | .own k g => rwX s k g fun kd cs => ClosedX ys ∧ arrX kd fun sz0 e0 => sz0 = sz ∧ e0 = e ∧ FitA (O .len cs) (O .len ys) bytes ∧ K ⟨putL s.tm t (.own k (g + 1)), putL s.bx k ⟨g + 1, .rw, .arr sz e, O .app cs ys⟩, s.fr⟩
        | .sl sz0 true [] => sz0 = sz ∧ ClosedX ys ∧ FitB (O .len ys) bytes ∧ slotX s (base + t) (newX s (base + t) fun g => K ⟨putL s.tm t (.own (base + t) g), putL s.bx (base + t) ⟨g, .rw, .arr sz e, ys⟩, s.fr⟩)
        | _ => False)
      | false => False)
    | .mkSlF sz e zero => (match Nat.beq zero.cells.length sz with
      | true => slotX s (base + t) (newX s (base + t) fun g => K ⟨putL s.tm t (.own (base + t) g), putL s.bx (base + t) ⟨g, .rw, .arr sz e, []⟩, s.fr⟩)
      | false => False)
    | .call pm f args => getX s f fun fv => getsX s args fun l => (match fv with
      | .fn g first caps => callX V pm s g (first ++ l ++ caps) fun r bx => K ⟨putL s.tm t r, bx, s.fr⟩
      | _ => False)
    | .icall f args => getX s f fun fv => getsX s args fun l => (match fv with
      | .fn g first caps => sharedX V base s g (first ++ l ++ caps) fun r bx => K ⟨putL s.tm t r, bx, false⟩
      | _ => False)
    | .mkMap => newX s (base + t) fun g => K ⟨putL s.tm t (.mapr (base + t) g), putL s.bx (base + t) ⟨g, .rw, .map, [.int .i64 0]⟩, s.fr⟩
    | .mkIter m => getX s m fun d => (match d with
      | .mapr i g0 => y1sY s i g0 fun kd cs => mapX kd cs fun c _ => newX s (base + t) fun g => K ⟨putL s.tm t (.ptr (base + t) g 0), putL s.bx (base + t) ⟨g, .rw, .iter, [d, .int .i64 c]⟩, s.fr⟩
      | .mapv _ | .nilm => newX s (base + t) fun g => K ⟨putL s.tm t (.ptr (base + t) g 0), putL s.bx (base + t) ⟨g, .rw, .iter, [d, .int .i64 0]⟩, s.fr⟩
      | _ => False)
    | .mdel kt m k => delX s kt m k fun bx => K ⟨putL s.tm t (.tup []), bx, s.fr⟩
    | k => valX O s k fun d => K ⟨putL s.tm t d, s.bx, s.fr⟩
  | none =>
    match k with
    | .store n x v => getX s x fun p => getX s v fun d => (match Nat.beq d.cells.length n with
      | true => d.one = true ∧ (match Nat.blt 0 n with
        | true => (match p with
          | .ptr k g off => rwX s k g fun kd cs => varX kd (overX cs off d.cells fun cs' => K ⟨s.tm, putL s.bx k ⟨g, .rw, .var, cs'⟩, s.fr⟩)
          | .eptr k g i off => rwX s k g fun kd cs => arrX kd fun sz e => ∃ x, cs[i]? = some x ∧ overX x.cells off d.cells fun xs => K ⟨s.tm, putL s.bx k ⟨g, .rw, .arr sz e, O .set cs i (reD x xs)⟩, s.fr⟩
          | _ => False)
        | false => False)
      | false => False)
    | .storeV n x v y => getX s x fun p => getX s v fun d => getX s y fun q => (match p, q with
      | .ptr k g off, .ptr k' _ _ => (match Nat.beq k k' with
        | false => (match Nat.beq d.cells.length n with
          | true => d.one = true ∧ (match Nat.blt 0 n with
            | true => rwX s k g fun kd cs => varX kd (overX cs off d.cells fun cs' => K ⟨s.tm, putL s.bx k ⟨g, .rw, .var, cs'⟩, s.fr⟩)
            | false => False)
          | false => False)
        | true => False)
      | _, _ => False)
    | .call pm f args => getX s f fun fv => getsX s args fun l => (match fv with
      | .fn g first caps => callX V pm s g (first ++ l ++ caps) fun _ bx => K ⟨s.tm, bx, s.fr⟩
      | _ => False)
    | .icall f args => getX s f fun fv => getsX s args fun l => (match fv with
      | .fn g first caps => sharedX V base s g (first ++ l ++ caps) fun _ bx => K ⟨s.tm, bx, false⟩
      | _ => False)
    | .mput kt m k v => getX s m fun d => getX s k fun kd => getX s v fun vd => (match d with
      | .mapr i g => rwX s i g fun bk cs => mapX bk cs fun _ es => keyOk kt kd = true ∧ vd.one = true ∧ ∃ es', mputD kt kd vd es = some es' ∧ ∀ c : Int, K ⟨s.tm, putL s.bx i ⟨g, .rw, .map, .int .i64 c :: es'⟩, s.fr⟩
      | _ => False)
    | .mdel kt m k => delX s kt m k fun bx => K ⟨s.tm, bx, s.fr⟩
    | k => valX O s k fun _ => K s
where delX (s : DS) (kt : Bool × List (Nat × EqT)) (m k : Opd) (K : List (Nat × Box) → Prop) : Prop :=
  getX s m fun d => getX s k fun kd => (match d with
    | .mapr i g => rwX s i g fun bk cs => mapX bk cs fun c es => keyOk kt kd = true ∧ ∃ es', mdelD kt kd es = some es' ∧ K (putL s.bx i ⟨g, .rw, .map, .int .i64 c :: es'⟩)
    | _ => False)
def skipX (s:DS) (dst:Option Nat):DS :=
 match dst with
 | some t=>⟨putL s.tm t .undef,s.bx,s.fr⟩
 | none=>s
def y8oY (s:DS) (t:Nat) (b:Bool):DS:=⟨putL s.tm t (.bool b),s.bx,s.fr⟩
def nextX (s:DS) (it:Opd) (dst:Option Nat) (K:DS->Prop):Prop :=
 getX s it fun d=>match d,dst with
  | .ptr k g 0,some t=>rwX s k g fun kd cs=>itX kd cs fun m c ks=>valX.iterX s m c fun es =>
   (∀ x∈es,∃ y v b,x=.tup [y,v]/\y2cY y ks=some b) /\
   ((∀ y v,.tup [y,v]∈es->y2cY y ks=some true)->K ⟨putL s.tm t (.tup [.bool false]),s.bx,s.fr⟩) /\
   ∀ y v,.tup [y,v]∈es->y2cY y ks=some false->K ⟨putL s.tm t (.tup [.bool true,y,v]),putL s.bx k ⟨g,.rw,.iter,m::.int .i64 c::O .app ks [y]⟩,s.fr⟩
  | _,_=>False
def opsX (base:Nat):List AOp->DS->(DS->Prop)->Prop
 | [],s,K=>K s
 | o::r,s,K =>
   match o.guard with
   | none=>(match y1rY o.k with
     | some it=>nextX O s it o.dst fun s'=>opsX base r s' K
     | none=>stepX O V base s o.k o.dst fun s'=>opsX base r s' K)
   | some (t,b)=>match find s.tm t with
     | some (.bool c)=>if c=b then (match y1rY o.k with
        | some it=>nextX O (y8oY s t b) it o.dst fun s'=>opsX base r s' K
        | none=>stepX O V base (y8oY s t b) o.k o.dst fun s'=>opsX base r s' K)
       else opsX base r (skipX (y8oY s t (!b)) o.dst) K
     | some .undef=>opsX base r (skipX s o.dst) K
     | _=>False
def thenX (K:DS->Prop) (Q:Ex->DS->Prop) (e:Ex) (s:DS):Prop :=
 match e with
 | .normal=>K s
 | .exit i=>Q (.exit i) s
 | .ret=>Q .ret s
def ybpY (i:Nat) (Q:Ex->DS->Prop) (e:Ex) (s:DS):Prop :=
 match e with
 | .normal=>Q .normal s
 | .exit j=>match Nat.beq j i with|true=>Q .normal s|false=>Q (.exit j) s
 | .ret=>Q .ret s
def loopX (f:DS->(Ex->DS->Prop)->Prop) (s:DS) (Q:Ex->DS->Prop):Prop :=
 ∃ J:Nat->DS->Prop,(∃ n d,J n d/\s.le d)/\∀ n d,J n d->f d (thenX (fun s'=>∃ m d',J m d'/\s'.le d'/\m<n) Q)
def joinX (f g:DS->(Ex->DS->Prop)->Prop) (s:DS) (Q:Ex->DS->Prop):Prop :=
 ∃ M:DS->Prop,f s (thenX (fun s'=>∃ d,M d/\s'.le d) Q)/\∀ d,M d->g d Q
def y3cY (base:Nat) (s:DS) (g:Gh) (K:DS->Prop):Prop :=
 match g with
 | .kill q=>match find s.bx (base+q) with
   | some b=>K ⟨s.tm,putL s.bx (base+q) ⟨b.gen,.dead,b.kd,b.cs⟩,s.fr⟩
   | none=>∀ g kd cs,K ⟨s.tm,putL s.bx (base+q) ⟨g,.dead,kd,cs⟩,s.fr⟩
 | .tell t=>match find s.tm t with
   | some (.own k g)=>y1sY s k g fun kd cs=>ClosedX cs/\arrX kd fun sz _=>K ⟨putL s.tm t (.sl sz false cs),y44Y [k] s.bx,s.fr⟩
   | _=>False
 | .clean t=>match find s.tm t with
   | some (.own k g)=>rwX s k g fun kd cs=>arrX kd fun sz e=>y28Y (tellX s 8) cs fun zs=>(match memX k (y1iY (refsX s 8) cs),y45Y s.bx (y1iY (refsX s 8) cs) with
     | false,true=>K ⟨s.tm,putL (y44Y (y1iY (refsX s 8) cs) s.bx) k ⟨g,.rw,.arr sz e,zs⟩,s.fr⟩
     | _,_=>False)
   | _=>False
 | .nil q sz e=>0<sz/\newX s (base+q) fun g=>K ⟨s.tm,putL s.bx (base+q) ⟨g,.rw,.arr sz e,[]⟩,s.fr⟩
 | .tmp t q sz e=>match find s.tm t with
   | some (.sl sz' true [])=>sz'=sz/\0<sz/\newX s (base+q) fun g=>K ⟨putL s.tm t (.own (base+q) g),putL s.bx (base+q) ⟨g,.rw,.arr sz e,[]⟩,s.fr⟩
   | _=>False
 | .cell t q off sz e=>match find s.tm t with
   | some (.ptr k g o)=>rwX s k g fun kd cs=>k≠base+q/\0<sz/\(match kd,cs[o+off]? with
    | .var,some (.sl sz' true [])=>sz'=sz/\newX s (base+q) fun g'=>setX cs (o+off) (.own (base+q) g') fun cs'=>K ⟨s.tm,putL (putL s.bx k ⟨g,.rw,.var,cs'⟩) (base+q) ⟨g',.rw,.arr sz e,[]⟩,s.fr⟩
    | _,_=>False)
   | _=>False
def wpx (base:Nat):Code->DS->(Ex->DS->Prop)->Prop
 | .skip,s,Q=>Q .normal s
 | .ops l,s,Q=>opsX O V base l s (Q .normal)
 | .seq a b,s,Q=>wpx base a s (thenX (fun s'=>wpx base b s' Q) Q)
 | .cond c a b,s,Q=>getX s c fun d=>match d with|.bool t=>(if t=true then wpx base a s Q else wpx base b s Q)|_=>False
 | .block i b,s,Q=>wpx base b s (ybpY i Q)
 | .loop b,s,Q=>loopX (wpx base b) s Q
 | .exit i,s,Q=>Q (.exit i) s
 | .ret,s,Q=>Q .ret s
 | .gh g b,s,Q=>y3cY base s g fun s'=>wpx base b s' Q
 | .join a b,s,Q=>joinX (wpx base a) (wpx base b) s Q
def resX (s:DS):List RVar->(List D->Prop)->Prop
 | [],K=>K []
 | .tmp t::r,K=>(match find s.tm t with|some d=>tellX s 8 d fun d'=>resX s r fun ds=>K (d'::ds)|none=>False)
 | .cell t n ag::r,K=>(match find s.tm t with|some p=>loadX s n ag p fun d=>tellX s 8 d fun d'=>resX s r fun ds=>K (d'::ds)|none=>False)
def args0:Nat->List D->List (Nat × D)
 | _,[]=>[]
 | i,d::r=>(i,d)::args0 (i+1) r
def leftX (rs:List RVar) (Q:D->Prop) (e:Ex) (s:DS):Prop :=
 match e with
 | .exit _=>False
 | _=>resX s rs fun ds=>match ds with|[d]=>Q d|ds=>Q (.tup ds)
def resSX (s:DS):List RVar->(List D->Prop)->Prop
 | [],K=>K []
 | .tmp t::r,K=>(match find s.tm t with|some d=>resSX s r fun ds=>K (d::ds)|none=>False)
 | .cell t n ag::r,K=>(match find s.tm t with|some p=>loadX s n ag p fun d=>resSX s r fun ds=>K (d::ds)|none=>False)
def yh9Y (rs:List RVar) (Q:D->List (Nat × Box)->Prop) (e:Ex) (s:DS):Prop :=
 match e with
 | .exit _=>False
 | _=>resSX s rs fun ds=>match ds with|[d]=>Q d s.bx|ds=>Q (.tup ds) s.bx
def wpS (base:Nat) (f:Func) (args:List D) (gv:List (Nat × Box)) (Q:D->List (Nat × Box)->Prop):Prop :=
 wpx O V base f.body ⟨args0 0 args,gv,false⟩ (yh9Y f.results Q)
def wpF (f:Func) (args:List D) (Q:D->Prop):Prop :=
 wpx O V 0 f.body ⟨args0 0 args,[],true⟩ (leftX f.results Q)
end
end Go.Proofs.AM
namespace Go.Proofs.AM.Cd
open Go
def t (n:Nat):Opd:=.tmp n
def c (d:D):Opd:=.const d
def o (n:Nat) (k:A):AOp:=⟨some n,k,none⟩
def w (k:A):AOp:=⟨none,k,none⟩
end Go.Proofs.AM.Cd
namespace Go.Proofs.AM
open Go
theorem yhaY {op:BinOp} {x y:D} {K:D->Prop} (h:binX Ops.std op x y K):∃ d,binD op x y=some d/\K d:=by
 unfold binX at h
 split at h
 ·rename_i k a k' b
  split at h
  ·rename_i hc
   obtain ⟨rfl,h⟩:=h
   refine ⟨_,?_,h _ rfl⟩
   cases op<;>simp [isCmp] at hc<;>simp [binD,Go.binOp,Op.intCmp,yzY,pure,Ops.std,y1yY]
  ·rename_i hc
   split at h
   ·obtain ⟨n,h1,h2⟩:=h
    exact ⟨_,h1,h2⟩
   ·rename_i hsh
    split at h
    ·rename_i hd
     obtain ⟨rfl,hb,h⟩:=h
     refine ⟨_,?_,h⟩
     cases op<;>simp [y8nY] at hd<;>simp [binD,Go.binOp,Op.intDiv,yzY,pure,Ops.std,y2mY,hb]
    ·rename_i hd
     obtain ⟨rfl,h⟩:=h
     refine ⟨_,?_,h⟩
     cases op<;>simp [isCmp,isShB,y8nY] at hc hsh hd<;>simp [binD,Go.binOp,Op.intArith,Op.intBits,yzY,pure,Ops.std,y2mY]
 ·rename_i a b
  split at h
  ·rename_i hc
   refine ⟨_,?_,h _ rfl⟩
   cases op<;>simp [isCmp] at hc<;>simp [binD,Go.binOp,Op.stringOp,yzY,pure,Ops.std,y1yY]
  ·split at h
   ·obtain ⟨⟨h1⟩,h2⟩:=h
    simp only [Ops.std] at h1
    refine ⟨_,?_,h2⟩
    simp only [binD,Go.binOp,Op.stringOp,Ops.std]
    have hmx:IntKind.i64.max=9223372036854775807:=by decide
    rw [if_neg (by omega)]
    rfl
   ·exact h.elim
 ·exact h.elim
section
variable {R:Ans} {base:Nat}
theorem y46Y {K K':St->Prop} (hK:∀ s,K s->K' s):∀ {l:List AOp} {s:St},opsW R base l s K->opsW R base l s K'
 | [],s,h=>hK s h
 | o::l,s,h=>by
   unfold opsW at h ⊢
   split at h
   ·obtain ⟨y,hy,h⟩:=h
    refine ⟨y,hy,?_⟩
    cases y with
    | true =>
      simp only [if_true] at h ⊢
      obtain ⟨k,es,ks,h0,hdef,h1,h2⟩:=h
      exact ⟨k,es,ks,h0,hdef,fun hall=>y46Y hK (h1 hall),fun y v hm hs=>y46Y hK (h2 y v hm hs)⟩
    | false=>exact y46Y hK h
   ·obtain ⟨y,hy,h⟩:=h
    refine ⟨y,hy,?_⟩
    cases y with
    | true =>
      simp only [if_true] at h ⊢
      obtain ⟨g,first,caps,post,h1,h2,h3,h4⟩:=h
      exact ⟨g,first,caps,post,h1,h2,h3,fun r bx' hp=>y46Y hK (h4 r bx' hp)⟩
    | false=>exact y46Y hK h
   ·obtain ⟨C,T,s1,hT,h1,h2⟩:=h
    exact ⟨C,T,s1,hT,h1,y46Y hK h2⟩
theorem ybqY {f:St->(Ex->St->Prop)->Prop} (hf:∀ s Q Q',(∀ e s',Q e s'->Q' e s')->f s Q->f s Q'):∀ {n:Nat} {s:St} {Q Q':Ex->St->Prop},(∀ e s',Q e s'->Q' e s')->loopW f n s Q->loopW f n s Q'
 | 0,_,_,_,_,h=>h.elim
 | n+1,s,Q,Q',hQ,h=>by
   simp only [loopW] at h ⊢
   refine hf s _ _ (fun e s' h=>?_) h
   cases e with
   | normal=>exact ybqY hf hQ h
   | exit i=>exact hQ _ _ h
   | ret=>exact hQ _ _ h
theorem y47Y:∀ (c:Code) {s:St} {Q Q':Ex->St->Prop},(∀ e s',Q e s'->Q' e s')->W R base c s Q->W R base c s Q':=by
 intro c
 induction c with
 | skip=>intro s Q Q' hQ h;exact hQ _ _ h
 | ops l=>intro s Q Q' hQ h;exact y46Y (hQ _) h
 | seq a b iha ihb =>
   intro s Q Q' hQ h
   refine iha (fun e s' h=>?_) h
   cases e with
   | normal=>exact ihb hQ h
   | exit i=>exact hQ _ _ h
   | ret=>exact hQ _ _ h
 | cond c a b iha ihb =>
   intro s Q Q' hQ h
   obtain ⟨t,ht,h⟩:=h
   refine ⟨t,ht,?_⟩
   cases t with
   | true=>exact iha hQ h
   | false=>exact ihb hQ h
 | block i b ih =>
   intro s Q Q' hQ h
   refine ih (fun e s' h=>?_) h
   cases e with
   | normal=>exact hQ _ _ h
   | exit j =>
     simp only [y4kY] at h ⊢
     split at h
     ·rename_i e;rw [if_pos e];exact hQ _ _ h
     ·rename_i e;rw [if_neg e];exact hQ _ _ h
   | ret=>exact hQ _ _ h
 | loop b ih =>
   intro s Q Q' hQ h
   obtain ⟨n,h⟩:=h
   exact ⟨n,ybqY (f:=W R base b) (fun s Q Q' hQ h=>ih hQ h) hQ h⟩
 | exit i=>intro s Q Q' hQ h;exact hQ _ _ h
 | ret=>intro s Q Q' hQ h;exact hQ _ _ h
 | join a b iha ihb =>
   intro s Q Q' hQ h
   refine iha (fun e s' h=>?_) h
   cases e with
   | normal=>exact ihb hQ h
   | exit i=>exact hQ _ _ h
   | ret=>exact hQ _ _ h
 | gh g b ih=>intro s Q Q' hQ h;obtain ⟨s1,h1,h2⟩:=h;exact ⟨s1,h1,ih hQ h2⟩
theorem ybrY {f:St->(Ex->St->Prop)->Prop} (hf:∀ s Q Q',(∀ e s',Q e s'->Q' e s')->f s Q->f s Q'):∀ {n m:Nat} {s:St} {Q:Ex->St->Prop},n<=m->loopW f n s Q->loopW f m s Q
 | 0,_,_,_,_,h=>h.elim
 | n+1,0,_,_,hm,_=>by omega
 | n+1,m+1,s,Q,hm,h=>by
   simp only [loopW] at h ⊢
   refine hf s _ _ (fun e s' h=>?_) h
   cases e with
   | normal=>exact ybrY hf (by omega) h
   | exit i=>exact h
   | ret=>exact h
end
section
variable {O:Ops} {V:Ans} {s:DS} {st:St} {B:Nat} {bE:Nat->Box} {ks:Nat->Prop}
theorem y5vY {a b c:Nat} (h:(a:Int)*b<=c):a*b<=c:=by exact_mod_cast h
theorem yaY (hs:SatF B bE ks s st) {x:Opd} {K:D->Prop} (h:getX s x K):K (x.get st.tm):=by
 cases x with
 | tmp t =>
   simp only [getX] at h
   split at h
   ·rename_i d hd;rw [←hs.tm t d hd] at h;exact h
   ·exact h.elim
 | const d=>exact h
theorem y4sY (hs:SatF B bE ks s st):∀ {l:List Opd} {K:List D->Prop},getsX s l K->K (l.map (·.get st.tm))
 | [],K,h=>h
 | x::r,K,h=>by
   simp only [getsX] at h
   exact y4sY (K:=fun ds=>K (x.get st.tm::ds)) hs (yaY hs h)
theorem ybsY:∀ {l:List D} {n:Nat} {K:List D->Prop},takeX l n K->n<=l.length/\K (l.take n)
 | l,0,K,h=>by cases l<;>exact ⟨Nat.zero_le _,by simpa [takeX] using h⟩
 | [],n+1,K,h=>by simp [takeX] at h
 | x::r,n+1,K,h=>by
   simp only [takeX] at h
   obtain ⟨h1,h2⟩:=ybsY h
   exact ⟨by simp;omega,by simpa using h2⟩
theorem ybtY:∀ {l:List D} {n:Nat} {K:List D->Prop},dropX l n K->n<=l.length/\K (l.drop n)
 | l,0,K,h=>by cases l<;>exact ⟨Nat.zero_le _,by simpa [dropX] using h⟩
 | [],n+1,K,h=>by simp [dropX] at h
 | x::r,n+1,K,h=>by
   simp only [dropX] at h
   obtain ⟨h1,h2⟩:=ybtY h
   exact ⟨by simp;omega,by simpa using h2⟩
theorem yhbY {ag:Bool} {cs:List D} {K:D->Prop} (h:mkX ag cs K):∃ d,mkD ag cs=some d/\K d:=by
 cases ag with
 | true=>exact ⟨_,rfl,h⟩
 | false =>
   simp only [mkX] at h
   split at h
   ·exact ⟨_,rfl,h⟩
   ·exact h.elim
theorem y5wY {cs:List D} {off n:Nat} {ag:Bool} {K:D->Prop} (h:partX cs off n ag K):off+n<=cs.length/\∃ d,mkD ag ((cs.drop off).take n)=some d/\K d:=by
 unfold partX at h
 obtain ⟨h1,h⟩:=ybtY h
 obtain ⟨h2,h⟩:=ybsY h
 rw [List.length_drop] at h2
 exact ⟨by omega,yhbY h⟩
theorem y4tY:∀ {l:List D} {o:Nat} {vs:List D} {K:List D->Prop},overX l o vs K->o+vs.length<=l.length/\K (over l o vs)
 | l,0,[],K,h=>by
   cases l<;>exact ⟨by simp,by simpa [over,overX] using h⟩
 | [],0,_::_,K,h=>by simp [overX] at h
 | x::r,0,v::vs,K,h=>by
   simp only [overX] at h
   obtain ⟨h1,h2⟩:=y4tY h
   refine ⟨by simp at h1 ⊢;omega,?_⟩
   simpa [over] using h2
 | [],_+1,vs,K,h=>by cases vs<;>simp [overX] at h
 | x::r,o+1,vs,K,h=>by
   have h':overX r o vs fun l=>K (x::l):=by cases vs<;>simpa [overX] using h
   obtain ⟨h1,h2⟩:=y4tY h'
   refine ⟨by simp;omega,?_⟩
   have:o+1+vs.length=(o+vs.length)+1:=by omega
   simpa [over,this] using h2
theorem y1zY (hs:SatF B bE ks s st) {k g:Nat} {K:BK->List D->Prop} (h:y1sY s k g K):(st.bx k).gen=g/\(st.bx k).st≠.dead/\K (st.bx k).kd (st.bx k).cs:=by
 unfold y1sY at h
 split at h
 ·rename_i b hb
  rw [hs.bx k b hb]
  obtain ⟨h1,h2⟩:=h
  refine ⟨h1.symm,?_⟩
  split at h2
  ·exact h2.elim
  ·rename_i hst;exact ⟨hst,h2⟩
 ·exact h.elim
theorem y2tY (hs:SatF B bE ks s st) {k g:Nat} {K:BK->List D->Prop} (h:rwX s k g K):B<=k∨ks k:=by
 unfold rwX at h
 split at h
 ·rename_i b hb;exact hs.has hb
 ·exact h.elim
theorem y2nY (hs:SatF B bE ks s st) {k g:Nat} {K:BK->List D->Prop} (h:rwX s k g K):(st.bx k).gen=g/\(st.bx k).st=.rw/\K (st.bx k).kd (st.bx k).cs:=by
 unfold rwX at h
 split at h
 ·rename_i b hb
  rw [hs.bx k b hb]
  obtain ⟨h1,h2⟩:=h
  refine ⟨h1.symm,?_⟩
  split at h2
  ·rename_i hst;exact ⟨hst,h2⟩
  ·exact h2.elim
 ·exact h.elim
theorem y5xY (hs:SatF B bE ks s st) {k g:Nat} {K:Prop} (h:genX s k g K):((st.bx k).gen=g/\(st.bx k).st≠.dead)/\K:=by
 unfold genX at h
 split at h
 ·rename_i b hb
  rw [hs.bx k b hb]
  obtain ⟨h1,h2⟩:=h
  split at h2
  ·exact h2.elim
  ·rename_i hst;exact ⟨⟨h1.symm,hst⟩,h2⟩
 ·exact h.elim
theorem y4uY {kd:BK} {K:Prop} (h:varX kd K):kd=.var/\K:=by
 cases kd<;>simp only [varX] at h
 exact ⟨rfl,h⟩
theorem y2uY {kd:BK} {K:Nat->Nat->Prop} (h:arrX kd K):∃ sz e,kd=.arr sz e/\K sz e:=by
 cases kd<;>simp only [arrX] at h
 exact ⟨_,_,rfl,h⟩
theorem y48Y {kd:BK} {cs:List D} {K:Int->List D->Prop} (h:mapX kd cs K):kd=.map/\∃ c es,cs=.int .i64 c::es/\K c es:=by
 unfold mapX at h
 split at h
 ·exact ⟨rfl,_,_,rfl,h⟩
 ·exact h.elim
theorem ybuY {kd:BK} {cs:List D} {K:D->Int->List D->Prop} (h:itX kd cs K):kd=.iter/\∃ m c ks,cs=m::.int .i64 c::ks/\K m c ks:=by
 unfold itX at h
 split at h
 ·exact ⟨rfl,_,_,_,rfl,h⟩
 ·exact h.elim
theorem y5yY (hs:SatF B bE ks s st) {d:D} {K:Nat->List D->Prop} (h:y43Y s d K):∃ r,elems st.bx d=some r/\K r.1 r.2:=by
 unfold y43Y at h
 split at h
 ·exact ⟨_,rfl,h⟩
 ·obtain ⟨h1,h2,h⟩:=y1zY hs h
  obtain ⟨sz,e,h3,h⟩:=y2uY h
  simp only [elems,h1,h3]
  rw [if_pos ⟨trivial,h2⟩]
  exact ⟨_,rfl,h⟩
 ·exact h.elim
theorem ybvY (hs:SatF B bE ks s st) {d:D} {K:List D->Prop} (h:entsX s d K):∃ r,ents st.bx d=some r/\K r:=by
 unfold entsX at h
 split at h
 ·exact ⟨_,rfl,h⟩
 ·exact ⟨_,rfl,h⟩
 ·obtain ⟨h1,h2,h⟩:=y1zY hs h
  obtain ⟨h3,c,es,h4,h⟩:=y48Y h
  simp only [ents,h1,h3,h4]
  rw [if_pos ⟨trivial,h2,trivial⟩]
  exact ⟨_,rfl,h⟩
 ·exact h.elim
theorem y5zY (hs:SatF B bE ks s st) {n:Nat} {ag:Bool} {p:D} {K:D->Prop} (h:loadX s n ag p K):∃ d,loadD st.bx n ag p=some d/\K d:=by
 unfold loadX at h
 split at h
 ·obtain ⟨h1,h2,h⟩:=y1zY hs h
  obtain ⟨h3,h⟩:=y4uY h
  obtain ⟨h4,d,h5,h6⟩:=y5wY h
  simp only [loadD]
  rw [if_pos ⟨h1,h2,h3,h4⟩]
  exact ⟨d,h5,h6⟩
 ·obtain ⟨h1,h2,h⟩:=y1zY hs h
  obtain ⟨sz,e,h3,x,hx,h⟩:=y2uY h
  obtain ⟨h4,d,h5,h6⟩:=y5wY h
  simp only [loadD]
  rw [if_pos ⟨h1,h2,by rw [h3];rfl⟩,hx]
  simp only
  rw [if_pos h4]
  exact ⟨d,h5,h6⟩
 ·obtain ⟨h4,d,h5,h6⟩:=y5wY h
  simp only [loadD]
  rw [if_pos h4]
  exact ⟨d,h5,h6⟩
 ·exact h.elim
theorem y2oY {bx:Nat->Box} {m:Nat}:∀ {l:List D},closedL l=true->mapO (tell bx m) l=some l
 | [],_=>rfl
 | x::r,h=>by
   simp only [closedL,Bool.and_eq_true] at h
   have h1:tell bx m x=some x:=by cases m<;>simp [tell,h.1]
   simp [mapO,h1,y2oY h.2]
theorem y3dY {m n:Nat} (ih:∀ (d:D) (K:D->Prop),tellX s n d K->∃ d1,tell st.bx m d=some d1/\K (strip d1)):∀ {l:List D} {K:List D->Prop},y28Y (tellX s n) l K->∃ l1,mapO (tell st.bx m) l=some l1/\K (stripL l1)
 | [],K,h=>⟨[],rfl,by simpa [stripL,y28Y] using h⟩
 | x::r,K,h=>by
   simp only [y28Y] at h
   obtain ⟨d1,h1,h2⟩:=ih x _ h
   obtain ⟨l1,h3,h4⟩:=y3dY ih h2
   exact ⟨d1::l1,by simp [mapO,h1,h3],by simpa [stripL] using h4⟩
theorem y4vY (hs:SatF B bE ks s st):∀ (n:Nat) (m:Nat) (d:D) (K:D->Prop),n<=m->tellX s n d K->∃ d1,tell st.bx m d=some d1/\K (strip d1)
 | 0,_,_,_,_,h=>by simp [tellX] at h
 | n+1,0,_,_,hm,_=>by omega
 | n+1,m+1,d,K,hm,h=>by
   have ih:=fun d K=>y4vY hs n m d K (by omega)
   have self:closed d=true->K (strip d)->∃ d1,tell st.bx (m+1) d=some d1/\K (strip d1):=fun hc hk=>⟨d,by simp [tell,hc],hk⟩
   cases d<;>simp only [tellX] at h
   case int=>exact self rfl (by simpa [strip] using h)
   case bool=>exact self rfl (by simpa [strip] using h)
   case str=>exact self rfl (by simpa [strip] using h)
   case nilp=>exact self rfl (by simpa [strip] using h)
   case nilf=>exact self rfl (by simpa [strip] using h)
   case nili=>exact self rfl (by simpa [strip] using h)
   case nilm=>exact self rfl (by simpa [strip] using h)
   case opq=>exact self rfl (by simpa [strip] using h)
   case sl sz nl xs =>
    obtain ⟨⟨h1,h2⟩,h3⟩:=h
    exact self (by simpa [closed] using h1) (by simpa [strip,h2] using h3)
   case mapv es =>
    obtain ⟨⟨h1,h2⟩,h3⟩:=h
    exact self (by simpa [closed] using h1) (by simpa [strip,h2] using h3)
   case vptr x off =>
    obtain ⟨⟨h1,h2⟩,h3⟩:=h
    exact self (by simpa [closed] using h1) (by simpa [strip,h2] using h3)
   case own k g =>
    obtain ⟨h1,h2,h⟩:=y1zY hs h
    obtain ⟨sz,e,h3,⟨h4,h5⟩,h⟩:=y2uY h
    refine ⟨.sl sz false (st.bx k).cs,?_,by simpa [strip,h5] using h⟩
    simp only [tell,closed,Bool.false_eq_true,if_false]
    rw [if_pos ⟨h1,h2⟩]
    simp only [h3,y2oY h4,Option.map_some]
   case mapr k g =>
    obtain ⟨h1,h2,h⟩:=y1zY hs h
    obtain ⟨h3,c,es,h6,⟨h4,h5⟩,h⟩:=y48Y h
    refine ⟨.mapv es,?_,by simpa [strip,h5] using h⟩
    simp only [tell,closed,Bool.false_eq_true,if_false]
    rw [if_pos ⟨h1,h2,h3⟩,h6]
    simp only [List.tail_cons,y2oY h4,Option.map_some]
   case ptr k g off =>
    obtain ⟨h1,h2,h⟩:=y1zY hs h
    obtain ⟨h3,h⟩:=y4uY h
    obtain ⟨l1,h4,h5⟩:=y3dY ih h
    refine ⟨.vptr (.agg l1) off,?_,by simpa [strip] using h5⟩
    simp only [tell,closed,Bool.false_eq_true,if_false]
    rw [if_pos ⟨h1,h2,h3⟩,h4]
    rfl
   case agg cs =>
    obtain ⟨l1,h4,h5⟩:=y3dY ih h
    refine ⟨.agg l1,?_,by simpa [strip] using h5⟩
    simp only [tell]
    split
    ·rename_i hc
     rw [y2oY (by simpa [closed] using hc)] at h4
     simp only [Option.some.injEq] at h4
     rw [h4]
    ·rw [h4];rfl
   case tup cs =>
    obtain ⟨l1,h4,h5⟩:=y3dY ih h
    refine ⟨.tup l1,?_,by simpa [strip] using h5⟩
    simp only [tell]
    split
    ·rename_i hc
     rw [y2oY (by simpa [closed] using hc)] at h4
     simp only [Option.some.injEq] at h4
     rw [h4]
    ·rw [h4];rfl
   case fn f a b =>
    obtain ⟨a1,h1,h⟩:=y3dY ih h
    obtain ⟨b1,h2,h⟩:=y3dY ih h
    refine ⟨.fn f a1 b1,?_,by simpa [strip] using h⟩
    simp only [tell]
    split
    ·rename_i hc
     simp only [closed,Bool.and_eq_true] at hc
     rw [y2oY hc.1] at h1
     rw [y2oY hc.2] at h2
     simp only [Option.some.injEq] at h1 h2
     rw [h1,h2]
    ·rw [h1,h2];rfl
   case iface t x =>
    obtain ⟨d1,h1,h2⟩:=ih x _ h
    refine ⟨.iface t d1,?_,by simpa [strip] using h2⟩
    simp only [tell]
    split
    ·rename_i hc
     have:tell st.bx m x=some x:=by
      simp only [closed] at hc
      cases m<;>simp [tell,hc]
     rw [this] at h1
     simp only [Option.some.injEq] at h1
     rw [h1]
    ·rw [h1];rfl
theorem ybwY (hs:SatF B bE ks s st) {l:List D} {K:List D->Prop} (h:y28Y (tellX s 8) l K):∃ l1,mapO (tell st.bx depth) l=some l1/\K (stripL l1) :=
 y3dY (fun d K h=>y4vY hs 8 depth d K (by decide) h) h
mutual
theorem refsX_closed (n:Nat):∀ (d:D),closed d=true->refsX s n d=[]
 | .agg cs,h=>by
   cases n with
   | zero=>rfl
   | succ n=>simp only [refsX];exact refsLs_closed n cs (by simpa [closed] using h)
 | .tup cs,h=>by
   cases n with
   | zero=>rfl
   | succ n=>simp only [refsX];exact refsLs_closed n cs (by simpa [closed] using h)
 | .fn f a b,h=>by
   cases n with
   | zero=>rfl
   | succ n =>
     simp only [closed,Bool.and_eq_true] at h
     simp only [refsX,refsLs_closed n a h.1,refsLs_closed n b h.2,List.append_nil]
 | .iface t x,h=>by
   cases n with
   | zero=>rfl
   | succ n=>simp only [refsX];exact refsX_closed n x (by simpa [closed] using h)
 | .own _ _,h=>by simp [closed] at h
 | .ptr _ _ _,h=>by simp [closed] at h
 | .eptr _ _ _ _,h=>by simp [closed] at h
 | .mapr _ _,h=>by simp [closed] at h
 | .junk,_=>by cases n<;>rfl
 | .undef,_=>by cases n<;>rfl
 | .int _ _,_=>by cases n<;>rfl
 | .bool _,_=>by cases n<;>rfl
 | .str _,_=>by cases n<;>rfl
 | .sl _ _ _,_=>by cases n<;>rfl
 | .vptr _ _,_=>by cases n<;>rfl
 | .nilp,_=>by cases n<;>rfl
 | .nilf,_=>by cases n<;>rfl
 | .nili,_=>by cases n<;>rfl
 | .opq,_=>by cases n<;>rfl
 | .mapv _,_=>by cases n<;>rfl
 | .nilm,_=>by cases n<;>rfl
theorem refsLs_closed (n:Nat):∀ (l:List D),closedL l=true->y1iY (refsX s n) l=[]
 | [],_=>rfl
 | x::r,h=>by
   simp only [closedL,Bool.and_eq_true] at h
   simp only [y1iY,refsX_closed n x h.1,refsLs_closed n r h.2,List.append_nil]
end
def RefOk (s:DS) (st:St) (n:Nat) (d:D):Prop:=(∀ m,n<=m->∀ k,k∈refs st.bx m d↔k∈refsX s n d)/\(refsX s n d=[]->closed d=true)
def ybxY (s:DS) (st:St) (n:Nat) (l:List D):Prop:=(∀ m,n<=m->∀ k,k∈l.flatMap (refs st.bx m)↔k∈y1iY (refsX s n) l)/\(y1iY (refsX s n) l=[]->closedL l=true)
theorem RefOk.of_closed {n:Nat} {d:D} (h:closed d=true):RefOk s st n d :=
 ⟨fun m _ k=>by rw [ybnY m h,refsX_closed n d h],fun _=>h⟩
theorem y3eY (hs:SatF B bE ks s st) {n:Nat} (ih:∀ d K,tellX s n d K->RefOk s st n d):∀ {l:List D} {K:List D->Prop},y28Y (tellX s n) l K->ybxY s st n l
 | [],K,h=>⟨fun m _ k=>by simp [y1iY],fun _=>rfl⟩
 | x::r,K,h=>by
   simp only [y28Y] at h
   obtain ⟨h1,h2⟩:=ih x _ h
   obtain ⟨d1,_,h3⟩:=y4vY hs n n x _ (Nat.le_refl _) h
   obtain ⟨h4,h5⟩:=y3eY hs ih h3
   refine ⟨fun m hm k=>?_,fun he=>?_⟩
   ·simp only [List.flatMap_cons,List.mem_append,y1iY,h1 m hm k,h4 m hm k]
   ·simp only [y1iY,List.append_eq_nil_iff] at he
    simp only [closedL,h2 he.1,h5 he.2,Bool.and_self]
theorem y8pY (hs:SatF B bE ks s st):∀ (n:Nat) (d:D) (K:D->Prop),tellX s n d K->RefOk s st n d
 | 0,_,_,h=>by simp [tellX] at h
 | n+1,d,K,h=>by
   have ih:=fun d K=>y8pY hs n d K
   have parts:∀ (l:List D),(∀ m,¬closed d=true->∀ k,k∈refs st.bx (m+1) d↔k∈l.flatMap (refs st.bx m))->(closed d=closedL l)->refsX s (n+1) d=y1iY (refsX s n) l->ybxY s st n l->RefOk s st (n+1) d:=by
    intro l h1 h2 h3 ⟨h4,h5⟩
    by_cases hc:closed d=true
    ·exact .of_closed hc
    ·refine ⟨fun m hm k=>?_,fun he=>?_⟩
     ·cases m with
      | zero=>omega
      | succ m=>rw [h1 m hc k,h3,h4 m (by omega) k]
     ·rw [h3] at he
      rw [h2]
      exact h5 he
   cases d<;>simp only [tellX] at h
   case sl=>exact .of_closed (by simpa [closed] using h.1.1)
   case mapv=>exact .of_closed (by simpa [closed] using h.1.1)
   case vptr=>exact .of_closed (by simpa [closed] using h.1.1)
   case own k g =>
    obtain ⟨h1,h2,h⟩:=y1zY hs h
    obtain ⟨sz,e,h3,⟨h4,h5⟩,h⟩:=y2uY h
    refine ⟨fun m hm k'=>?_,fun he=>by simp [refsX] at he⟩
    cases m with
    | zero=>omega
    | succ m=>simp [refs,closed,refsX,y3bY m h4]
   case mapr k g =>
    obtain ⟨h1,h2,h⟩:=y1zY hs h
    obtain ⟨h3,c,es,h6,⟨h4,h5⟩,h⟩:=y48Y h
    refine ⟨fun m hm k'=>?_,fun he=>by simp [refsX] at he⟩
    cases m with
    | zero=>omega
    | succ m =>
      have:closedL (.int .i64 c::es)=true:=by simp [closedL,closed,h4]
      simp [refs,closed,refsX,h6,y3bY m this]
   case ptr k g off =>
    have hf:∃ b,find s.bx k=some b:=by
     unfold y1sY at h
     split at h
     ·exact ⟨_,by assumption⟩
     ·exact h.elim
    obtain ⟨b,hb⟩:=hf
    obtain ⟨h1,h2,h⟩:=y1zY hs h
    obtain ⟨h3,h⟩:=y4uY h
    obtain ⟨h4,h5⟩:=y3eY hs ih h
    refine ⟨fun m hm k'=>?_,fun he=>by simp [refsX] at he⟩
    cases m with
    | zero=>omega
    | succ m =>
      have h6:=h4 m (by omega) k'
      rw [hs.bx k b hb] at h6
      simp only [refs,closed,Bool.false_eq_true,if_false,refsX,hb,List.mem_cons]
      rw [hs.bx k b hb,h6]
   case agg cs=>exact parts cs (fun m hc k=>by simp [refs,hc]) (by simp [closed]) rfl (y3eY hs ih h)
   case tup cs=>exact parts cs (fun m hc k=>by simp [refs,hc]) (by simp [closed]) rfl (y3eY hs ih h)
   case fn f a b =>
    have ha:=y3eY hs ih h
    obtain ⟨a1,_,h2⟩:=y3dY (st:=st) (m:=n) (fun d K=>y4vY hs n n d K (Nat.le_refl _)) h
    have hb:=y3eY hs ih h2
    by_cases hc:closed (.fn f a b)=true
    ·exact .of_closed hc
    ·refine ⟨fun m hm k=>?_,fun he=>?_⟩
     ·cases m with
      | zero=>omega
      | succ m =>
        simp only [refs]
        rw [if_neg hc]
        simp only [refsX,List.mem_append,ha.1 m (by omega) k,hb.1 m (by omega) k]
     ·simp only [refsX,List.append_eq_nil_iff] at he
      simp only [closed,ha.2 he.1,hb.2 he.2,Bool.and_self]
   case iface t x =>
    have hx:=ih x _ h
    by_cases hc:closed (.iface t x)=true
    ·exact .of_closed hc
    ·refine ⟨fun m hm k=>?_,fun he=>?_⟩
     ·cases m with
      | zero=>omega
      | succ m =>
        simp only [refs]
        rw [if_neg hc]
        simp only [refsX,hx.1 m (by omega) k]
     ·simp only [refsX] at he
      simp only [closed,hx.2 he]
   all_goals exact .of_closed rfl
theorem y6vY (k:Nat):∀ l:List Nat,memX k l=true↔k∈l
 | []=>by simp [memX]
 | j::r=>by
   simp only [memX]
   cases h:Nat.beq k j with
   | true=>rw [Nat.beq_eq] at h;simp [h]
   | false =>
     have:k≠j:=fun e=>by subst e;simp at h
     simp [y6vY k r,this]
theorem y6wY (l:List Nat):∀ (bx:List (Nat × Box)) (k:Nat),find (y44Y l bx) k=(find bx k).map fun b=>match memX k l with|true=>(match b.st with|.rw=>⟨b.gen,.ro,b.kd,b.cs⟩|_=>b)|false=>b
 | [],k=>rfl
 | (j,b)::r,k=>by
   simp only [y44Y,find]
   cases h:Nat.beq k j with
   | true=>rw [Nat.beq_eq] at h;subst h;rfl
   | false=>exact y6wY l r k
theorem ybyY {bx:List (Nat × Box)}:∀ {l:List Nat},y45Y bx l=true->∀ k∈l,∃ b,find bx k=some b
 | [],_,k,hk=>by simp at hk
 | j::r,h,k,hk=>by
   simp only [y45Y] at h
   split at h
   ·rename_i b hb
    rcases List.mem_cons.1 hk with rfl|hk
    ·exact ⟨b,hb⟩
    ·exact ybyY h k hk
   ·simp at h
theorem SatF.freeze {l l':List Nat} (hs:SatF B bE ks s st) (h:∀ k,k∈l'↔k∈l) (hf:y45Y s.bx l=true):SatF B bE ks ⟨s.tm,y44Y l s.bx,s.fr⟩ ⟨st.tm,AM.freeze st.bx l'⟩ where
 tm:=hs.tm
 bx:=fun k b' hb=>by
  simp only [y6wY,Option.map_eq_some_iff] at hb
  obtain ⟨b,hb,rfl⟩:=hb
  have hk:=hs.bx k b hb
  simp only [AM.freeze]
  rw [hk]
  cases hm:memX k l with
  | true =>
    have:k∈l':=(h k).2 ((y6vY k l).1 hm)
    cases hst:b.st<;>simp [this]
  | false =>
    have:k∉l':=fun h2=>by
     have:=(y6vY k l).2 ((h k).1 h2)
     rw [hm] at this
     simp at this
    simp [this]
 fr:=fun hf k hk=>by
  simp only [y6wY,Option.map_eq_none_iff] at hk
  have:=hs.fr hf k hk
  simp only [AM.freeze]
  split
  ·rename_i hc;rw [this.2] at hc;simp at hc
  ·exact this
 fm:=fun k hk hn=>by
  have h1:=hs.fm k hk hn
  simp only [AM.freeze]
  split
  ·rename_i hc
   obtain ⟨b,hb⟩:=ybyY hf k ((h k).1 hc.1)
   exact absurd (hs.sub k b hk hb) hn
  ·exact h1
 sub:=fun k b hk hb=>by
  simp only [y6wY,Option.map_eq_some_iff] at hb
  obtain ⟨b,hb,_⟩:=hb
  exact hs.sub k b hk hb
theorem yhcY (hs:SatF B bE ks s st) {pm:Bool} {g:Nat} {l:List D} {K:D->List (Nat × Box)->Prop} (h:callX V pm s g l K) :
 ∃ l1 r bx,mapO (tell st.bx depth) l=some l1/\V.v g (stripL l1) r/\K r bx /\
   (pm=true->(closedL l||scalar r)=true/\SatF B bE ks ⟨s.tm,bx,s.fr⟩ st)/\SatF B bE ks ⟨s.tm,bx,s.fr⟩ (if scalar r then st else ⟨st.tm,AM.freeze st.bx (l.flatMap (refs st.bx depth))⟩):=by
 unfold callX at h
 have hr:=y3eY hs (fun d K=>y8pY hs 8 d K) h
 obtain ⟨l1,h1,r,h2,h3⟩:=ybwY hs h
 cases hsc:scalar r with
 | true =>
   rw [hsc] at h3
   exact ⟨l1,r,s.bx,h1,h2,h3,fun _=>⟨by simp [hsc],hs⟩,by simp only [hsc,if_true];exact hs⟩
 | false =>
   rw [hsc] at h3
   simp only at h3
   split at h3
   ·rename_i he
    have hc:=hr.2 he
    refine ⟨l1,r,s.bx,h1,h2,h3,fun _=>⟨by simp [hc],hs⟩,?_⟩
    rw [y3bY _ hc]
    have:AM.freeze st.bx []=st.bx:=by funext k;simp [AM.freeze]
    rw [this]
    simp only [hsc,Bool.false_eq_true,if_false]
    exact hs
   ·rename_i k ks he
    cases pm with
    | true=>exact h3.elim
    | false =>
      simp only at h3
      split at h3
      ·rename_i hfd
       refine ⟨l1,r,_,h1,h2,h3,fun e=>by simp at e,?_⟩
       simp only [hsc,Bool.false_eq_true,if_false]
       exact hs.freeze (fun k'=>by rw [←he];exact hr.1 depth (by decide) k') hfd
      ·exact h3.elim
theorem ybzY (hs:SatF B bE ks s st):∀ {l:List (Nat × Nat × Opd)} {K:List (Nat × Nat × D)->Prop},y6uY s l K->K (l.map fun p=>(p.1,p.2.1,p.2.2.get st.tm))
 | [],K,h=>h
 | (a,b,x)::r,K,h=>by
   simp only [y6uY] at h
   exact ybzY (K:=fun l=>K ((a,b,x.get st.tm)::l)) hs (yaY hs h)
theorem yc0Y:∀ {l:List (Nat × Nat × D)} {cs:List D} {K:List D->Prop},y5uY cs l K->∃ r,y3rY cs l=some r/\K r
 | [],cs,K,h=>⟨cs,rfl,by simpa [y5uY] using h⟩
 | (off,n,v)::r,cs,K,h=>by
   simp only [y5uY] at h
   split at h
   ·rename_i he ho
    rw [Nat.beq_eq] at he
    obtain ⟨h2,h3⟩:=y4tY h
    obtain ⟨r',h4,h5⟩:=yc0Y h3
    refine ⟨r',?_,h5⟩
    simp only [y3rY]
    rw [if_pos ⟨he,ho,by omega⟩]
    exact h4
   ·exact h.elim
theorem y8qY:∀ {l:List D} {n:Nat} {d:D} {K:List D->Prop},setX l n d K->n<l.length/\K (l.set n d)
 | [],_,_,_,h=>by simp [setX] at h
 | _::r,0,d,K,h=>⟨by simp,by simpa [setX] using h⟩
 | x::r,n+1,d,K,h=>by
   simp only [setX] at h
   obtain ⟨h1,h2⟩:=y8qY h
   exact ⟨by simp;omega,by simpa using h2⟩
theorem y8rY (hs:SatF B bE ks s st) {sz:Nat}:∀ {ps:List (Nat × Opd)} {l:List D} {K:List D->Prop},elsX s sz l ps K->∃ r,y26Y sz l (ps.map fun p=>(p.1,p.2.get st.tm))=some r/\K r
 | [],l,K,h=>⟨l,rfl,by simpa [elsX] using h⟩
 | (i,x)::r,l,K,h=>by
   simp only [elsX] at h
   have h:=yaY hs h
   split at h
   ·rename_i he ho
    rw [Nat.beq_eq] at he
    obtain ⟨h2,h3⟩:=y8qY h
    obtain ⟨r',h4,h5⟩:=y8rY hs h3
    refine ⟨r',?_,h5⟩
    simp only [List.map_cons,y26Y]
    rw [if_pos ⟨he,ho,h2⟩]
    exact h4
   ·exact h.elim
theorem yc1Y {isMax:Bool} {k:IntKind}:∀ {l:List D} {a:Int} {K:Int->Prop},minX Ops.std isMax k a l K->∃ n,mmD isMax k a l=some n/\K n
 | [],a,K,h=>⟨a,rfl,by simpa [minX] using h⟩
 | d::r,a,K,h=>by
   cases d<;>simp only [minX] at h
   obtain ⟨rfl,h⟩:=h
   obtain ⟨n,h1,h2⟩:=yc1Y h
   exact ⟨n,by simpa [mmD,Ops.std] using h1,h2⟩
theorem yc2Y (hs:SatF B bE ks s st) {k g:Nat} {m:D} {c:Int} {ks:List D} {K:List D->Prop} (hg:(st.bx k).gen=g) (hst:(st.bx k).st=.rw) (hkd:(st.bx k).kd=.iter) (hcs:(st.bx k).cs=m::.int .i64 c::ks) (h:valX.iterX s m c K):∃ es,y3aY st.bx (.ptr k g 0)=some (k,es,ks)/\K es:=by
 unfold valX.iterX at h
 split at h
 ·rename_i i g'
  obtain ⟨h1,h2,h⟩:=y1zY hs h
  obtain ⟨h3,n,es,h4,hnc,hk⟩:=y48Y h
  subst hnc
  refine ⟨es,?_,hk⟩
  simp only [y3aY,hg,hst,hkd,hcs]
  rw [if_pos ⟨trivial,trivial,trivial⟩]
  have:y2hY st.bx (.mapr i g')=some n:=by
   simp only [y2hY]
   rw [if_pos ⟨h1,h2,h3⟩,h4]
   rfl
  rw [if_pos this,h4]
  rfl
 ·rename_i es
  refine ⟨es,?_,h⟩
  simp only [y3aY,hg,hst,hkd,hcs]
  rw [if_pos ⟨trivial,trivial,trivial⟩]
 ·refine ⟨[],?_,h⟩
  simp only [y3aY,hg,hst,hkd,hcs]
  rw [if_pos ⟨trivial,trivial,trivial⟩]
 ·exact h.elim
theorem yhdY (hs:SatF B bE ks s st) (C:Nat->List D->Option D) {k:A} {K:D->Prop} (h:valX Ops.std s k K):∃ d,valD st.tm st.bx C k=some d/\K d:=by
 cases k<;>simp only [valX] at h
 case mov x=>exact ⟨_,rfl,yaY hs h⟩
 case pick c a b =>
  have h:=yaY hs h
  split at h
  ·rename_i t ht
   simp only [valD,ht]
   refine ⟨_,rfl,?_⟩
   cases t with
   | true=>simp only [if_true] at h ⊢;exact yaY hs h
   | false=>simp only [Bool.false_eq_true,if_false] at h ⊢;exact yaY hs h
  ·exact h.elim
 case build zero parts =>
  obtain ⟨r,h1,h2⟩:=yc0Y (ybzY hs h)
  exact ⟨_,by simp only [valD,h1,Option.map_some],h2⟩
 case mkSl v sz e zero len parts =>
  cases v with
  | false=>simp at h
  | true =>
    simp only at h
    split at h
    ·rename_i he
     rw [Nat.beq_eq] at he
     obtain ⟨r,h1,h2,h3⟩:=y8rY hs h
     refine ⟨_,?_,h3⟩
     simp only [valD]
     rw [if_pos he,h1]
     simp [h2.c]
    ·exact h.elim
 case appP sz bytes x y =>
  have h:=yaY hs (yaY hs h)
  obtain ⟨r,h1,h2⟩:=y5yY hs h
  simp only [valD,h1,Option.bind_some]
  split at h2
  ·rename_i e
   obtain ⟨rfl,h3,⟨h4⟩,h5,h6⟩:=h2
   rw [e]
   simp only
   simp only [Ops.std] at h4
   rw [if_pos ⟨trivial,h3,y5vY h4,h5.c⟩]
   exact ⟨_,rfl,h6⟩
  ·exact h2.elim
 case load n ag x=>exact y5zY hs (yaY hs h)
 case fAddr off x =>
  have h:=yaY hs h
  simp only [valD]
  split at h
  ·rename_i e
   obtain ⟨h1,h2⟩:=y5xY hs h
   rw [e]
   simp only [y1hY]
   rw [if_pos h1]
   exact ⟨_,rfl,h2⟩
  ·rename_i e
   obtain ⟨h1,h2⟩:=y5xY hs h
   rw [e]
   simp only [y1hY]
   rw [if_pos h1]
   exact ⟨_,rfl,h2⟩
  ·rename_i e
   rw [e]
   exact ⟨_,rfl,h⟩
  ·exact h.elim
 case fAddrP off x =>
  have h:=yaY hs h
  simp only [valD]
  split at h
  ·rename_i e
   obtain ⟨h1,h2,h⟩:=y1zY hs h
   obtain ⟨h3,h4⟩:=y4uY h
   rw [e]
   simp only
   rw [if_pos ⟨h1,h2,h3⟩]
   exact ⟨_,rfl,h4⟩
  ·rename_i e
   rw [e]
   exact ⟨_,rfl,h⟩
  ·exact h.elim
 case loadP n ag x =>
  have h:=yaY hs h
  simp only [valD]
  split at h
  ·rename_i e;rw [e];exact y5zY hs h
  ·rename_i e;rw [e];exact y5zY hs h
  ·exact h.elim
 case fld off n ag x =>
  have h:=yaY hs h
  simp only [valD]
  split at h
  ·rename_i e
   obtain ⟨h1,d,h2,h3⟩:=y5wY h
   rw [e]
   simp only
   rw [if_pos h1]
   exact ⟨d,h2,h3⟩
  ·exact h.elim
 case iAddrS sz x i =>
  have h:=yaY hs (yaY hs h)
  simp only [valD]
  split at h
  ·rename_i k n e
   split at h
   ·rename_i e2
    obtain ⟨rfl,y,⟨h1,h2⟩,h3⟩:=h
    rw [e,e2]
    simp only [natOf,if_pos h1,Option.bind_some,if_true,h2,Option.map_some]
    exact ⟨_,rfl,h3⟩
   ·rename_i e2
    obtain ⟨h1,h2,h⟩:=y1zY hs h
    obtain ⟨sz',et,h3,rfl,⟨h4⟩,⟨h5⟩,h6⟩:=y2uY h
    rw [e,e2]
    simp only [natOf,if_pos h4,Option.bind_some]
    simp only [Ops.std] at h5 h6
    rw [if_pos ⟨h1,h2,by rw [h3];simp [arrIs],by omega⟩]
    exact ⟨_,rfl,h6⟩
   ·exact h.elim
  ·exact h.elim
 case iAddrA sz len x i =>
  have h:=yaY hs (yaY hs h)
  simp only [valD]
  split at h
  ·rename_i k j e
   split at h
   ·rename_i hj
    rw [Nat.blt_eq] at hj
    rw [e]
    simp only [natOf,if_true,Option.bind_some,Int.ofNat_eq_natCast,Int.toNat_natCast,Int.natCast_nonneg]
    rw [if_pos hj]
    split at h
    ·rename_i e2
     obtain ⟨h1,h2⟩:=y5xY hs h
     rw [e2]
     simp only [y1hY]
     rw [if_pos h1]
     exact ⟨_,rfl,h2⟩
    ·rename_i e2
     rw [e2]
     exact ⟨_,rfl,h⟩
    ·exact h.elim
   ·exact h.elim
  ·exact h.elim
 case idxStr x i =>
  have h:=yaY hs (yaY hs h)
  simp only [valD]
  split at h
  ·rename_i e1 e2
   obtain ⟨b,⟨h1⟩,h2,h3⟩:=h
   rw [e1,e2]
   simp only [natOf,if_pos h1,Option.bind_some,h2,Option.map_some]
   exact ⟨_,rfl,h3⟩
  ·exact h.elim
 case idxArr sz len ag x i =>
  have h:=yaY hs (yaY hs h)
  simp only [valD]
  split at h
  ·rename_i e1 e2
   split at h
   ·rename_i hj
    rw [Nat.blt_eq] at hj
    obtain ⟨h1,d,h2,h3⟩:=y5wY h
    rw [e1,e2]
    simp only [natOf,if_true,Option.bind_some,Int.ofNat_eq_natCast,Int.toNat_natCast,Int.natCast_nonneg]
    rw [if_pos ⟨hj,h1⟩]
    exact ⟨d,h2,h3⟩
   ·exact h.elim
  ·exact h.elim
 case bin op x y=>exact yhaY (yaY hs (yaY hs h))
 case eqb neg x y =>
  have h:=yaY hs (yaY hs h)
  simp only [valD]
  split at h
  ·rename_i e1 e2
   rw [e1,e2]
   exact ⟨_,rfl,h _ rfl⟩
  ·exact h.elim
 case eqn neg x y =>
  have h:=yaY hs (yaY hs h)
  simp only [valD]
  split at h
  ·rename_i e1 e2
   rw [e1,e2]
   cases neg<;>exact ⟨_,rfl,h⟩
  ·rename_i e1 e2
   rw [e1,e2]
   cases neg<;>exact ⟨_,rfl,h⟩
  ·rename_i e1 e2
   rw [e1,e2]
   cases neg<;>exact ⟨_,rfl,h⟩
  ·exact h.elim
 case eqa neg ts x y =>
  have h:=yaY hs (yaY hs h)
  simp only [valD]
  split at h
  ·rename_i xs ys e1 e2
   obtain ⟨h1,h2⟩:=h
   rw [e1,e2]
   cases hq:ylY ts xs ys with
   | none=>rw [hq] at h1;simp at h1
   | some b =>
     refine ⟨.bool (b != neg),by simp only [hq,Option.map_some],?_⟩
     simpa [Ops.std,hq] using h2 _ rfl
  ·exact h.elim
 case un op x =>
  have h:=yaY hs h
  simp only [valD]
  cases hx:x.get st.tm<;>rw [hx] at h<;>cases op<;>simp only at h
  ·exact ⟨_,by simp [unD,Op.unary,yzY,pure,Ops.std,y2mY,Op.intArith],h⟩
  ·rename_i b _
   refine ⟨.bool (!b),by simp [unD,Op.unary,yzY,pure],?_⟩
   cases b<;>exact h
 case cvInt k x =>
  have h:=yaY hs h
  simp only [valD]
  split at h
  ·rename_i e
   rw [e]
   exact ⟨_,rfl,h⟩
  ·exact h.elim
 case cvId x =>
  have h:=yaY hs h
  simp only [valD]
  split at h
  ·rename_i e
   rw [e]
   exact ⟨_,rfl,h⟩
  ·exact h.elim
 case cvSB x =>
  have h:=yaY hs h
  simp only [valD]
  split at h
  ·rename_i e
   rw [e]
   exact ⟨_,rfl,h⟩
  ·exact h.elim
 case cvBS x =>
  have h:=yaY hs h
  obtain ⟨r,h1,h2⟩:=y5yY hs h
  simp only [valD,h1,Option.bind_some]
  split at h2
  ·rename_i he
   rw [Nat.beq_eq] at he
   obtain ⟨l,h3,h4⟩:=h2
   rw [if_pos he,h3]
   exact ⟨_,rfl,h4⟩
  ·exact h2.elim
 case ext i x =>
  have h:=yaY hs h
  simp only [valD]
  split at h
  ·rename_i e
   rw [e]
   simp only
   split at h
   ·rename_i d hd
    exact ⟨d,hd,h⟩
   ·exact h.elim
  ·exact h.elim
 case lenStr x =>
  have h:=yaY hs h
  simp only [valD]
  split at h
  ·rename_i e
   rw [e]
   exact ⟨_,rfl,h⟩
  ·exact h.elim
 case lenSl x =>
  obtain ⟨r,h1,h2⟩:=y5yY hs (yaY hs h)
  simp only [valD,h1,Option.map_some]
  exact ⟨_,rfl,h2⟩
 case lenMap x =>
  obtain ⟨r,h1,h2⟩:=ybvY hs (yaY hs h)
  simp only [valD,h1,Option.map_some]
  exact ⟨_,rfl,h2⟩
 case mm isMax k x ys =>
  have h:=y4sY hs (yaY hs h)
  simp only [valD]
  split at h
  ·rename_i e
   obtain ⟨rfl,h⟩:=h
   obtain ⟨n,h1,h2⟩:=yc1Y h
   rw [e]
   simp only [if_true,h1,Option.map_some]
   exact ⟨_,rfl,h2⟩
  ·exact h.elim
 case slcStr x lo hi =>
  have h:=yaY hs h
  simp only [valD]
  split at h
  ·rename_i t e
   rw [e]
   simp only
   have key:∀ (hd ld:D),(match hd,ld with|.int _ h,.int _ l=>LeX 0 l/\LeX l h/\LeX h (Ops.std .slen t)/\K (.str (Ops.std .subS t l h))|_,_=>False) ->
    ∃ d,((natOf hd).bind fun h=>(natOf ld).bind fun l=>if l<=h/\h<=t.size then some (D.str (t.extract l h)) else none)=some d/\K d:=by
    intro hd ld h
    split at h
    ·rename_i _ b _ a
     obtain ⟨⟨h1⟩,⟨h2⟩,⟨h3⟩,h4⟩:=h
     simp only [Ops.std] at h3 h4
     simp only [natOf,if_pos h1,if_pos (show 0<=b by omega),Option.bind_some]
     rw [if_pos ⟨by omega,by omega⟩]
     exact ⟨_,rfl,h4⟩
    ·exact h.elim
   cases hi with
   | some hx =>
     have h:=yaY hs h
     cases lo with
     | some lx=>exact key _ _ (yaY hs h)
     | none=>simpa [natOf] using key _ _ h
   | none =>
     cases lo with
     | some lx =>
       change getX s lx _ at h
       simpa [natOf] using key (.int .i64 t.size) _ (yaY hs h)
     | none =>
       simpa [natOf] using key (.int .i64 t.size) (.int .i64 0) h
  ·exact h.elim
 case slc sz x lo hi =>
  have h:=yaY hs h
  simp only [valD]
  split at h
  ·rename_i sz' nl xs e
   rw [e]
   simp only
   have key:∀ (hd ld:D),(match hd,ld with|.int _ h,.int _ l=>sz'=sz/\LeX 0 l/\LeX l h/\LeX h (Ops.std .len xs)/\K (.sl sz false (Ops.std .subL xs l h))|_,_=>False) ->
    ∃ d,((natOf hd).bind fun h=>(natOf ld).bind fun l=>if sz'=sz/\l<=h/\h<=xs.length then some (D.sl sz false ((xs.take h).drop l)) else none)=some d/\K d:=by
    intro hd ld h
    split at h
    ·rename_i _ b _ a
     obtain ⟨h0,⟨h1⟩,⟨h2⟩,⟨h3⟩,h4⟩:=h
     simp only [Ops.std] at h3 h4
     simp only [natOf,if_pos h1,if_pos (show 0<=b by omega),Option.bind_some]
     rw [if_pos ⟨h0,by omega,by omega⟩]
     exact ⟨_,rfl,h4⟩
    ·exact h.elim
   cases hi with
   | some hx =>
     have h:=yaY hs h
     cases lo with
     | some lx=>exact key _ _ (yaY hs h)
     | none=>simpa [natOf] using key _ _ h
   | none =>
     cases lo with
     | some lx =>
       change getX s lx _ at h
       simpa [natOf] using key (.int .i64 xs.length) _ (yaY hs h)
     | none =>
       simpa [natOf] using key (.int .i64 xs.length) (.int .i64 0) h
  ·exact h.elim
 case mkf f first caps=>exact ⟨_,rfl,y4sY hs (y4sY hs h)⟩
 case mki t x=>exact ⟨_,rfl,yaY hs h⟩
 case asr t zero ok x =>
  have h:=yaY hs h
  simp only [valD]
  split at h
  ·rename_i t' d e
   rw [e]
   simp only
   split at h
   ·rename_i he
    rw [Nat.beq_eq] at he
    rw [if_pos he]
    cases ok<;>exact ⟨_,rfl,h⟩
   ·rename_i he
    rw [if_neg (fun e=>by subst e;simp at he)]
    cases ok with
    | true=>exact ⟨_,rfl,h⟩
    | false=>exact h.elim
  ·rename_i e
   rw [e]
   cases ok with
   | true=>exact ⟨_,rfl,h⟩
   | false=>exact h.elim
  ·exact h.elim
 case nilc x =>
  have h:=yaY hs h
  simp only [valD]
  split at h
  ·rename_i e;rw [e];exact ⟨_,rfl,h⟩
  ·rename_i e
   obtain ⟨h1,h2⟩:=y5xY hs h
   rw [e]
   simp only [y1hY]
   rw [if_pos h1]
   exact ⟨_,rfl,h2⟩
  ·rename_i e
   obtain ⟨h1,h2⟩:=y5xY hs h
   rw [e]
   simp only [y1hY]
   rw [if_pos h1]
   exact ⟨_,rfl,h2⟩
  ·rename_i e;rw [e];exact ⟨_,rfl,h⟩
  ·exact h.elim
 case look kt zero ok m k =>
  have h:=yaY hs (yaY hs h)
  obtain ⟨es,h1,h2,r,h3,h4⟩:=ybvY hs h
  simp only [valD,h1,Option.bind_some]
  rw [if_pos h2,h3]
  simp only [Option.map_some]
  refine ⟨_,rfl,?_⟩
  cases r<;>cases ok<;>exact h4
 case entry it =>
  have h:=yaY hs h
  simp only [valD]
  split at h
  ·rename_i k g e
   obtain ⟨h1,h2,h⟩:=y2nY hs h
   obtain ⟨h3,m,c,ks,h4,h⟩:=ybuY h
   obtain ⟨es,h5,kd,v,h6,h7,h8⟩:=yc2Y hs h1 h2 h3 h4 h
   rw [e,h5]
   simp only [Option.bind_some,h6,h7,Option.map_some]
   exact ⟨_,rfl,h8⟩
  ·exact h.elim
end
section
variable {V R:Ans} {base:Nat} {s:DS} {st:St} {bE:Nat->Box} {ks:Nat->Prop}
theorem y29Y (hs:SatF base bE ks s st) {q:Nat} {K:Nat->Prop} (h:newX s q K):K ((st.bx q).gen+1):=by
 unfold newX at h
 split at h
 ·rename_i b hb;rw [hs.bx q b hb];exact h
 ·rename_i hn
  split at h
  ·rename_i hf;rw [(hs.fr hf q hn).1];exact h
  ·exact h _
theorem yc3Y (hs:SatF base bE ks s st) {q:Nat} {K:Prop} (h:slotX s q K):y3uY (st.bx q)=true/\K:=by
 unfold slotX at h
 unfold y3uY
 split at h
 ·rename_i b hb
  rw [hs.bx q b hb]
  split at h
  ·rename_i e;rw [e];exact ⟨rfl,h⟩
  ·rename_i hst
   split at h
   ·exact h.elim
   ·rename_i hkd
    refine ⟨?_,h⟩
    split
    ·rfl
    ·rename_i e _;exact (hkd e).elim
    ·rfl
 ·rename_i hn
  split at h
  ·rename_i hf
   rw [(hs.fr hf q hn).2]
   exact ⟨rfl,h⟩
  ·exact h.elim
theorem yheY (hs:SatF base bE ks s st) {q:Nat} {K:Prop} (h:deadX s q K):(st.bx q).st=.dead/\K:=by
 unfold deadX at h
 split at h
 ·rename_i b hb
  rw [hs.bx q b hb]
  split at h
  ·rename_i e;exact ⟨e,h⟩
  ·exact h.elim
 ·rename_i hn
  split at h
  ·rename_i hf
   exact ⟨(hs.fr hf q hn).2,h⟩
  ·exact h.elim
theorem SatF.newbox (hs:SatF base bE ks s st) (t t2:Nat) (d:D) (b:Box):SatF base bE ks ⟨putL s.tm t d,putL s.bx (base+t2) b,s.fr⟩ ⟨upd st.tm t d,upd st.bx (base+t2) b⟩:=(hs.box (base+t2) b (.inl (Nat.le_add_right _ _))).put t d
theorem SatF.oldbox (hs:SatF base bE ks s st) (t q:Nat) (d:D) (b:Box) (hk:base<=q∨ks q):SatF base bE ks ⟨putL s.tm t d,putL s.bx q b,s.fr⟩ ⟨upd st.tm t d,upd st.bx q b⟩:=(hs.box q b hk).put t d
theorem y1fY (R:Ans) (base:Nat):Tells R base (fun _ _=>none) ⟨base⟩:=⟨fun _ _ _ h=>by simp at h,rfl⟩
open Classical in
noncomputable def C1 (g:Nat) (l:List D) (r:D):Nat->List D->Option D:=fun g' l'=>if g'=g/\l'=l then some r else none
theorem yc4Y {g:Nat} {l:List D} {r:D} (h:R.v g l r) (base:Nat):Tells R base (C1 g l r) ⟨base⟩:=by
 refine ⟨fun g' l' r' h'=>?_,rfl⟩
 unfold C1 at h'
 split at h'
 ·rename_i e
  obtain ⟨rfl,rfl⟩:=e
  simp only [Option.some.injEq] at h'
  subst h'
  exact h
 ·simp at h'
theorem yc5Y (g:Nat) (l:List D) (r:D):C1 g l r g l=some r:=by simp [C1]
def Goes (bE:Nat->Box) (ks:Nat->Prop) (R:Ans) (base:Nat) (k:A) (dst:Option Nat) (st:St) (K:DS->Prop):Prop :=
 ∀ gd,∃ C T st' ds',Tells R base C T/\step C T ⟨dst,k,gd⟩ st=some st'/\SatF base bE ks ds' st'/\K ds'
theorem y6xY (hs:SatF base bE ks s st) {k:A} {dst:Option Nat} {K:DS->Prop} (hk:∀ (C:Nat->List D->Option D) T gd,step C T ⟨dst,k,gd⟩ st=(valD st.tm st.bx C k).map (putD st dst))
 (h:valX Ops.std s k fun d=>K (match dst with|some t=>⟨putL s.tm t d,s.bx,s.fr⟩|none=>s)):Goes bE ks R base k dst st K:=by
 intro gd
 obtain ⟨d,h1,h2⟩:=yhdY hs (fun _ _=>none) h
 refine ⟨_,_,_,_,y1fY R base,by rw [hk,h1];rfl,?_,h2⟩
 cases dst with
 | some t=>exact hs.put t d
 | none=>exact hs
theorem yc6Y (hV:V=R) (hs:SatF base bE ks s st) {pm:Bool} {f:Opd} {args:List Opd} {dst:Option Nat} {K:DS->Prop}
 (h:getX s f fun fv=>getsX s args fun l=>(match fv with
  | .fn g first caps=>callX V pm s g (first++l++caps) fun r bx=>K (match dst with|some t=>⟨putL s.tm t r,bx,s.fr⟩|none=>⟨s.tm,bx,s.fr⟩)
  | _=>False)):Goes bE ks R base (.call pm f args) dst st K:=by
 intro gd
 have h:=y4sY hs (yaY hs h)
 split at h
 ·rename_i g first caps e
  obtain ⟨l1,r,bx,h1,h2,h3,h4,h5⟩:=yhcY hs h
  subst hV
  cases pm with
  | true =>
    obtain ⟨h6,h7⟩:=h4 rfl
    refine ⟨C1 g (stripL l1) r,⟨base⟩,putD st dst r,_,yc4Y h2 base,?_,?_,h3⟩
    ·have:step (C1 g (stripL l1) r) ⟨base⟩ ⟨dst,.call true f args,gd⟩ st=(valD st.tm st.bx (C1 g (stripL l1) r) (.call true f args)).map (putD st dst):=by cases dst<;>rfl
     rw [this]
     simp only [valD,e,h1,Option.bind_some,yc5Y]
     rw [if_pos h6]
     rfl
    ·cases dst with
     | some t=>exact h7.put t r
     | none=>exact h7
  | false =>
    refine ⟨C1 g (stripL l1) r,⟨base⟩,putD (if scalar r then st else ⟨st.tm,AM.freeze st.bx ((first++args.map (·.get st.tm)++caps).flatMap (refs st.bx depth))⟩) dst r,_,yc4Y h2 base,?_,?_,h3⟩
    ·have:step (C1 g (stripL l1) r) ⟨base⟩ ⟨dst,.call false f args,gd⟩ st=match f.get st.tm with
      | .fn g' first caps =>
        (mapO (tell st.bx depth) (first++args.map (·.get st.tm)++caps)).bind fun l =>
         (C1 g (stripL l1) r g' (stripL l)).map fun r=>putD (if scalar r then st else ⟨st.tm,AM.freeze st.bx ((first++args.map (·.get st.tm)++caps).flatMap (refs st.bx depth))⟩) dst r
      | _=>none:=by cases dst<;>rfl
     rw [this,e]
     simp only [h1,Option.bind_some,yc5Y,Option.map_some]
    ·cases dst with
     | some t =>
       have:=h5.put t r
       simp only [putD]
       split at this<;>rename_i hsc<;>simp only [hsc,if_true,if_false,Bool.false_eq_true]<;>exact this
     | none=>exact h5
 ·exact h.elim
theorem yc7Y (hs:SatF base bE ks s st) {kt:Bool × List (Nat × EqT)} {m k:Opd} {dst:Option Nat} {K:DS->Prop}
 (h:stepX.delX s kt m k fun bx=>K (match dst with|some t=>⟨putL s.tm t (.tup []),bx,s.fr⟩|none=>⟨s.tm,bx,s.fr⟩)):Goes bE ks R base (.mdel kt m k) dst st K:=by
 intro gd
 unfold stepX.delX at h
 have h:=yaY hs (yaY hs h)
 split at h
 ·rename_i i g e
  have hown:=y2tY hs h
  obtain ⟨h1,h2,h⟩:=y2nY hs h
  obtain ⟨h3,c,es,h4,h5,es',h6,h7⟩:=y48Y h
  refine ⟨_,_,putD ⟨st.tm,upd st.bx i ⟨g,.rw,.map,.int .i64 c::es'⟩⟩ dst (.tup []),_,y1fY R base,?_,?_,h7⟩
  ·have:∀ C T,step C T ⟨dst,.mdel kt m k,gd⟩ st=match m.get st.tm with
    | .mapr i g=>if (st.bx i).gen=g/\(st.bx i).st=.rw/\(st.bx i).kd=.map/\keyOk kt (k.get st.tm)=true then (mdelD kt (k.get st.tm) (st.bx i).cs.tail).map fun es=>putD ⟨st.tm,upd st.bx i ⟨g,.rw,.map,(st.bx i).cs.headD .junk::es⟩⟩ dst (.tup []) else none
    | _=>none:=by intro C T;cases dst<;>rfl
   rw [this,e]
   simp only
   rw [if_pos ⟨h1,h2,h3,h5⟩,h4]
   simp only [List.tail_cons,h6,Option.map_some,List.headD_cons]
  ·cases dst with
   | some t=>exact (hs.box i _ hown).put t _
   | none=>exact hs.box i _ hown
 ·exact h.elim
theorem yc8Y (hV:V=R) (hs:SatF base bE ks s st) {f:Opd} {args:List Opd} {dst:Option Nat} {K:DS->Prop}
 (h:getX s f fun fv=>getsX s args fun l=>(match fv with
  | .fn g first caps=>sharedX V base s g (first++l++caps) fun r bx=>K (match dst with|some t=>⟨putL s.tm t r,bx,false⟩|none=>⟨s.tm,bx,false⟩)
  | _=>False)):callW R base f args dst st fun st'=>∃ ds',SatF base bE ks ds' st'/\K ds':=by
 have h:=y4sY hs (yaY hs h)
 split at h
 ·rename_i g first caps e
  obtain ⟨post,h1,h2,h3⟩:=h.h st.bx hs.bx
  subst hV
  refine ⟨g,first,caps,post,e,h1,h2,fun r bx' hp=>?_⟩
  obtain ⟨kn,h4,h5,h6⟩:=h3 r bx' hp
  have hs2:SatF base bE ks ⟨s.tm,kn,false⟩ ⟨st.tm,bx'⟩:={
   tm:=hs.tm
   bx:=h4
   fr:=fun hf=>by simp at hf
   fm:=fun k hk hn=>by
    have hnone:find s.bx k=none:=by
     cases hb:find s.bx k with
     | none=>rfl
     | some b=>exact absurd (hs.sub k b hk hb) hn
    exact (h5 k hk hnone).1.trans (hs.fm k hk hn)
   sub:=fun k b hk hb=>by
    cases hb2:find s.bx k with
    | some b2=>exact hs.sub k b2 hk hb2
    | none=>have:=(h5 k hk hb2).2;rw [this] at hb;simp at hb }
  cases dst with
  | some t=>exact ⟨_,hs2.put t r,h6⟩
  | none=>exact ⟨_,hs2,h6⟩
 ·exact h.elim
theorem yhfY (hV:V=R) (hs:SatF base bE ks s st) {k:A} {fa:Opd × List Opd} (hk:ypY k=some fa) {dst:Option Nat} {K:DS->Prop} (h:stepX Ops.std V base s k dst K):callW R base fa.1 fa.2 dst st fun st'=>∃ ds',SatF base bE ks ds' st'/\K ds':=by
 obtain ⟨f,l⟩:=fa
 obtain rfl:k=.icall f l:=by
  cases k<;>simp [ypY] at hk
  rw [hk.1,hk.2]
 cases dst with
 | some t=>simp only [stepX] at h;exact yc8Y hV hs h
 | none=>simp only [stepX] at h;exact yc8Y hV hs h
theorem yhgY (hV:V=R) (hs:SatF base bE ks s st) {k:A} (hsh:ypY k=none) {dst:Option Nat} {K:DS->Prop} (h:stepX Ops.std V base s k dst K):Goes bE ks R base k dst st K:=by
 cases dst with
 | some t =>
   cases k<;>simp only [stepX] at h
   case alloc zero =>
    intro gd
    exact ⟨_,_,_,_,y1fY R base,rfl,hs.newbox t t _ _,y29Y hs h⟩
   case allocF zero =>
    intro gd
    obtain ⟨h1,h2⟩:=yheY hs h
    refine ⟨_,_,_,_,y1fY R base,?_,hs.newbox t t _ _,y29Y hs h2⟩
    simp only [step]
    rw [if_pos h1]
   case box x =>
    intro gd
    obtain ⟨h1,h2⟩:=yaY hs h
    refine ⟨_,_,_,_,y1fY R base,?_,hs.newbox t t _ _,y29Y hs h2⟩
    simp only [step]
    rw [if_pos h1]
   case mkSl v sz e zero len parts =>
    cases v with
    | true=>simp only at h;exact y6xY hs (fun _ _ _=>rfl) h
    | false =>
      intro gd
      simp only at h
      split at h
      ·rename_i he
       rw [Nat.beq_eq] at he
       obtain ⟨r,h1,h2⟩:=y8rY hs h
       refine ⟨_,_,_,_,y1fY R base,?_,hs.newbox t t _ _,y29Y hs h2⟩
       simp only [step]
       rw [if_pos he,h1]
       rfl
      ·exact h.elim
   case app sz e bytes x y =>
    intro gd
    have h:=yaY hs (yaY hs h)
    obtain ⟨⟨sz',ys⟩,h1,h2⟩:=y5yY hs h
    simp only at h2
    split at h2
    ·rename_i he
     rw [Nat.beq_eq] at he
     subst he
     have hfr:closedL ys=true->AM.freeze st.bx (ys.flatMap (refs st.bx depth))=st.bx:=by
      intro hc
      rw [y3bY _ hc]
      funext k;simp [AM.freeze]
     split at h2
     ·rename_i k g e1
      have hown:=y2tY hs h2
      obtain ⟨h3,h4,h5,h2⟩:=y2nY hs h2
      obtain ⟨sz0,e0,h6,rfl,rfl,⟨h7⟩,h8⟩:=y2uY h2
      refine ⟨_,_,_,_,y1fY R base,?_,hs.oldbox t k (.own k (g+1)) ⟨g+1,.rw,.arr sz0 e0,(st.bx k).cs++ys⟩ hown,h8⟩
      simp only [step,h1,Option.bind_some,y2oY h5.c,e1,hfr h5.c]
      simp only [Ops.std] at h7
      rw [if_pos ⟨h3,h4,h6,trivial,y5vY (a:=(st.bx k).cs.length+ys.length) (by rw [Int.natCast_add];exact h7)⟩]
     ·rename_i sz0 e1
      obtain ⟨rfl,h5,⟨h7⟩,h8⟩:=h2
      refine ⟨_,_,_,_,y1fY R base,?_,hs.newbox t t _ _,y29Y hs h8⟩
      simp only [step,h1,Option.bind_some,y2oY h5.c,e1,hfr h5.c]
      simp only [Ops.std] at h7
      rw [if_pos ⟨trivial,trivial,y5vY h7⟩]
     ·exact h2.elim
    ·exact h2.elim
   case appD sz e bytes x y =>
    intro gd
    have h:=yaY hs (yaY hs h)
    obtain ⟨⟨sz',ys⟩,h1,h2⟩:=y5yY hs h
    simp only at h2
    split at h2
    ·rename_i he
     rw [Nat.beq_eq] at he
     subst he
     have hfr:closedL ys=true->AM.freeze st.bx (ys.flatMap (refs st.bx depth))=st.bx:=by
      intro hc
      rw [y3bY _ hc]
      funext k;simp [AM.freeze]
     split at h2
     ·rename_i k g e1
      have hown:=y2tY hs h2
      obtain ⟨h3,h4,h5,h2⟩:=y2nY hs h2
      obtain ⟨sz0,e0,h6,rfl,rfl,⟨h7⟩,h8⟩:=y2uY h2
      refine ⟨_,_,_,_,y1fY R base,?_,hs.oldbox t k (.own k (g+1)) ⟨g+1,.rw,.arr sz0 e0,(st.bx k).cs++ys⟩ hown,h8⟩
      simp only [step,appG,h1,Option.bind_some,y2oY h5.c,e1,hfr h5.c]
      simp only [Ops.std] at h7
      rw [if_pos ⟨h3,h4,h6,trivial,y5vY (a:=(st.bx k).cs.length+ys.length) (by rw [Int.natCast_add];exact h7)⟩]
      rfl
     ·rename_i sz0 e1
      obtain ⟨rfl,h5,⟨h7⟩,h8⟩:=h2
      obtain ⟨hso,h8⟩:=yc3Y hs h8
      refine ⟨_,_,_,_,y1fY R base,?_,hs.newbox t t _ _,y29Y hs h8⟩
      simp only [step,appG,h1,Option.bind_some,y2oY h5.c,e1,hfr h5.c]
      simp only [Ops.std] at h7
      rw [if_pos ⟨⟨trivial,trivial,y5vY h7⟩,hso⟩]
      rfl
     ·exact h2.elim
    ·exact h2.elim
   case mkSlF sz e zero =>
    intro gd
    split at h
    ·rename_i he
     rw [Nat.beq_eq] at he
     obtain ⟨hso,h⟩:=yc3Y hs h
     refine ⟨_,_,_,_,y1fY R base,?_,hs.newbox t t _ _,y29Y hs h⟩
     simp only [step]
     rw [if_pos ⟨he,hso⟩]
    ·exact h.elim
   case call pm f args=>exact yc6Y hV hs h
   case mkMap =>
    intro gd
    exact ⟨_,_,_,_,y1fY R base,rfl,hs.newbox t t _ _,y29Y hs h⟩
   case mkIter m =>
    intro gd
    have h:=yaY hs h
    split at h
    ·rename_i i g e
     obtain ⟨h1,h2,h⟩:=y1zY hs h
     obtain ⟨h3,c,es,h4,h⟩:=y48Y h
     refine ⟨_,_,_,_,y1fY R base,?_,hs.newbox t t _ _,y29Y hs h⟩
     have:y2hY st.bx (.mapr i g)=some c:=by
      simp only [y2hY]
      rw [if_pos ⟨h1,h2,h3⟩,h4]
      rfl
     simp only [step,e,this,Option.map_some]
    ·rename_i es e
     refine ⟨_,_,_,_,y1fY R base,?_,hs.newbox t t _ _,y29Y hs h⟩
     simp only [step,e,y2hY,Option.map_some]
    ·rename_i e
     refine ⟨_,_,_,_,y1fY R base,?_,hs.newbox t t _ _,y29Y hs h⟩
     simp only [step,e,y2hY,Option.map_some]
    ·exact h.elim
   case mdel kt m k=>exact yc7Y hs h
   case store=>simp [valX] at h
   case storeV=>simp [valX] at h
   case icall=>simp [ypY] at hsh
   case mput=>simp [valX] at h
   case next=>simp [valX] at h
   all_goals exact y6xY hs (fun _ _ _=>rfl) h
 | none =>
   cases k<;>simp only [stepX] at h
   case store n x v =>
    intro gd
    have h:=yaY hs (yaY hs h)
    split at h
    ·rename_i hn
     rw [Nat.beq_eq] at hn
     obtain ⟨ho,h⟩:=h
     split at h
     ·rename_i h0
      rw [Nat.blt_eq] at h0
      split at h
      ·rename_i k g off e
       have hown:=y2tY hs h
       obtain ⟨h1,h2,h⟩:=y2nY hs h
       obtain ⟨h3,h⟩:=y4uY h
       obtain ⟨h4,h5⟩:=y4tY h
       refine ⟨_,_,_,_,y1fY R base,?_,hs.box k ⟨g,.rw,.var,over (st.bx k).cs off (v.get st.tm).cells⟩ hown,h5⟩
       simp only [step,y1qY]
       rw [if_pos ⟨hn,ho,h0⟩,e]
       simp only
       rw [if_pos ⟨h1,h2,h3,by omega⟩]
       rfl
      ·rename_i k g i off e
       have hown:=y2tY hs h
       obtain ⟨h1,h2,h⟩:=y2nY hs h
       obtain ⟨sz,et,h3,y,hy,h⟩:=y2uY h
       obtain ⟨h4,h5⟩:=y4tY h
       refine ⟨_,_,_,_,y1fY R base,?_,hs.box k ⟨g,.rw,.arr sz et,(st.bx k).cs.set i (reD y (over y.cells off (v.get st.tm).cells))⟩ hown,h5⟩
       simp only [step,y1qY]
       rw [if_pos ⟨hn,ho,h0⟩,e]
       simp only
       rw [if_pos ⟨h1,h2,by rw [h3];rfl⟩,hy]
       simp only
       rw [if_pos (by omega),h3]
       rfl
      ·exact h.elim
     ·exact h.elim
    ·exact h.elim
   case storeV n x v y =>
    intro gd
    have h:=yaY hs (yaY hs (yaY hs h))
    split at h
    ·rename_i k g off k' g' off' e e'
     split at h
     ·rename_i hne
      split at h
      ·rename_i hn
       rw [Nat.beq_eq] at hn
       obtain ⟨ho,h⟩:=h
       split at h
       ·rename_i h0
        rw [Nat.blt_eq] at h0
        have hown:=y2tY hs h
        obtain ⟨h1,h2,h⟩:=y2nY hs h
        obtain ⟨h3,h⟩:=y4uY h
        obtain ⟨h4,h5⟩:=y4tY h
        refine ⟨_,_,_,_,y1fY R base,?_,hs.box k ⟨g,.rw,.var,over (st.bx k).cs off (v.get st.tm).cells⟩ hown,h5⟩
        simp only [step,y1qY]
        rw [if_pos (by rw [e,e'];simp [y5hY,hne]),if_pos ⟨hn,ho,h0⟩,e]
        simp only
        rw [if_pos ⟨h1,h2,h3,by omega⟩]
        rfl
       ·exact h.elim
      ·exact h.elim
     ·exact h.elim
    ·exact h.elim
   case call pm f args=>exact yc6Y hV hs h
   case mput kt m k v =>
    intro gd
    have h:=yaY hs (yaY hs (yaY hs h))
    split at h
    ·rename_i i g e
     have hown:=y2tY hs h
     obtain ⟨h1,h2,h⟩:=y2nY hs h
     obtain ⟨h3,c,es,h4,h5,h6,es',h7,h8⟩:=y48Y h
     have htk:∃ c',tick (st.bx i).cs es'=.int .i64 c':=by
      rw [h4]
      simp only [tick]
      split<;>exact ⟨_,rfl⟩
     obtain ⟨c',hc'⟩:=htk
     refine ⟨_,_,_,_,y1fY R base,?_,hs.box i ⟨g,.rw,.map,.int .i64 c'::es'⟩ hown,h8 c'⟩
     simp only [step,e]
     rw [if_pos ⟨h1,h2,h3,h5,h6⟩]
     rw [show (st.bx i).cs.tail=es by rw [h4];rfl,h7]
     simp only [Option.map_some,hc']
    ·exact h.elim
   case mdel kt m k=>exact yc7Y hs h
   case alloc=>simp [valX] at h
   case allocF=>simp [valX] at h
   case box=>simp [valX] at h
   case mkSl v sz e zero len parts =>
    cases v with
    | true=>exact y6xY hs (fun _ _ _=>rfl) h
    | false=>simp [valX] at h
   case app=>simp [valX] at h
   case appD=>simp [valX] at h
   case mkSlF=>simp [valX] at h
   case icall=>simp [ypY] at hsh
   case mkMap=>simp [valX] at h
   case mkIter=>simp [valX] at h
   case next=>simp [valX] at h
   all_goals exact y6xY hs (fun _ _ _=>rfl) h
theorem yhhY (hs:SatF base bE ks s st) {it:Opd} {dst:Option Nat} {K:DS->Prop} (h:nextX Ops.std s it dst K):nextW it dst st fun st'=>∃ ds',SatF base bE ks ds' st'/\K ds':=by
 unfold nextX at h
 have h:=yaY hs h
 split at h
 ·rename_i k g t e _
  have hown:=y2tY hs h
  obtain ⟨h1,h2,h⟩:=y2nY hs h
  obtain ⟨h3,m,c,ks,h4,h⟩:=ybuY h
  obtain ⟨es,h5,hdef,hover,hmore⟩:=yc2Y hs h1 h2 h3 h4 h
  refine ⟨k,es,ks,by rw [e];exact h5,hdef,fun hall=>⟨_,hs.put t _,hover hall⟩,fun y v hm hn=>⟨_,?_,hmore y v hm hn⟩⟩
  have:=(hs.box k ⟨g,.rw,.iter,m::.int .i64 c::(ks++[y])⟩ hown).put t (.tup [.bool true,y,v])
  rw [h1,h4]
  exact this
 ·exact h.elim
theorem y3fY (hV:V=R):∀ {l:List AOp} {s:DS} {st:St} {K:DS->Prop},SatF base bE ks s st->opsX Ops.std V base l s K->opsW R base l st fun st'=>∃ ds',SatF base bE ks ds' st'/\K ds'
 | [],s,st,K,hs,h=>⟨s,hs,h⟩
 | o::r,s,st,K,hs,h=>by
   obtain ⟨d,k,g⟩:=o
   have go:∀ {s:DS},SatF base bE ks s st->ymY st.tm g=some true->(match y1rY k with
    | some it=>nextX Ops.std s it d fun s'=>opsX Ops.std V base r s' K
    | none=>stepX Ops.std V base s k d fun s'=>opsX Ops.std V base r s' K)->opsW R base (⟨d,k,g⟩::r) st fun st'=>∃ ds',SatF base bE ks ds' st'/\K ds':=by
    intro s hs hw h
    unfold opsW
    simp only
    cases hn:y1rY k with
    | some it =>
      rw [hn] at h
      refine ⟨true,hw,?_⟩
      simp only [if_true]
      obtain ⟨k',es,ks,h0,hdef,h1,h2⟩:=yhhY hs h
      exact ⟨k',es,ks,h0,hdef,fun hall=>by obtain ⟨ds',h3,h4⟩:=h1 hall;exact y3fY hV h3 h4,fun y v hm hf=>by obtain ⟨ds',h3,h4⟩:=h2 y v hm hf;exact y3fY hV h3 h4⟩
    | none =>
      rw [hn] at h
      cases hsh:ypY k with
      | some fa =>
        refine ⟨true,hw,?_⟩
        simp only [if_true]
        obtain ⟨g',first,caps,post,h1,h2,h3,h4⟩:=yhfY hV hs hsh h
        exact ⟨g',first,caps,post,h1,h2,h3,fun r bx' hp=>by obtain ⟨ds',h5,h6⟩:=h4 r bx' hp;exact y3fY hV h5 h6⟩
      | none =>
        obtain ⟨C,T,st',ds',h1,h2,h3,h4⟩:=yhgY hV hs hsh h g
        refine ⟨C,T,st',h1,?_,y3fY hV h3 h4⟩
        simp only [act,hw,Option.bind_some,if_true,h2]
   have skip:∀ {s:DS},SatF base bE ks s st->ymY st.tm g=some false->opsX Ops.std V base r (skipX s d) K->opsW R base (⟨d,k,g⟩::r) st fun st'=>∃ ds',SatF base bE ks ds' st'/\K ds':=by
    intro s hs hw h
    have hs':SatF base bE ks (skipX s d) (putD st d .undef):=by
     cases d with
     | some t=>exact hs.put t _
     | none=>exact hs
    unfold opsW
    simp only
    cases hn:y1rY k with
    | some it=>exact ⟨false,hw,by simpa using y3fY hV hs' h⟩
    | none =>
      cases hsh:ypY k with
      | some fa=>exact ⟨false,hw,by simpa using y3fY hV hs' h⟩
      | none=>exact ⟨_,_,putD st d .undef,y1fY R base,by simp [act,hw],y3fY hV hs' h⟩
   simp only [opsX] at h
   split at h
   ·exact go hs rfl h
   ·rename_i t b
    split at h
    ·rename_i c hc
     have htm:=hs.tm t _ hc
     split at h
     ·rename_i hcb
      subst hcb
      exact go (hs.known htm) (by simp [ymY,htm]) h
     ·rename_i hcb
      have hcb':c=!b:=by cases c<;>cases b<;>simp at hcb ⊢
      subst hcb'
      exact skip (hs.known htm) (by simp only [ymY,htm];cases b<;>rfl) h
    ·rename_i hc
     have htm:=hs.tm t _ hc
     exact skip hs (by simp [ymY,htm]) h
    ·exact h.elim
theorem yc9Y {bx:Nat->Box} {n:Nat}:∀ {l l1:List D},mapO (tell bx n) l=some l1->mapO (fun d=>(tell bx n d).map strip) l=some (stripL l1)
 | [],l1,h=>by
   simp only [mapO,Option.some.injEq] at h
   subst h
   rfl
 | x::r,l1,h=>by
   simp only [mapO,Option.bind_eq_some_iff,Option.map_eq_some_iff] at h
   obtain ⟨d,h1,r1,h2,rfl⟩:=h
   simp only [mapO,h1,yc9Y h2,Option.map_some,Option.bind_some,stripL]
theorem yhiY (hs:SatF base bE ks s st) {g:Gh} {K:DS->Prop} (h:y3cY base s g K):∃ st' ds',y1uY base st g=some st'/\SatF base bE ks ds' st'/\K ds':=by
 cases g with
 | kill q =>
   simp only [y3cY] at h
   split at h
   ·rename_i b hb
    have e:=hs.bx _ _ hb
    subst e
    exact ⟨_,_,rfl,hs.box (base+q) _ (.inl (Nat.le_add_right _ _)),h⟩
   ·exact ⟨_,_,rfl,hs.box (base+q) _ (.inl (Nat.le_add_right _ _)),h _ _ _⟩
 | tell t =>
   simp only [y3cY] at h
   split at h
   ·rename_i k g ht
    have hfd:∃ b,find s.bx k=some b:=by
     unfold y1sY at h
     split at h
     ·rename_i b hb;exact ⟨b,hb⟩
     ·exact h.elim
    obtain ⟨h1,h2,⟨h3⟩,h4⟩:=y1zY hs h
    obtain ⟨sz,e,h5,h6⟩:=y2uY h4
    refine ⟨_,_,?_,(hs.freeze (l:=[k]) (l':=[k]) (fun _=>Iff.rfl) (by
     obtain ⟨b,hb⟩:=hfd
     simp [y45Y,hb])).put t _,h6⟩
    simp only [y1uY,hs.tm t _ ht]
    rw [if_pos ⟨h1,h2,h3⟩,h5]
   ·exact h.elim
 | clean t =>
   simp only [y3cY] at h
   split at h
   ·rename_i k g ht
    have hown:=y2tY hs h
    obtain ⟨h1,h2,h⟩:=y2nY hs h
    obtain ⟨sz,e,h3,h⟩:=y2uY h
    obtain ⟨l1,h4,h5⟩:=ybwY hs h
    have hr:=y3eY hs (fun d K=>y8pY hs 8 d K) h
    split at h5
    ·rename_i hm hf
     have hmem:∀ k',k'∈(st.bx k).cs.flatMap (refs st.bx depth)↔k'∈y1iY (refsX s 8) (st.bx k).cs:=hr.1 depth (by decide)
     have hnk:k∉(st.bx k).cs.flatMap (refs st.bx depth):=fun hk=>by
      rw [hmem,←y6vY,hm] at hk
      simp at hk
     refine ⟨_,_,?_,(hs.freeze hmem hf).box k ⟨g,.rw,.arr sz e,stripL l1⟩ hown,h5⟩
     simp only [y1uY,hs.tm t _ ht]
     rw [if_pos ⟨h1,h2,hnk⟩,h3]
     simp only
     rw [yc9Y h4]
     rfl
    ·exact h5.elim
   ·exact h.elim
 | nil q sz e =>
   simp only [y3cY] at h
   obtain ⟨h0,h⟩:=h
   refine ⟨_,_,?_,hs.box (base+q) _ (.inl (Nat.le_add_right _ _)),y29Y hs h⟩
   simp only [y1uY]
   rw [if_pos h0]
 | tmp t q sz e =>
   simp only [y3cY] at h
   split at h
   ·rename_i sz' ht
    obtain ⟨rfl,h0,h⟩:=h
    refine ⟨_,_,?_,hs.newbox t q _ _,y29Y hs h⟩
    simp only [y1uY,hs.tm t _ ht]
    rw [if_pos ⟨trivial,h0⟩]
   ·exact h.elim
 | cell t q off sz e =>
   simp only [y3cY] at h
   split at h
   ·rename_i k g o ht
    have hown:=y2tY hs h
    obtain ⟨h1,h2,h3,h4,h⟩:=y2nY hs h
    split at h
    ·rename_i kd sz' hkd hcell
     obtain ⟨rfl,h⟩:=h
     have h5:=y29Y hs h
     obtain ⟨h6,h7⟩:=y8qY h5
     refine ⟨_,_,?_,(hs.box k ⟨g,.rw,.var,(st.bx k).cs.set (o+off) (.own (base+q) ((st.bx (base+q)).gen+1))⟩ hown).box (base+q) ⟨(st.bx (base+q)).gen+1,.rw,.arr sz' e,[]⟩ (.inl (Nat.le_add_right _ _)),h7⟩
     simp only [y1uY,hs.tm t _ ht]
     rw [if_pos ⟨h1,h2,hkd,h3,h4⟩,hcell]
     simp
    ·exact h.elim
   ·exact h.elim
theorem ycaY (hV:V=R):∀ (c:Code) {s:DS} {st:St} {Q:Ex->DS->Prop},SatF base bE ks s st->wpx Ops.std V base c s Q->W R base c st fun e st'=>∃ ds',SatF base bE ks ds' st'/\Q e ds':=by
 intro c
 induction c with
 | skip=>intro s st Q hs h;exact ⟨s,hs,h⟩
 | ops l=>intro s st Q hs h;exact y3fY hV hs h
 | seq a b iha ihb =>
   intro s st Q hs h
   refine y47Y a (fun e st' hq=>?_) (iha hs h)
   obtain ⟨ds',h1,h2⟩:=hq
   cases e with
   | normal=>exact ihb h1 h2
   | exit i=>exact ⟨ds',h1,h2⟩
   | ret=>exact ⟨ds',h1,h2⟩
 | join a b iha ihb =>
   intro s st Q hs h
   obtain ⟨M,h1,h2⟩:=h
   refine y47Y a (fun e st' hq=>?_) (iha hs h1)
   obtain ⟨ds',h3,h4⟩:=hq
   cases e with
   | normal =>
     obtain ⟨d,h5,h6⟩:=h4
     exact ihb (h3.le h6) (h2 d h5)
   | exit i=>exact ⟨ds',h3,h4⟩
   | ret=>exact ⟨ds',h3,h4⟩
 | cond c a b iha ihb =>
   intro s st Q hs h
   simp only [wpx] at h
   have h:=yaY hs h
   split at h
   ·rename_i t ht
    refine ⟨t,ht,?_⟩
    cases t with
    | true=>exact iha hs h
    | false=>exact ihb hs h
   ·exact h.elim
 | block i b ih =>
   intro s st Q hs h
   refine y47Y b (fun e st' hq=>?_) (ih hs h)
   obtain ⟨ds',h1,h2⟩:=hq
   cases e with
   | normal=>exact ⟨ds',h1,h2⟩
   | exit j =>
     simp only [ybpY] at h2
     simp only [y4kY]
     split at h2
     ·rename_i he
      rw [Nat.beq_eq] at he
      rw [if_pos he]
      exact ⟨ds',h1,h2⟩
     ·rename_i he
      rw [if_neg (fun e=>by subst e;simp at he)]
      exact ⟨ds',h1,h2⟩
   | ret=>exact ⟨ds',h1,h2⟩
 | loop b ih =>
   intro s st Q hs h
   obtain ⟨J,⟨n,d,hJ,hle⟩,hround⟩:=h
   have key:∀ n d st,J n d->SatF base bE ks d st->loopW (W R base b) (n+1) st fun e st'=>∃ ds',SatF base bE ks ds' st'/\Q e ds':=by
    intro n
    induction n using Nat.strongRecOn with
    | _ n ihn =>
      intro d st hJ hs
      simp only [loopW]
      refine y47Y b (fun e st' hq=>?_) (ih hs (hround n d hJ))
      obtain ⟨ds',h1,h2⟩:=hq
      cases e with
      | normal =>
        obtain ⟨m,d',h4,h3,h5⟩:=h2
        exact ybrY (f:=W R base b) (fun s Q Q' hQ h=>y47Y b hQ h) (show m+1<=n by omega) (ihn m h5 d' st' h4 (h1.le h3))
      | exit i=>exact ⟨ds',h1,h2⟩
      | ret=>exact ⟨ds',h1,h2⟩
   exact ⟨n+1,key n d st hJ (hs.le hle)⟩
 | exit i=>intro s st Q hs h;exact ⟨s,hs,h⟩
 | ret=>intro s st Q hs h;exact ⟨s,hs,h⟩
 | gh g b ih =>
   intro s st Q hs h
   obtain ⟨st',ds',h1,h2,h3⟩:=yhiY hs h
   exact ⟨st',h1,ih h2 h3⟩
theorem y8sY (hs:SatF base bE ks s st):∀ {l:List RVar} {K:List D->Prop},resX s l K->∃ ds,mapO (y2xY st) l=some ds/\K (stripL ds)
 | [],K,h=>⟨[],rfl,h⟩
 | .tmp t::r,K,h=>by
   simp only [resX] at h
   split at h
   ·rename_i d hd
    obtain ⟨d1,h1,h2⟩:=y4vY hs 8 depth d _ (by decide) h
    obtain ⟨ds,h3,h4⟩:=y8sY hs h2
    exact ⟨d1::ds,by simp [mapO,y2xY,hs.tm t d hd,h1,h3],by simpa [stripL] using h4⟩
   ·exact h.elim
 | .cell t n ag::r,K,h=>by
   simp only [resX] at h
   split at h
   ·rename_i d hd
    obtain ⟨d0,h0,h⟩:=y5zY hs h
    obtain ⟨d1,h1,h2⟩:=y4vY hs 8 depth d0 _ (by decide) h
    obtain ⟨ds,h3,h4⟩:=y8sY hs h2
    exact ⟨d1::ds,by simp [mapO,y2xY,hs.tm t d hd,h0,h1,h3],by simpa [stripL] using h4⟩
   ·exact h.elim
theorem y8tY:∀ (l:List D) (i t:Nat) (d:D),find (args0 i l) t=some d->∃ j,t=i+j/\l[j]?=some d
 | [],i,t,d,h=>by simp [args0,find] at h
 | x::r,i,t,d,h=>by
   simp only [args0,find] at h
   cases hb:Nat.beq t i with
   | true =>
     rw [hb] at h
     rw [Nat.beq_eq] at hb
     simp only [Option.some.injEq] at h
     exact ⟨0,by omega,by simpa using h⟩
   | false =>
     rw [hb] at h
     obtain ⟨j,h1,h2⟩:=y8tY r (i+1) t d h
     exact ⟨j+1,by omega,by simpa using h2⟩
theorem y8uY (hs:SatF base bE ks s st):∀ {l:List RVar} {K:List D->Prop},resSX s l K->∃ ds,mapO (y2kY st) l=some ds/\K ds
 | [],K,h=>⟨[],rfl,h⟩
 | .tmp t::r,K,h=>by
   simp only [resSX] at h
   split at h
   ·rename_i d hd
    obtain ⟨ds,h3,h4⟩:=y8uY hs h
    exact ⟨d::ds,by simp [mapO,y2kY,hs.tm t d hd,h3],h4⟩
   ·exact h.elim
 | .cell t n ag::r,K,h=>by
   simp only [resSX] at h
   split at h
   ·rename_i d hd
    obtain ⟨d0,h0,h⟩:=y5zY hs h
    obtain ⟨ds,h3,h4⟩:=y8uY hs h
    exact ⟨d0::ds,by simp [mapO,y2kY,hs.tm t d hd,h0,h3],h4⟩
   ·exact h.elim
theorem yhjY (args:List D) (gv:List (Nat × Box)) (bx:Nat->Box) (hgv:∀ k b,find gv k=some b->bx k=b):SatF base bx (fun k=>find gv k≠none) ⟨args0 0 args,gv,false⟩ ⟨tm0 args,bx⟩ where
 tm:=fun t d hd=>by
  obtain ⟨j,rfl,hj⟩:=y8tY args 0 t d hd
  simp [tm0,hj]
 bx:=hgv
 fr:=fun hf=>by simp at hf
 fm:=fun _ _ _=>rfl
 sub:=fun k b _ hb=>by rw [hb];simp
theorem yhkY {f:Func} {args:List D} {gv:List (Nat × Box)} {Q:D->List (Nat × Box)->Prop} (hn:args.length=f.params/\f.params<=f.ntmps)
 (h:∀ O:Ops,O=Ops.std->∀ V:Ans,V=R->wpS O V base f args gv Q) (bx:Nat->Box) (hgv:∀ k b,find gv k=some b->bx k=b) :
 AnsS R base f args bx fun r bx'=>∃ kn,Q r kn/\(∀ k b,find kn k=some b->bx' k=b)/\∀ k,k<base->find gv k=none->bx' k=bx k/\find kn k=none:=by
 refine ⟨hn,?_⟩
 refine y47Y _ (fun e st' hq=>?_) (ycaY (R:=R) rfl f.body (yhjY args gv bx hgv) (h Ops.std rfl R rfl))
 obtain ⟨ds',h1,h2⟩:=hq
 have key:resSX ds' f.results (fun ds=>match ds with|[d]=>Q d ds'.bx|ds=>Q (.tup ds) ds'.bx)->∃ ds,mapO (y2kY st') f.results=some ds/\∃ kn,Q (one ds) kn/\(∀ k b,find kn k=some b->st'.bx k=b)/\∀ k,k<base->find gv k=none->st'.bx k=bx k/\find kn k=none:=by
  intro h2
  obtain ⟨ds,h3,h4⟩:=y8uY h1 h2
  refine ⟨ds,h3,ds'.bx,?_,h1.bx,fun k hk hg=>⟨h1.fm k hk (by simp [hg]),?_⟩⟩
  ·unfold one
   split at h4
   ·exact h4
   ·rename_i hne
    split
    ·rename_i d;exact absurd rfl (hne d)
    ·exact h4
  ·cases hb:find ds'.bx k with
   | none=>rfl
   | some b=>exact absurd hg (h1.sub k b hk hb)
 cases e with
 | normal=>exact key h2
 | ret=>exact key h2
 | exit i=>exact h2.elim
theorem y2Y {f:Func} {args:List D} {r:D} (hn:args.length=f.params/\f.params<=f.ntmps) (h:∀ O:Ops,O=Ops.std->∀ V:Ans,V=R->wpF O V f args (·=r)):AnsF R f args r:=by
 refine ⟨hn,?_⟩
 have hs:SatF 0 bx0 (fun _=>False) ⟨args0 0 args,[],true⟩ ⟨tm0 args,bx0⟩:=by
  refine ⟨fun t d hd=>?_,fun k b hb=>by simp [find] at hb,fun _ k _=>⟨rfl,rfl⟩,fun k hk=>by omega,fun k b hk=>by omega⟩
  obtain ⟨j,rfl,hj⟩:=y8tY args 0 t d hd
  simp [tm0,hj]
 refine y47Y _ (fun e st' hq=>?_) (ycaY (R:=R) rfl f.body hs (h Ops.std rfl R rfl))
 obtain ⟨ds',h1,h2⟩:=hq
 have key:resX ds' f.results (fun ds=>match ds with|[d]=>d=r|ds=>.tup ds=r)->results st' f.results=some r:=by
  intro h2
  obtain ⟨ds,h3,h4⟩:=y8sY h1 h2
  simp only [results,h3,Option.bind_some]
  split at h4
  ·rename_i d hd;rw [hd];simp only;rw [h4]
  ·rename_i hne
   split
   ·rename_i d hd;exact absurd hd (hne d)
   ·rw [h4]
 cases e with
 | normal=>exact key h2
 | ret=>exact key h2
 | exit i=>exact h2.elim
end
end Go.Proofs.AM
