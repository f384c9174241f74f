/- Part 31 of the lemmas: AMUpd. -/
import Derived.Test.YtnbdmjbpgaeacaaGreatDoorC03
import Derived.Test.YtnbdmjbpgaeacaaGreatDoorC05
import Derived.WideKeyEntry
import Derived.Test.YtnbdmjbpgaeacaaGreatDoorC06
set_option maxRecDepth 100000
set_option maxHeartbeats 8000000
set_option linter.all false
namespace Go.Proofs.AM
open Go Go.RowKit Go.MapKept
def yfqY:Operand->Operand->Bool
 | .tmp a,.tmp b=>a == b
 | _,_=>false
def edgeB (ops:Array Oper) (i j:Nat):Bool :=
 match ops[i]? with
 | some o=>o.after.toList.any fun e=>e.on == j&&Region.binds .any e
 | none=>false
def yapY (P:Program) (nt q:Nat) (oL oB oE oX oS:Oper):Option (List AOp) :=
 match oL.op,oL.dst,oL.guard,oB.op,oB.dst,oB.guard with
 | .lookup tl (.tmp ml) kl false,some y,none,.binOp .add tb (.tmp y') (.const cb) ub,some z,none =>
   match oE.op,oE.dst,oE.guard,oX.op,oX.dst,oX.guard,oS.op,oS.dst,oS.guard with
   | .mapEntry t (.tmp m) (.tmp k),some e,none,.extract (.tmp e') 1,some x,none,.entryStore t' (.tmp m') (.tmp x') (.tmp z'),none,none =>
     if (e=e'/\x=x'/\z=z'/\y=y'/\t=t'/\m=m'/\tl=t/\ml=m/\yfqY kl (.tmp k)=true)/\(y<nt/\z<nt/\e<nt/\x<nt)/\(y≠z/\y≠e/\y≠x/\z≠e/\z≠x/\e≠x)/\(m≠y/\m≠z/\m≠e/\m≠x)/\k≠y/\k≠z/\k≠e/\k≠x then
      match P.underlying t with
      | some (.map kt el) =>
        (keyT P kt).bind fun kk=>(zeroT P el).bind fun zr =>
         match y4lY P ub cb with
         | some (.int j c) =>
           some [⟨some y,.look kk zr false (.tmp m) (.tmp k),none⟩,⟨some z,.bin .add (.tmp y) (.const (.int j c)),none⟩,⟨none,.mput kk (.tmp m) (.tmp k) (.tmp z),none⟩,
            ⟨some e,.mov (.const (.tup [.own q 0,.own q 0])),none⟩,⟨some x,.mov (.const (.own q 0)),none⟩]
         | _=>none
      | _=>none
     else none
   | _,_,_,_,_,_,_,_,_=>none
 | _,_,_,_,_,_=>none
def preOk (ops:Array Oper) (n:Nat) (l:List AOp):Bool :=
 let b:=befs ops.toList []
 y6rY l&&(ops.toList.zipIdx.all fun p=>p.1.after.toList.all fun e=>!Region.binds .any e||decide (e.on<p.2)) &&
 ((List.range n).all fun j=>(List.range j).all fun i =>
   (b.getD j 0).testBit i||match l[i]?,l[j]? with|some x,some y=>y4nY x y|_,_=>false) &&
 ((List.range 5).all fun i=>(List.range n).all fun j=>(b.getD (n+i) 0).testBit j)&&edgeB ops (n+1) n&&edgeB ops (n+3) (n+2)&&edgeB ops (n+4) (n+1)&&edgeB ops (n+4) (n+3)
def updT (P:Program) (sh:List Nat) (nt q:Nat) (ops:Array Oper):Option (List AOp) :=
 if 5<=ops.size then
  match ops[ops.size-5]?,ops[ops.size-4]?,ops[ops.size-3]?,ops[ops.size-2]?,ops[ops.size-1]? with
  | some oL,some oB,some oE,some oX,some oS =>
    (mapO (operT P sh nt true ops) (ops.toList.take (ops.size-5))).bind fun l=>(yapY P nt q oL oB oE oX oS).bind fun r=>if preOk ops (ops.size-5) l then some (l++r) else none
  | _,_,_,_,_=>none
 else none
def drawU (P:Program) (sh:List Nat) (nt q:Nat) (ops:Array Oper):Option (List AOp) :=
 match opsT P sh nt true ops with
 | some l=>if y5nY ops l then some l else none
 | none=>updT P sh nt q ops
def codeU (P:Program) (sh:List Nat) (nt q:Nat):Go.Code->Option Code
 | .skip=>some .skip
 | .region _ ops false=>(opsT P sh nt false ops).map .ops
 | .region _ ops true=>(drawU P sh nt q ops).map .ops
 | .seq a b=>(codeU P sh nt q a).bind fun x=>(codeU P sh nt q b).map fun y=>.seq x y
 | .cond c a b=>(opdT P 0 c).bind fun c=>(codeU P sh nt q a).bind fun x=>(codeU P sh nt q b).map fun y=>.cond c x y
 | .block id b=>(codeU P sh nt q b).map (.block id)
 | .loop b=>(codeU P sh nt q b).map .loop
 | .exit id=>some (.exit id)
 | .ret=>some .ret
 | _=>none
def funcU (P:Program) (sh:List Nat) (q:Nat) (fn:Go.Func):Option Func :=
 fn.body.bind fun b=>(codeU P sh fn.ntmps q b).bind fun c=>(mapO (resT P) fn.results.toList).map fun r=>⟨fn.params.size+fn.nfree,fn.ntmps,r,c⟩
section
variable {P:Program} {B0 N:Nat} {S:Nat->Prop} {w0:World} {lc:Nat->Value} {s s':St} {a:Act} {w:World} {C:Nat->List D->Option D} {T:Sh} {G:World->Prop} {sh:List Nat} {c0:Cx} {R:Ans} {base:Nat}
theorem y4jY:∀ {l r:List AOp} {s:St} {K:St->Prop},opsW R base (l++r) s K->opsW R base l s (fun s'=>opsW R base r s' K)
 | [],_,_,_,h=>h
 | o::l,r,s,K,h=>by
   simp only [List.cons_append] at h
   unfold opsW at h ⊢
   split at h
   ·obtain ⟨y,hy,h⟩:=h
    refine ⟨y,hy,?_⟩
    cases y with
    | true =>
      simp only [if_true] at h ⊢
      obtain ⟨k,es,ks,q1,q2,q3,q4⟩:=h
      exact ⟨k,es,ks,q1,q2,fun hh=>y4jY (q3 hh),fun y v h1 h2=>y4jY (q4 y v h1 h2)⟩
    | false=>exact y4jY h
   ·obtain ⟨y,hy,h⟩:=h
    refine ⟨y,hy,?_⟩
    cases y with
    | true =>
      simp only [if_true] at h ⊢
      obtain ⟨g,first,caps,post,q1,q2,q3,q4⟩:=h
      exact ⟨g,first,caps,post,q1,q2,q3,fun r bx' hp=>y4jY (q4 r bx' hp)⟩
    | false=>exact y4jY h
   ·obtain ⟨C,T,s1,q1,q2,h⟩:=h
    exact ⟨C,T,s1,q1,q2,y4jY h⟩
theorem ypbY {t kt el:TypeId} (hu:P.underlying t=some (.map kt el)) {zv:Value} (hz:∀ w:World,(zeroValue el).run P w=.ok zv w) {b:Nat} {mes:Array MapEntry} {clk:Nat} (hb:w.heap[b]?=some (.map mes clk)) (hs:Stp mes clk)
 {kv:Value} (hchk:∀ (e:Bool) (w:World),(Instr.checkKey e 10000 kt kv).run P w=.ok () w) (hstay:∀ w:World,(Instr.keyThatStays kv kv).run P w=.ok kv w) {x:Option (Nat × Value)} (hf:∀ w:World,(Instr.findKey kt kv mes.toList).run P w=.ok x w)
 (hx:(x=none/\∀ w:World,(Instr.findKey kt kv (mes.toList++[⟨kv,zv,clk⟩])).run P w=.ok (some (mes.size,zv)) w)∨∃ j en,x=some (j,en.val)/\mes[j]?=some en/\en.key=kv) (val:Value) :
 ∃ (v0:Value) (st:Nat) (w1 w2:World),(Instr.mapEntry t (.map (some b)) kv).run P w=.ok (.tuple #[v0,goInt st]) w1/\(Instr.entryStore t (.map (some b)) (goInt st) val).run P w1=.ok () w2 /\
   (Instr.mapUpdate t (.map (some b)) kv val).run P w=.ok () w2/\v0=(match x with|some p=>p.2|none=>zv)/\(Instr.lookup t (.map (some b)) kv false).run P w=.ok v0 w/\(Instr.lookup t (.map (some b)) kv false).run P w1=.ok v0 w1:=by
 obtain ⟨s1,s2,_⟩:=hs
 have hget:∀ o1:Obj,({ w with heap:=w.heap.setIfInBounds b o1 }:World).heap[b]?=some o1:=fun o1=>by
  have:b<w.heap.size:=(Array.getElem?_eq_some_iff.1 hb).1
  simp [this]
 rcases hx with ⟨rfl,hf2⟩|⟨j,en,rfl,hj,hkey⟩
 ·have hg:=hget (.map (mes.push ⟨kv,zv,clk⟩) (clk+1))
  refine ⟨zv,clk,{ w with heap:=w.heap.setIfInBounds b (.map (mes.push ⟨kv,zv,clk⟩) (clk+1)) },{ w with heap:=w.heap.setIfInBounds b (.map (mes.push ⟨kv,val,clk⟩) (clk+1)) },?_,?_,?_,rfl,?_,?_⟩
  ·simp [Instr.mapEntry,run_underlying hu,MapKept.run_getObj_map hb,hchk,hf,hz,MapKept.run_setObj_map _ hb,Result.andThen]
  ·have hidx:(mes.push ⟨kv,zv,clk⟩).findIdx? (fun e=>((e.born:Nat):Int) == ((clk:Nat):Int))=some mes.size:=by
    rw [WideElems.findIdx_arr]
    exact WideElems.findIdx_born (l:=(mes.push ⟨kv,zv,clk⟩).toList) (j:=mes.size) (e0:=⟨kv,zv,clk⟩) (by
     simp only [Array.toList_push,List.map_append,List.map_cons,List.map_nil]
     refine List.nodup_append.2 ⟨s2,by simp,fun a ha c hc e1=>?_⟩
     simp only [List.mem_singleton] at hc
     obtain ⟨x,hx,rfl⟩:=List.mem_map.1 ha
     have:=s1 x hx
     omega) (by simp)
   have hmod:(mes.push ⟨kv,zv,clk⟩).modify mes.size (fun e=>{ e with val:=val })=mes.push ⟨kv,val,clk⟩:=by
    apply Array.ext'
    rw [Array.toList_modify,Array.toList_push,Array.toList_push,←Array.length_toList,WideElems.modify_last]
   simp [Instr.entryStore,MapKept.run_getObj_map hg,asInt,asIntOf,goInt,hidx,hmod,MapKept.run_setObj_map _ hg,Result.andThen]
  ·simp [Instr.mapUpdate,run_underlying hu,MapKept.run_getObj_map hb,hchk,hf,MapKept.run_setObj_map _ hb,Result.andThen]
  ·simp [Instr.lookup,run_underlying hu,MapKept.run_getObj_map hb,hchk,hf,hz,Result.andThen]
  ·simp [Instr.lookup,run_underlying hu,MapKept.run_getObj_map hg,hchk,hf2,Result.andThen]
 ·have hsame:mes.modify j (fun e=>{ e with key:=kv })=mes:=by
   apply Array.ext'
   rw [Array.toList_modify,List.modify_eq_set,show mes.toList[j]?=some en by simpa using hj]
   have:({ en with key:=kv }:MapEntry)=en:=by rw [←hkey]
   simp only [Option.map_some,Option.getD_some]
   rw [this]
   exact WideElems.set_self _ _ _ (by simpa using hj)
  have hlook:(Instr.lookup t (.map (some b)) kv false).run P w=.ok en.val w:=by simp [Instr.lookup,run_underlying hu,MapKept.run_getObj_map hb,hchk,hf,Result.andThen]
  refine ⟨en.val,en.born,w,{ w with heap:=w.heap.setIfInBounds b (.map (mes.modify j fun e'=>{ e' with key:=kv,val:=val }) clk) },?_,?_,?_,rfl,hlook,hlook⟩
  ·have hset:w.heap.setIfInBounds b (.map mes clk)=w.heap:=by
    apply Array.ext'
    rw [Array.toList_setIfInBounds]
    exact WideElems.set_self _ _ _ (by simpa using hb)
   simp [Instr.mapEntry,run_underlying hu,MapKept.run_getObj_map hb,hchk,hf,hj,hkey,hstay,hsame,MapKept.run_setObj_map _ hb,Result.andThen,hset]
  ·have hidx:mes.findIdx? (fun e=>((e.born:Nat):Int) == ((en.born:Nat):Int))=some j:=by
    rw [WideElems.findIdx_arr]
    exact WideElems.findIdx_born s2 (by simpa using hj)
   have hmod:mes.modify j (fun e=>{ e with val:=val })=mes.modify j (fun e'=>{ e' with key:=kv,val:=val }):=by
    apply Array.ext'
    rw [Array.toList_modify,Array.toList_modify,List.modify_eq_set,List.modify_eq_set,show mes.toList[j]?=some en by simpa using hj,←hkey]
    rfl
   simp [Instr.entryStore,MapKept.run_getObj_map hb,asInt,asIntOf,goInt,hidx,hmod,MapKept.run_setObj_map _ hb,Result.andThen]
  ·simp [Instr.mapUpdate,run_underlying hu,MapKept.run_getObj_map hb,hchk,hf,hj,hkey,hstay,MapKept.run_setObj_map _ hb,Result.andThen]
theorem yfrY {S:Value->Value->Bool->Prop} {v:Value} {r:List MapEntry} {x:Option (Nat × Value)}:∀ {l:List MapEntry} {i:Nat},Found S v l i none->Found S v r (i+l.length) x->Found S v (l++r) i x
 | [],i,_,h=>by simpa using h
 | e::l,i,h1,h=>by
   cases h1 with
   | miss h2 h3=>exact .miss h2 (yfrY h3 (by rw [show i+1+l.length=i+(e::l).length by simp;omega];exact h))
theorem ypcY {kk:Bool × List (Nat × EqT)} {k:D} (h:keyOk kk k=true):keyEq kk k k=some true:=by
 unfold keyOk at h
 obtain ⟨b,hb⟩:=Option.isSome_iff_exists.1 h
 unfold keyEq at hb ⊢
 split at hb<;>split at hb
 ·rename_i hc;rw [if_pos hc];exact y61Y hb
 ·simp at hb
 ·rename_i hc;rw [if_pos hc];exact y61Y hb
 ·simp at hb
theorem b_run {o:Oper} {op:BinOp} {t yt:TypeId} {x y:Operand} (ho:o.op=.binOp op t x y yt) {k l:IntKind} {n m:Int} {d:D} (hv:binD op (.int k n) (.int l m)=some d) :
 ∃ v,(∀ c:Cx,RV c d v)/\∀ (ρ:Operand->Value) (w:World),ρ x=.int k n->ρ y=.int l m->(execOp ρ o).run P w=.ok (.value v) w:=by
 simp only [binD] at hv
 obtain ⟨v,hm,_⟩:=y5oY hv ⟨default,fun _=>False,bx0,noLoc⟩
 refine ⟨v,fun c=>?_,fun ρ w h1 h2=>?_⟩
 ·obtain ⟨v',hm',h⟩:=y5oY hv c
  rw [hm] at hm'
  cases hm'
  exact h
 ·unfold execOp
  simp only [ho,h1,h2]
  refine run_v ?_
  rw [y87Y op t _ _ (.inl ⟨_,_,_,_,rfl,rfl⟩),hm]
  unfold eqGuard
  cases op<;>simp
theorem ypdY (hGG:Grows G) (hG:G w0) (hR:y1xY P G R) {ops:Array Oper} {n:Nat} {l:List AOp} {pm:Bool} {Kf:St->Prop} {Q:Exit->Act->World->Prop} (hn:n<=ops.size) (hl:mapO (operT P sh N pm ops) (ops.toList.take n)=some l)
 (hlt:∀ i o,ops[i]?=some o->∀ e∈o.after,Region.binds .any e=true->e.on<i)
 (hcm:∀ i j x y,i<j->j<n->¬Deps ops j i->l[i]?=some x->l[j]?=some y->ypY x.k=none/\ypY y.k=none/\∀ (C C':Nat->List D->Option D) (T T':Sh) s s',(act C T x s).bind (act C' T' y)=some s'->(act C' T' y s).bind (act C T x)=some s')
 (hfirst:∀ i j,n<=i->i<ops.size->j<n->Deps ops i j)
 (hQ:∀ (fuel:Nat) (listed:Array Bool) s' lc' a' w',listed.size=ops.size->ops.size-n<=fuel->(∀ i,i<n->listed.getD i true=true)->(∀ i,n<=i->i<ops.size->listed.getD i true=false)->Kf s'->Rel B0 N S w0 lc' s' a' w'->Keeps c0 (cxOf B0 S s'.bx lc' w')->wpAny P .any ops Q fuel listed a' w') :
 ∀ (fuel:Nat) (listed:Array Bool) (lc:Nat->Value) (s:St) (a:Act) (w:World),listed.size=ops.size->(rem n listed).length+(ops.size-n)<=fuel->(∀ i,n<=i->i<ops.size->listed.getD i true=false) ->
 (∀ i j,listed.getD i true=true->i<n->Deps ops i j->listed.getD j true=true)->Rel B0 N S w0 lc s a w->Keeps c0 (cxOf B0 S s.bx lc w)->ixW R base l (rem n listed) s Kf->wpAny P .any ops Q fuel listed a w:=by
 have hmem:∀ {listed:Array Bool} {i:Nat},i∈rem n listed↔i<n/\listed.getD i true=false:=by
  intro listed i
  unfold rem
  rw [List.mem_filter,List.mem_range]
  simp
 have hget:∀ {listed:Array Bool} {i:Nat},listed.size=ops.size->i<ops.size->∀ b,listed.getD i b=listed.getD i true:=by
  intro listed i h1 h2 b
  have:i<listed.size:=by omega
  simp [this]
 have hall:∀ {listed:Array Bool},rem n listed=[]->∀ i,i<n->listed.getD i true=true:=by
  intro listed hr i hi
  cases h3:listed.getD i true with
  | true=>rfl
  | false =>
    have:i∈rem n listed:=hmem.2 ⟨hi,h3⟩
    rw [hr] at this
    simp at this
 have hin:∀ {listed:Array Bool} {i k:Nat},listed.size=ops.size->(∀ i,n<=i->i<ops.size->listed.getD i true=false)->(∀ i j,listed.getD i true=true->i<n->Deps ops i j->listed.getD j true=true)->i∈Region.ready .any ops listed->k∈rem n listed->i<n:=by
  intro listed i k hsz hnl hcl hi hk
  refine Classical.byContradiction fun hc=>?_
  obtain ⟨h0,o,ho,hal⟩:=mem_ready.1 hi
  have hi1:i<ops.size:=(Array.getElem?_eq_some_iff.1 ho).1
  obtain ⟨hk1,hk2⟩:=hmem.1 hk
  have use:∀ j,Dep ops i j->j<ops.size/\listed.getD j true=true:=by
   intro j hd
   obtain ⟨o',ho',e,he,hb,rfl⟩:=hd
   rw [ho] at ho'
   simp only [Option.some.injEq] at ho'
   subst ho'
   have h1:=hlt i o ho e (by simpa using he) hb
   refine ⟨by omega,?_⟩
   rw [←hget hsz (by omega) false]
   exact hal e (by simpa using he) hb
  have hd:=hfirst i k (by omega) hi1 hk1
  have:listed.getD k true=true:=by
   cases hd with
   | one hd=>exact (use k hd).2
   | more hd hd2 =>
     rename_i k'
     obtain ⟨u1,u2⟩:=use _ hd
     refine hcl _ _ u2 ?_ hd2
     refine Classical.byContradiction fun hc=>?_
     rw [hnl _ (by omega) u1] at u2
     simp at u2
  rw [hk2] at this
  simp at this
 intro fuel
 induction fuel with
 | zero =>
   intro listed lc s a w hsz hlen hnl hcl h hk0 hs
   have hnil:rem n listed=[]:=List.eq_nil_of_length_eq_zero (by omega)
   rw [hnil] at hs
   exact hQ 0 listed s lc a w hsz (by omega) (hall hnil) hnl hs h hk0
 | succ fuel ih =>
   intro listed lc s a w hsz hlen hnl hcl h hk0 hs
   cases hrem0:rem n listed with
   | nil =>
     rw [hrem0] at hs hlen
     simp only [List.length_nil,Nat.zero_add] at hlen
     exact hQ (fuel+1) listed s lc a w hsz hlen (hall hrem0) hnl hs h hk0
   | cons i0 r0 =>
   have hi0:i0∈rem n listed:=by rw [hrem0];simp
   clear hrem0
   refine ⟨fun hr=>?_,fun i hi=>?_⟩
   ·-- something is ready
    exfalso
    cases hrem:rem n listed with
    | nil=>rw [hrem] at hi0;simp at hi0
    | cons i r =>
      have hi:i∈rem n listed:=by rw [hrem];simp
      have hi2:=hmem.1 hi
      have hso:=y72Y n listed
      rw [hrem,List.pairwise_cons] at hso
      have:i∈Region.ready .any ops listed:=by
       rw [mem_ready]
       refine ⟨hi2.2,ops[i],by simp [show i<ops.size by omega],fun e he hb=>?_⟩
       have h1:=hlt i ops[i] (by simp [show i<ops.size by omega]) e he hb
       have h2:e.on<ops.size:=by omega
       rw [hget hsz h2]
       cases h3:listed.getD e.on true with
       | true=>rfl
       | false =>
         have h4:e.on∈rem n listed:=hmem.2 ⟨by omega,h3⟩
         rw [hrem] at h4
         rcases List.mem_cons.1 h4 with h5|h5
         ·omega
         ·have:=hso.1 _ h5;omega
      rw [hr] at this
      simp at this
   ·have hin1:i<n:=hin hsz hnl hcl hi hi0
    obtain ⟨h0,o,ho,hal⟩:=mem_ready.1 hi
    have hi1:i<ops.size:=(Array.getElem?_eq_some_iff.1 ho).1
    have him:i∈rem n listed:=hmem.2 ⟨hin1,h0⟩
    obtain ⟨pre,post,hsplit⟩:=List.append_of_mem him
    have hso:=y72Y n listed
    rw [hsplit] at hso
    obtain ⟨hf,hpre⟩:=yd8Y hso
    obtain ⟨ao,hao,hT⟩:=y9iY hl i o (by rw [List.getElem?_take];simp [hin1,ho])
    have hdeps:∀ j,Deps ops i j->listed.getD j true=true:=by
     intro j hj
     have hd:∀ k,Dep ops i k->k<n/\listed.getD k true=true:=by
      intro k hk
      obtain ⟨o',ho',e,he,hb,rfl⟩:=hk
      rw [ho] at ho'
      simp only [Option.some.injEq] at ho'
      subst ho'
      have h1:=hlt i o ho e (by simpa using he) hb
      have h2:e.on<ops.size:=by omega
      refine ⟨by omega,?_⟩
      rw [←hget hsz h2 false]
      exact hal e (by simpa using he) hb
     cases hj with
     | one hj=>exact (hd j hj).2
     | more hk hkj=>exact hcl _ _ (hd _ hk).2 (hd _ hk).1 hkj
    rw [hsplit] at hs
    have hrem:rem n (listed.setIfInBounds i true)=pre++post:=by rw [yd7Y (by omega),hsplit];exact hf
    have hpre2:∀ p∈pre,¬Deps ops i p:=fun p hp hd=>by
     have h1:=hdeps p hd
     have h2:p∈rem n listed:=by rw [hsplit];simp [hp]
     have h3:=(hmem.1 h2).2
     rw [h1] at h3
     simp at h3
    have next:∀ s1 lc' a' w',ixW R base l (pre++post) s1 Kf->Rel B0 N S w0 lc' s1 a' w'->Keeps (cxOf B0 S s.bx lc w) (cxOf B0 S s1.bx lc' w')->wpAny P .any ops Q fuel (listed.setIfInBounds i true) a' w':=by
     intro s1 lc' a' w' h2 h' hk1
     refine ih (listed.setIfInBounds i true) lc' s1 a' w' (by simp [hsz]) ?_ ?_ ?_ h' (hk0.trans hk1) (by rw [hrem];exact h2)
     ·rw [hrem]
      rw [hsplit] at hlen
      simp only [List.length_append,List.length_cons] at hlen ⊢
      omega
     ·intro k hk1 hk2
      rw [getD_set_ne true (by omega)]
      exact hnl k hk1 hk2
     ·intro k j hk hk1 hd
      have:listed.getD j true=true:=by
       by_cases e:k=i
       ·subst e;exact hdeps j hd
       ·rw [getD_set_ne true (fun e'=>e e'.symm)] at hk
        exact hcl k j hk hk1 hd
      by_cases e:i=j
      ·subst e
       have:i<listed.size:=by omega
       simp [this]
      ·rw [getD_set_ne true e];exact this
    cases hsh:ypY ao.k with
    | some fa =>
      have hnil:pre=[]:=by
       cases hpe:pre with
       | nil=>rfl
       | cons p r =>
         exfalso
         have hp:p∈pre:=by rw [hpe];simp
         have hplt:=hpre p hp
         obtain ⟨x,hx⟩:∃ x,l[p]?=some x:=by
          have hlen2:l.length=n:=by have:=y30Y hl;simp only [List.length_take,Array.length_toList] at this;omega
          exact ⟨_,List.getElem?_eq_getElem (by omega)⟩
         have:=(hcm p i x ao hplt hin1 (hpre2 p hp) hx hao).2.1
         rw [hsh] at this
         simp at this
      subst hnil
      simp only [List.nil_append,ixW] at hs
      obtain ⟨o2,ho2,hs⟩:=hs
      rw [hao] at ho2
      simp only [Option.some.injEq] at ho2
      subst ho2
      rw [hsh] at hs
      obtain ⟨y,hy,hs⟩:=hs
      exact y9kY h hG hR ho hT hsh hy (Kd:=fun s1=>ixW R base l post s1 Kf) hs fun s1 lc' a' w' h2 h' hk1=>next s1 lc' a' w' h2 h' hk1
    | none =>
      obtain ⟨C,T,s1,hT1,h1,h2⟩:=y9mY l hao hsh post pre s (fun p hp x hx=>by
       have:=hcm p i x ao (hpre p hp) hin1 (hpre2 p hp) hx hao
       exact ⟨this.1,this.2.2⟩) hs
      exact y9gY h hGG hG (hT1.sound hR) ho hT h1 fun lc' a' w' h' hk1=>next s1 lc' a' w' h2 h' hk1
theorem y6gY {a:Act} {x:Operand} {t:Nat} {v:Value} (ht:t<a.tmps.size) (h:∀ i,x=.tmp i->i≠t):(a.put (some t) v).eval x=a.eval x:=by
 cases x with
 | tmp i =>
   have:=y8jY a t v i ht
   rw [if_neg (h i rfl)] at this
   simpa [Act.eval] using this
 | const c=>rfl
 | func f=>rfl
 | global g=>rfl
theorem yfsY {a:Act} {t:Nat} {v:Value} (ht:t<a.tmps.size):(a.put (some t) v).eval (.tmp t)=v:=by
 have:=y8jY a t v t ht
 simpa [Act.eval] using this
theorem y6hY {o:AOp} (hg:o.guard=none) (hk:y1rY o.k=none) (hs:ypY o.k=none) {r:List AOp} {K:St->Prop} (h:opsW R base (o::r) s K):∃ C T s',Tells R base C T/\step C T o s=some s'/\opsW R base r s' K:=by
 unfold opsW at h
 rw [hk,hs] at h
 obtain ⟨C,T,s1,h1,h2,h3⟩:=h
 refine ⟨C,T,s1,h1,?_,h3⟩
 simpa [act,hg,ymY] using h2
theorem ypeY {kk:Bool × List (Nat × EqT)} {m k v:Opd} {s s3:St} (h:step C T ⟨none,.mput kk m k v,none⟩ s=some s3):∃ i g es,m.get s.tm=.mapr i g/\((s.bx i).gen=g/\(s.bx i).st=.rw/\(s.bx i).kd=.map/\keyOk kk (k.get s.tm)=true/\(v.get s.tm).one=true) /\
 mputD kk (k.get s.tm) (v.get s.tm) (s.bx i).cs.tail=some es/\s3=⟨s.tm,upd s.bx i ⟨g,.rw,.map,tick (s.bx i).cs es::es⟩⟩:=by
 simp only [step] at h
 split at h
 ·rename_i i g hm
  split at h
  ·rename_i hc
   simp only [Option.map_eq_some_iff] at h
   obtain ⟨es,hes,rfl⟩:=h
   exact ⟨i,g,es,hm,hc,hes,rfl⟩
  ·simp at h
 ·simp at h
theorem ypfY {ops:Array Oper} {i j:Nat} {listed:Array Bool} (hsz:listed.size=ops.size) (he:edgeB ops i j=true) (hj:j<ops.size) (hl:listed.getD j true=false):i∉Region.ready .any ops listed:=by
 intro hi
 obtain ⟨h0,o,ho,hal⟩:=mem_ready.1 hi
 unfold edgeB at he
 rw [ho] at he
 simp only [List.any_eq_true,Bool.and_eq_true,beq_iff_eq] at he
 obtain ⟨e,he,h1,h2⟩:=he
 have:=hal e (by simpa using he) h2
 rw [h1] at this
 have h3:j<listed.size:=by omega
 simp [h3] at this hl
 rw [this] at hl
 simp at hl
theorem y6iY {o:Oper} (h:o.guard=none) (y:Nat->Option Bool):Region.wanted o y=true:=by
 unfold Region.wanted;rw [h]
structure Five (P:Program) (B0 N:Nat) (S:Nat->Prop) (w0:World) (lc:Nat->Value) (s:St) (a:Act) (w:World) (Kf:St->Prop) (oL oB oE oX oS:Oper) (m k y z e x:Nat) (vy vz ve vx:Value) (w1 w2:World):Prop where
 gL:oL.guard=none
 gB:oB.guard=none
 gE:oE.guard=none
 gX:oX.guard=none
 gS:oS.guard=none
 dL:oL.dst=some y
 dB:oB.dst=some z
 dE:oE.dst=some e
 dX:oX.dst=some x
 dS:oS.dst=none
 lt:y<N/\z<N/\e<N/\x<N
 off:y≠z/\y≠e/\y≠x/\z≠e/\z≠x/\e≠x
 offm:m≠y/\m≠z/\m≠e/\m≠x
 offk:k≠y/\k≠z/\k≠e/\k≠x
 rL:∀ b:Act,b.eval (.tmp m)=a.eval (.tmp m)->b.eval (.tmp k)=a.eval (.tmp k)->(execOp b.eval oL).run P w=.ok (.value vy) w/\(execOp b.eval oL).run P w1=.ok (.value vy) w1
 rB:∀ (b:Act) (u:World),b.eval (.tmp y)=vy->(execOp b.eval oB).run P u=.ok (.value vz) u
 rE:∀ b:Act,b.eval (.tmp m)=a.eval (.tmp m)->b.eval (.tmp k)=a.eval (.tmp k)->(execOp b.eval oE).run P w=.ok (.value ve) w1
 rX:∀ (b:Act) (u:World),b.eval (.tmp e)=ve->(execOp b.eval oX).run P u=.ok (.value vx) u
 rS:∀ b:Act,b.eval (.tmp m)=a.eval (.tmp m)->b.eval (.tmp x)=vx->b.eval (.tmp z)=vz->(execOp b.eval oS).run P w1=.ok .skip w2
 out:∃ s' lc',Kf s'/\Rel B0 N S w0 lc' s' ((((a.put (some y) vy).put (some z) vz).put (some e) ve).put (some x) vx) w2/\Keeps (cxOf B0 S s.bx lc w) (cxOf B0 S s'.bx lc' w2)
theorem ypgY (h:Rel B0 N S w0 lc s a w) {q:Nat} (hq:1<=(s.bx q).gen) {oL oB oE oX oS:Oper} {l:List AOp} (hl:yapY P N q oL oB oE oX oS=some l) {Kf:St->Prop} (hs:opsW R base l s Kf) :
 ∃ m k y z e x vy vz ve vx w1 w2,Five P B0 N S w0 lc s a w Kf oL oB oE oX oS m k y z e x vy vz ve vx w1 w2:=by
 unfold yapY at hl
 split at hl
 case h_2=>simp at hl
 rename_i t m kl y tb y' cb ub z hL1 hL2 hL3 hB1 hB2 hB3
 split at hl
 case h_2=>simp at hl
 rename_i t1 m1 k e e' x t' m' x' z' hE1 hE2 hE3 hX1 hX2 hX3 hS1 hS2 hS3
 split at hl
 case isFalse=>simp at hl
 rename_i hc
 obtain ⟨⟨rfl,rfl,rfl,rfl,rfl,rfl,rfl,rfl,hkl⟩,hlt,hoff,hoffm,hoffk⟩:=hc
 have hklk:kl=.tmp k:=by
  cases kl<;>simp [yfqY] at hkl
  rw [hkl]
 subst hklk
 split at hl
 case h_2=>simp at hl
 rename_i kt el hu
 simp only [Option.bind_eq_some_iff] at hl
 obtain ⟨kk,hkk,zr,hz,hl⟩:=hl
 split at hl
 case h_2=>simp at hl
 rename_i j c hcb
 simp only [Option.some.injEq] at hl
 subst hl
 have hsz:=h.nt
 obtain ⟨lt1,lt2,lt3,lt4⟩:=hlt
 obtain ⟨of1,of2,of3,of4,of5,of6⟩:=hoff
 obtain ⟨om1,om2,om3,om4⟩:=hoffm
 obtain ⟨ok1,ok2,ok3,ok4⟩:=hoffk
 obtain ⟨C1,T1,s1,ht1,e1,f1⟩:=y6hY rfl rfl rfl hs
 obtain ⟨C2,T2,s2,ht2,e2,f2⟩:=y6hY rfl rfl rfl f1
 obtain ⟨C3,T3,s3,ht3,e3,f3⟩:=y6hY rfl rfl rfl f2
 obtain ⟨C4,T4,s4,ht4,e4,f4⟩:=y6hY rfl rfl rfl f3
 obtain ⟨C5,T5,s5,ht5,e5,hfin⟩:=y6hY rfl rfl rfl f4
 simp only [opsW] at hfin
 simp only [step,Option.map_eq_some_iff] at e1 e2 e4 e5
 obtain ⟨d1,hd1,rfl⟩:=e1
 obtain ⟨d2,hd2,rfl⟩:=e2
 obtain ⟨d4,hd4,rfl⟩:=e4
 obtain ⟨d5,hd5,rfl⟩:=e5
 simp only [valD,Option.some.injEq,Opd.get] at hd4 hd5
 subst hd4 hd5
 have hint:∃ kd n,d1=.int kd n:=by
  simp only [valD,Opd.get,putD,upd,if_true] at hd2
  cases d1<;>simp [binD] at hd2
  exact ⟨_,_,rfl⟩
 obtain ⟨kd,nn,rfl⟩:=hint
 have hd2':binD .add (.int kd nn) (.int j c)=some d2:=by simpa [valD,Opd.get,putD,upd] using hd2
 obtain ⟨vz,hvz,hBrun⟩:=b_run (P:=P) hB1 hd2'
 have hcbv:cb=.int j c:=by
  have:=(y81Y hcb (cxOf B0 S s.bx lc w)).1
  simpa [RV] using this
 have h1:RV (cxOf B0 S s.bx lc w) (s.tm m) (a.eval (.tmp m)):=h.tm m
 have h2:RV (cxOf B0 S s.bx lc w) (s.tm k) (a.eval (.tmp k)):=h.tm k
 obtain ⟨zv,hzv,hzr,_⟩:=y3yY hz (cxOf B0 S s.bx lc w)
 obtain ⟨S',hS⟩:=y6zY hkk
 obtain ⟨i,g,es',hm,hc,hes',h3e⟩:=ypeY e3
 simp only [putD] at hm hc hes' h3e
 have gm:(Opd.tmp m).get (upd (upd s.tm y (.int kd nn)) z d2)=s.tm m:=by simp [Opd.get,upd,om1,om2]
 have gk:(Opd.tmp k).get (upd (upd s.tm y (.int kd nn)) z d2)=s.tm k:=by simp [Opd.get,upd,ok1,ok2]
 rw [gm] at hm
 rw [gk] at hc hes'
 obtain ⟨hg,hrw,hkd,hkok,hone⟩:=hc
 rw [hm] at h1
 obtain ⟨b,mes,clk,q1,q2,q3,q4,q5,q6,q7⟩:=y92Y h h1 hg hrw hkd
 have hchk:=hS.chk h2 hkok
 have hstay:=hS.stay h2 hkok
 have hd1':∃ r,lookD kk (s.tm k) (s.bx i).cs.tail=some r/\(match r with|some v=>v|none=>zr)=D.int kd nn:=by
  simp only [valD,Option.bind_eq_some_iff] at hd1
  obtain ⟨es,hes,hd1⟩:=hd1
  split at hd1
  case isFalse hno=>exact absurd hkok hno
  simp only [Option.map_eq_some_iff] at hd1
  obtain ⟨r,hr,hd1⟩:=hd1
  have hes2:ents s.bx (s.tm m)=some es:=hes
  rw [hm] at hes2
  simp only [ents] at hes2
  rw [if_pos ⟨hg,by rw [hrw];decide,hkd⟩] at hes2
  simp only [Option.some.injEq] at hes2
  subst hes2
  refine ⟨r,hr,?_⟩
  cases r<;>simpa using hd1
 obtain ⟨r,hr,hrd⟩:=hd1'
 have hfind:∃ xo,(∀ w:World,(Instr.findKey kt (a.eval (.tmp k)) mes.toList).run P w=.ok xo w) /\
  ((xo=none/\∀ w:World,(Instr.findKey kt (a.eval (.tmp k)) (mes.toList++[⟨a.eval (.tmp k),zv,clk⟩])).run P w=.ok (some (mes.size,zv)) w)∨∃ j en,xo=some (j,en.val)/\mes[j]?=some en/\en.key=a.eval (.tmp k)) /\
  (match xo with|some p=>p.2|none=>zv)=Value.int kd nn:=by
  have keyis:∀ {j:Nat} {en:MapEntry},Found S' (a.eval (.tmp k)) mes.toList 0 (some (j,en.val))->mes.toList[j]?=some en->en.key=a.eval (.tmp k):=by
   intro j en hf hj
   rcases y91Y (S:=S') (uv:=vz) (fun h h'=>hS.cmp h2 h h') h2 (by simpa [Opd.get,upd] using hvz (cxOf B0 S s.bx lc w)) _ es' mes.toList 0 q5 hes' with ⟨r1,_⟩|⟨j2,en2,r1,r2,r3,_⟩
   ·have a1:=hS.find hf w
    have a2:=hS.find r1 w
    rw [a1] at a2
    simp at a2
   ·have a1:=hS.find hf w
    have a2:=hS.find r1 w
    rw [a1] at a2
    simp only [Result.ok.injEq,Option.some.injEq,Prod.mk.injEq,Nat.zero_add,and_true] at a2
    obtain ⟨rfl,_⟩:=a2
    rw [hj] at r2
    simp only [Option.some.injEq] at r2
    subst r2
    exact r3
  rcases y90Y (S:=S') (fun h h'=>hS.cmp h2 h h') _ mes.toList 0 r q5 hr with ⟨rfl,r2⟩|⟨j,en,xd,rfl,r2,r3,r4⟩
  ·refine ⟨none,hS.find r2,.inl ⟨rfl,?_⟩,?_⟩
   ·have hs1:S' (a.eval (.tmp k)) (a.eval (.tmp k)) true:=(hS.cmp h2 h2 (ypcY hkok)).1
    exact hS.find (yfrY r2 (by simpa using Found.hit (e:=⟨a.eval (.tmp k),zv,clk⟩) hs1))
   ·simp only at hrd
    subst hrd
    simpa [RV] using hzr
  ·simp only [Nat.zero_add] at r2
   refine ⟨some (j,en.val),hS.find r2,.inr ⟨j,en,rfl,by simpa using r3,keyis r2 r3⟩,?_⟩
   simp only at hrd
   subst hrd
   simpa [RV] using r4
 obtain ⟨xo,hf1,hf2,hf3⟩:=hfind
 obtain ⟨v0,st,w1,w2,u1,u2,u3,u4,u5,u6⟩:=ypbY hu (y4pY hzv) q4 q6 hchk hstay hf1 hf2 vz
 rw [hf3] at u4
 subst u4
 have hrA:=h.put (dst:=some y) (fun t ht=>by cases ht;exact lt1) (d:=.int kd nn) (v:=.int kd nn) (by simp [RV])
 have hrB:=hrA.put (dst:=some z) (fun t ht=>by cases ht;exact lt2) (d:=d2) (v:=vz) (hvz _)
 have hszA:(a.put (some y) (.int kd nn)).tmps.size=N:=by rw [y5rY];exact hsz
 have hszB:((a.put (some y) (.int kd nn)).put (some z) vz).tmps.size=N:=by rw [y5rY];exact hszA
 have gy:y<a.tmps.size:=by rw [hsz];exact lt1
 have gz:z<(a.put (some y) (.int kd nn)).tmps.size:=by rw [hszA];exact lt2
 have evm:((a.put (some y) (.int kd nn)).put (some z) vz).eval (.tmp m)=a.eval (.tmp m):=by
  rw [y6gY gz (fun i hi=>by cases hi;exact om2),y6gY gy (fun i hi=>by cases hi;exact om1)]
 have evk:((a.put (some y) (.int kd nn)).put (some z) vz).eval (.tmp k)=a.eval (.tmp k):=by
  rw [y6gY gz (fun i hi=>by cases hi;exact ok2),y6gY gy (fun i hi=>by cases hi;exact ok1)]
 have evz:((a.put (some y) (.int kd nn)).put (some z) vz).eval (.tmp z)=vz:=yfsY gz
 have hst := y93Y (o := ⟨none, .mapUpdate t (.tmp m) (.tmp k) (.tmp z), 0, "", #[], none⟩) hrB rfl (.inl rfl) hu hkk (t1 := 0) (m := .tmp m) (m' := .tmp m) rfl (t2 := 0) (k := .tmp k) (k' := .tmp k) rfl (t3 := 0) (v := .tmp z) (v' := .tmp z) rfl (gd := none) e3
 have hgo:∃ lc',Rel B0 N S w0 lc' s3 ((a.put (some y) (.int kd nn)).put (some z) vz) w2/\Keeps (cxOf B0 S s.bx lc w) (cxOf B0 S s3.bx lc' w2):=by
  have:=hst (fun a' w'=>a'=(a.put (some y) (.int kd nn)).put (some z) vz->∃ lc',Rel B0 N S w0 lc' s3 a' w'/\Keeps (cxOf B0 S s.bx lc w) (cxOf B0 S s3.bx lc' w')) (fun _ _ _=>True) (fun lc' a' w' r1 r2 _=>⟨lc',r1,by simpa [y1wY] using r2⟩)
  unfold Oper.wp at this
  have hrun : (execOp ((a.put (some y) (.int kd nn)).put (some z) vz).eval ⟨none, .mapUpdate t (.tmp m) (.tmp k) (.tmp z), 0, "", #[], none⟩).run P w = .ok .skip w2 := by
   unfold execOp
   rw [←q1] at u3
   simp only [evm,evk,evz,Sem.run_bind,u3,Result.andThen,Sem.run_pure]
  rw [hrun,Oper.upon_skip] at this
  exact this rfl
 obtain ⟨lc',hr1,hk1⟩:=hgo
 have hstale:∀ (n:Int) (k0:IntKind) ,RV (cxOf B0 S s3.bx lc' w2) (.own q 0) (.int k0 n):=by
  intro n k0
  have:=(hk1.box q _ hq).1
  simp only [cxOf] at this
  simp only [RV,cxOf]
  exact ⟨rfl,Nat.zero_le _,fun e=>by omega⟩
 refine ⟨m,k,y,z,e,x,.int kd nn,vz,.tuple #[.int kd nn,goInt st],goInt st,w1,w2,⟨hL3,hB3,hE3,hX3,hS3,hL2,hB2,hE2,hX2,hS2,⟨lt1,lt2,lt3,lt4⟩,⟨of1,of2,of3,of4,of5,of6⟩,⟨om1,om2,om3,om4⟩,⟨ok1,ok2,ok3,ok4⟩,?_,?_,?_,?_,?_,?_⟩⟩
 ·intro b g1 g2
  unfold execOp
  simp only [hL1,g1,g2]
  rw [←q1] at u5 u6
  exact ⟨run_v u5,run_v u6⟩
 ·intro b u g1
  exact hBrun b.eval u g1 (by rw [hcbv];rfl)
 ·intro b g1 g2
  unfold execOp
  simp only [hE1,g1,g2]
  rw [←q1] at u1
  exact run_v u1
 ·intro b u g1
  unfold execOp
  simp only [hX1,g1]
  refine run_v ?_
  simp [Instr.extract]
 ·intro b g1 g2 g3
  unfold execOp
  simp only [hS1,g1,g2,g3]
  rw [←q1] at u2
  simp only [Sem.run_bind,u2,Result.andThen,Sem.run_pure]
 ·refine ⟨_,lc',hfin,?_,by simpa [y1wY] using hk1⟩
  have r1:=hr1.put (dst:=some e) (fun t ht=>by cases ht;exact lt3) (d:=.tup [.own q 0,.own q 0]) (v:=.tuple #[.int kd nn,goInt st]) (by
   rw [RV]
   refine ⟨_,rfl,?_⟩
   rw [RVs]
   refine ⟨_,_,rfl,hstale nn kd,?_⟩
   rw [RVs]
   refine ⟨_,_,rfl,hstale st .i64,?_⟩
   rw [RVs])
  exact r1.put (dst:=some x) (fun t ht=>by cases ht;exact lt4) (d:=.own q 0) (v:=goInt st) (by rw [y1wY];exact hstale st .i64)
theorem yphY (a:Act) {t u:Nat} (h:t≠u) (v x:Value):(a.put (some t) v).put (some u) x=(a.put (some u) x).put (some t) v:=by
 unfold Act.put
 simp only
 congr 1
 apply Array.ext'
 simp only [Array.toList_setIfInBounds]
 rw [List.set_comm _ _ h]
def putIf (f:Bool) (t:Nat) (v:Value) (a:Act):Act:=if f then a.put (some t) v else a
theorem ypiY (f:Bool) (t:Nat) (v:Value) (a:Act):(putIf f t v a).tmps.size=a.tmps.size:=by
 cases f
 ·rfl
 ·exact y5rY a (some t) v
theorem y7uY {f:Bool} {t i:Nat} {v:Value} {a:Act} (h:i≠t) (ht:t<a.tmps.size):(putIf f t v a).eval (.tmp i)=a.eval (.tmp i):=by
 cases f
 ·rfl
 ·exact y6gY ht (fun j hj=>by cases hj;exact h)
theorem y7vY {t:Nat} {v:Value} {a:Act} (ht:t<a.tmps.size):(putIf true t v a).eval (.tmp t)=v:=yfsY ht
theorem y5fY {f:Bool} {t u:Nat} {v x:Value} {a:Act} (h:t≠u):(putIf f t v a).put (some u) x=putIf f t v (a.put (some u) x):=by
 cases f
 ·rfl
 ·exact yphY a h v x
theorem ypjY {ops:Array Oper} {n:Nat} (hsize:ops.size=n+5) {oL oB oE oX oS:Oper} (hL:ops[n]?=some oL) (hB:ops[n+1]?=some oB) (hE:ops[n+2]?=some oE) (hX:ops[n+3]?=some oX) (hS:ops[n+4]?=some oS)
 (hlt:∀ i o,ops[i]?=some o->∀ e∈o.after,Region.binds .any e=true->e.on<i) (e1:edgeB ops (n+1) n=true) (e2:edgeB ops (n+3) (n+2)=true) (e3:edgeB ops (n+4) (n+1)=true) (e4:edgeB ops (n+4) (n+3)=true)
 {Kf:St->Prop} {m k y z e x:Nat} {vy vz ve vx:Value} {w1 w2:World} (hN:a.tmps.size=N) (F:Five P B0 N S w0 lc s a w Kf oL oB oE oX oS m k y z e x vy vz ve vx w1 w2) {Q:Exit->Act->World->Prop}
 (hQ:Q .normal (putIf true x vx (putIf true e ve (putIf true z vz (putIf true y vy a)))) w2):∀ (fuel:Nat) (listed:Array Bool) (fL fB fE fX:Bool),(fB=true->fL=true)->(fX=true->fE=true)->listed.size=ops.size->(∀ i,i<n->listed.getD i true=true) ->
  listed.getD n true=fL->listed.getD (n+1) true=fB->listed.getD (n+2) true=fE->listed.getD (n+3) true=fX->listed.getD (n+4) true=false->5<=fuel+fL.toNat+fB.toNat+fE.toNat+fX.toNat ->
  wpAny P .any ops Q fuel listed (putIf fX x vx (putIf fE e ve (putIf fB z vz (putIf fL y vy a)))) (if fE then w1 else w):=by
 obtain ⟨lt1,lt2,lt3,lt4⟩:=F.lt
 obtain ⟨of1,of2,of3,of4,of5,of6⟩:=F.off
 obtain ⟨om1,om2,om3,om4⟩:=F.offm
 obtain ⟨ok1,ok2,ok3,ok4⟩:=F.offk
 have szs:∀ {f g h:Bool},(putIf f y vy a).tmps.size=N/\(putIf g z vz (putIf f y vy a)).tmps.size=N/\(putIf h e ve (putIf g z vz (putIf f y vy a))).tmps.size=N:=by
  intro f g h
  simp only [ypiY,hN,and_self]
 have ey:∀ {i:Nat} {f:Bool},i≠y->(putIf f y vy a).eval (.tmp i)=a.eval (.tmp i):=fun h=>y7uY h (by rw [hN];exact lt1)
 have ez:∀ {i:Nat} {f g:Bool},i≠z->(putIf g z vz (putIf f y vy a)).eval (.tmp i)=(putIf f y vy a).eval (.tmp i):=fun {i f g} h=>y7uY h (by rw [(szs (f:=f) (g:=g) (h:=g)).1];exact lt2)
 have ee:∀ {i:Nat} {f g h:Bool},i≠e->(putIf h e ve (putIf g z vz (putIf f y vy a))).eval (.tmp i)=(putIf g z vz (putIf f y vy a)).eval (.tmp i):=fun {i f g h} hh=>y7uY hh (by rw [(szs (f:=f) (g:=g) (h:=h)).2.1];exact lt3)
 have ex:∀ {i:Nat} {f g h l:Bool},i≠x->(putIf l x vx (putIf h e ve (putIf g z vz (putIf f y vy a)))).eval (.tmp i)=(putIf h e ve (putIf g z vz (putIf f y vy a))).eval (.tmp i):=fun {i f g h l} hh=>y7uY hh (by rw [(szs (f:=f) (g:=g) (h:=h)).2.2];exact lt4)
 have evm:∀ {f g h l:Bool},(putIf l x vx (putIf h e ve (putIf g z vz (putIf f y vy a)))).eval (.tmp m)=a.eval (.tmp m):=by intro f g h l;rw [ex om4,ee om3,ez om2,ey om1]
 have evk:∀ {f g h l:Bool},(putIf l x vx (putIf h e ve (putIf g z vz (putIf f y vy a)))).eval (.tmp k)=a.eval (.tmp k):=by intro f g h l;rw [ex ok4,ee ok3,ez ok2,ey ok1]
 have evy:∀ {g h l:Bool},(putIf l x vx (putIf h e ve (putIf g z vz (putIf true y vy a)))).eval (.tmp y)=vy:=by intro g h l;rw [ex of3,ee of2,ez of1];exact y7vY (by rw [hN];exact lt1)
 have evz:∀ {f h l:Bool},(putIf l x vx (putIf h e ve (putIf true z vz (putIf f y vy a)))).eval (.tmp z)=vz:=by intro f h l;rw [ex of5,ee of4];exact y7vY (by rw [(szs (f:=f) (g:=f) (h:=f)).1];exact lt2)
 have eve:∀ {f g l:Bool},(putIf l x vx (putIf true e ve (putIf g z vz (putIf f y vy a)))).eval (.tmp e)=ve:=by intro f g l;rw [ex of6];exact y7vY (by rw [(szs (f:=f) (g:=g) (h:=f)).2.1];exact lt3)
 have evx:∀ {f g h:Bool},(putIf true x vx (putIf h e ve (putIf g z vz (putIf f y vy a)))).eval (.tmp x)=vx:=by intro f g h;exact y7vY (by rw [(szs (f:=f) (g:=g) (h:=h)).2.2];exact lt4)
 have py:∀ {g h l:Bool},(putIf l x vx (putIf h e ve (putIf g z vz (putIf false y vy a)))).put (some y) vy=putIf l x vx (putIf h e ve (putIf g z vz (putIf true y vy a))):=by intro g h l;rw [y5fY (Ne.symm of3),y5fY (Ne.symm of2),y5fY (Ne.symm of1)];rfl
 have pz:∀ {f h l:Bool},(putIf l x vx (putIf h e ve (putIf false z vz (putIf f y vy a)))).put (some z) vz=putIf l x vx (putIf h e ve (putIf true z vz (putIf f y vy a))):=by intro f h l;rw [y5fY (Ne.symm of5),y5fY (Ne.symm of4)];rfl
 have pe:∀ {f g l:Bool},(putIf l x vx (putIf false e ve (putIf g z vz (putIf f y vy a)))).put (some e) ve=putIf l x vx (putIf true e ve (putIf g z vz (putIf f y vy a))):=by intro f g l;rw [y5fY (Ne.symm of6)];rfl
 have px:∀ {f g h:Bool},(putIf false x vx (putIf h e ve (putIf g z vz (putIf f y vy a)))).put (some x) vx=putIf true x vx (putIf h e ve (putIf g z vz (putIf f y vy a))):=by intro f g h;rfl
 have ready1:∀ {m:Nat} {L:Array Bool},L.size=ops.size->m<ops.size->(∀ i,i<m->L.getD i true=true)->L.getD m true=false->m∈Region.ready .any ops L:=by
  intro m L hL hm a1 a2
  rw [mem_ready]
  refine ⟨a2,ops[m],by simp [hm],fun e he hb=>?_⟩
  have h1:=hlt m ops[m] (by simp [hm]) e he hb
  have h2:e.on<L.size:=by omega
  have:=a1 e.on h1
  simpa [h2] using this
 intro fuel
 induction fuel with
 | zero =>
   intro listed fL fB fE fX _ _ _ _ _ _ _ _ _ hf
   exfalso
   cases fL<;>cases fB<;>cases fE<;>cases fX<;>simp at hf
 | succ fuel ih =>
   intro listed fL fB fE fX c1 c2 hsz hpre l0 l1 l2 l3 l4 hf
   have below:∀ {m i:Nat} {L:Array Bool},(∀ i,i<n->L.getD i true=true)->(∀ j,n<=j->j<m->L.getD j true=true)->i<m->L.getD i true=true:=by
    intro m i L h1 h2 h3
    rcases Nat.lt_or_ge i n with h|h
    ·exact h1 i h
    ·exact h2 i h h3
   have set_pre:∀ {j:Nat},n<=j->∀ i,i<n->(listed.setIfInBounds j true).getD i true=true:=fun hj i hi=>by rw [getD_set_ne true (by omega)];exact hpre i hi
   have set_ne:∀ {i j:Nat},j≠i->(listed.setIfInBounds j true).getD i true=listed.getD i true:=fun h=>getD_set_ne true h
   have set_self:∀ {j:Nat},j<ops.size->(listed.setIfInBounds j true).getD j true=true:=fun {j} h=>by
    have:j<listed.size:=by omega
    simp [this]
   refine ⟨fun hr=>?_,fun i hi=>?_⟩
   ·exfalso
    have no:∀ {m:Nat},m∈Region.ready .any ops listed->False:=fun h=>by rw [hr] at h;simp at h
    cases fL with
    | false=>exact no (ready1 hsz (m:=n) (by omega) hpre l0)
    | true =>
    cases fB with
    | false =>
      refine no (ready1 hsz (m:=n+1) (by omega) (fun i hi=>below hpre (fun j h1 h2=>?_) hi) l1)
      obtain rfl:j=n:=by omega
      exact l0
    | true =>
    cases fE with
    | false =>
      refine no (ready1 hsz (m:=n+2) (by omega) (fun i hi=>below hpre (fun j h1 h2=>?_) hi) l2)
      rcases (show j=n∨j=n+1 by omega) with rfl|rfl
      ·exact l0
      ·exact l1
    | true =>
    cases fX with
    | false =>
      refine no (ready1 hsz (m:=n+3) (by omega) (fun i hi=>below hpre (fun j h1 h2=>?_) hi) l3)
      rcases (show j=n∨j=n+1∨j=n+2 by omega) with rfl|rfl|rfl
      ·exact l0
      ·exact l1
      ·exact l2
    | true =>
      refine no (ready1 hsz (m:=n+4) (by omega) (fun i hi=>below hpre (fun j h1 h2=>?_) hi) l4)
      rcases (show j=n∨j=n+1∨j=n+2∨j=n+3 by omega) with rfl|rfl|rfl|rfl
      ·exact l0
      ·exact l1
      ·exact l2
      ·exact l3
   ·obtain ⟨h0,o,ho,_⟩:=mem_ready.1 hi
    have hi1:i<ops.size:=(Array.getElem?_eq_some_iff.1 ho).1
    have hin:n<=i:=Nat.le_of_not_lt fun hc=>by rw [hpre i hc] at h0;simp at h0
    have wait:∀ {j:Nat},edgeB ops i j=true->j<ops.size->listed.getD j true=true:=by
     intro j he hj
     cases hc:listed.getD j true with
     | true=>rfl
     | false=>exact absurd hi (ypfY hsz he hj hc)
    rcases (show i=n∨i=n+1∨i=n+2∨i=n+3∨i=n+4 by omega) with hii|hii|hii|hii|hii
    ·subst hii
     rw [l0] at h0
     subst h0
     unfold wpOp
     simp only [hL,y6iY F.gL,if_true]
     refine .inl ?_
     unfold Oper.wp
     obtain ⟨r1,r2⟩:=F.rL _ (evm (f:=false) (g:=fB) (h:=fE) (l:=fX)) evk
     have hrun:(execOp (putIf fX x vx (putIf fE e ve (putIf fB z vz (putIf false y vy a)))).eval oL).run P (if fE then w1 else w)=.ok (.value vy) (if fE then w1 else w):=by
      cases fE
      ·exact r1
      ·exact r2
     rw [hrun,Oper.upon_value,F.dL,py]
     exact ih _ true fB fE fX (fun _=>rfl) c2 (by simpa using hsz) (set_pre (Nat.le_refl _)) (set_self (by omega)) (by rw [set_ne (by omega)];exact l1) (by rw [set_ne (by omega)];exact l2) (by rw [set_ne (by omega)];exact l3) (by rw [set_ne (by omega)];exact l4) (by simp at hf ⊢;omega)
    ·subst hii
     rw [l1] at h0
     subst h0
     have:=wait e1 (by omega)
     rw [l0] at this
     subst this
     unfold wpOp
     simp only [hB,y6iY F.gB,if_true]
     refine .inl ?_
     unfold Oper.wp
     rw [F.rB _ _ evy,Oper.upon_value,F.dB,pz]
     exact ih _ true true fE fX (fun _=>rfl) c2 (by simpa using hsz) (set_pre (by omega)) (by rw [set_ne (by omega)];exact l0) (set_self (by omega)) (by rw [set_ne (by omega)];exact l2) (by rw [set_ne (by omega)];exact l3) (by rw [set_ne (by omega)];exact l4) (by simp at hf ⊢;omega)
    ·subst hii
     rw [l2] at h0
     subst h0
     unfold wpOp
     simp only [hE,y6iY F.gE,if_true]
     refine .inl ?_
     unfold Oper.wp
     simp only [Bool.false_eq_true,if_false]
     rw [F.rE _ evm evk,Oper.upon_value,F.dE,pe]
     have:=ih (listed.setIfInBounds (n+2) true) fL fB true fX c1 (fun _=>rfl) (by simpa using hsz) (set_pre (by omega)) (by rw [set_ne (by omega)];exact l0) (by rw [set_ne (by omega)];exact l1) (set_self (by omega)) (by rw [set_ne (by omega)];exact l3) (by rw [set_ne (by omega)];exact l4) (by simp at hf ⊢;omega)
     simpa using this
    ·subst hii
     rw [l3] at h0
     subst h0
     have:=wait e2 (by omega)
     rw [l2] at this
     subst this
     unfold wpOp
     simp only [hX,y6iY F.gX,if_true]
     refine .inl ?_
     unfold Oper.wp
     rw [F.rX _ _ eve,Oper.upon_value,F.dX,px]
     have:=ih (listed.setIfInBounds (n+3) true) fL fB true true c1 (fun _=>rfl) (by simpa using hsz) (set_pre (by omega)) (by rw [set_ne (by omega)];exact l0) (by rw [set_ne (by omega)];exact l1) (by rw [set_ne (by omega)];exact l2) (set_self (by omega)) (by rw [set_ne (by omega)];exact l4) (by simp at hf ⊢;omega)
     simpa using this
    ·subst hii
     have t1:=wait e3 (by omega)
     rw [l1] at t1
     subst t1
     have t2:=wait e4 (by omega)
     rw [l3] at t2
     subst t2
     have t3:=c1 rfl
     subst t3
     have t4:=c2 rfl
     subst t4
     unfold wpOp
     simp only [hS,y6iY F.gS,if_true]
     refine .inl ?_
     unfold Oper.wp
     rw [F.rS _ evm evx evz,Oper.upon_skip,F.dS]
     have hall:∀ j,j<ops.size->(listed.setIfInBounds (n+4) true).getD j true=true:=by
      intro j hj
      by_cases hc:j=n+4
      ·subst hc;exact set_self hj
      ·rw [set_ne (by omega)]
       refine below (m:=n+4) hpre (fun q h1 h2=>?_) (by omega)
       rcases (show q=n∨q=n+1∨q=n+2∨q=n+3 by omega) with rfl|rfl|rfl|rfl
       ·exact l0
       ·exact l1
       ·exact l2
       ·exact l3
     have hdone:Region.ready .any ops (listed.setIfInBounds (n+4) true)=[]:=by
      refine List.eq_nil_iff_forall_not_mem.2 fun j hj=>?_
      obtain ⟨h0,o,ho,_⟩:=mem_ready.1 hj
      have hj1:j<ops.size:=(Array.getElem?_eq_some_iff.1 ho).1
      rw [hall j hj1] at h0
      simp at h0
     cases fuel with
     | zero=>exact ⟨hdone,hQ⟩
     | succ f=>exact ⟨fun _=>hQ,fun j hj=>by rw [hdone] at hj;simp at hj⟩
theorem ypkY (h:Rel B0 N S w0 lc s a w) (hk0:Keeps c0 (cxOf B0 S s.bx lc w)) (hGG:Grows G) (hG:G w0) (hR:y1xY P G R) (hm:P.follows .mixedOrders=true) {q:Nat} (hq:1<=(c0.bx q).gen) {ops:Array Oper} {l:List AOp} {id:Nat} {Kf:St->Prop} {Q:Exit->Act->World->Prop} (hl:updT P sh N q ops=some l) (hs:opsW R base l s Kf)
 (hQ:∀ s' lc' a' w',Kf s'->Rel B0 N S w0 lc' s' a' w'->Keeps c0 (cxOf B0 S s'.bx lc' w')->Q .normal a' w'):(Go.Code.region id ops true).wp P Q a w:=by
 refine wp_region_any hm ?_
 unfold updT at hl
 split at hl
 case isFalse=>simp at hl
 rename_i hsize
 split at hl
 case h_2=>simp at hl
 rename_i oL oB oE oX oS hL hB hE hX hS
 simp only [Option.bind_eq_some_iff] at hl
 obtain ⟨lp,hlp,lr,hlr,hl⟩:=hl
 split at hl
 case isFalse=>simp at hl
 rename_i hok
 simp only [Option.some.injEq] at hl
 subst hl
 generalize hn:ops.size-5=n at *
 have hsz5:ops.size=n+5:=by omega
 rw [show ops.size-4=n+1 by omega] at hB
 rw [show ops.size-3=n+2 by omega] at hE
 rw [show ops.size-2=n+3 by omega] at hX
 rw [show ops.size-1=n+4 by omega] at hS
 have hlen:lp.length=n:=by have:=y30Y hlp;simp only [List.length_take,Array.length_toList] at this;omega
 unfold preOk at hok
 simp only [Bool.and_eq_true] at hok
 obtain ⟨⟨⟨⟨⟨⟨⟨h1,h2⟩,h3⟩,h4⟩,h5⟩,h6⟩,h7⟩,h8⟩:=hok
 have hbef:∀ i j,((befs ops.toList []).getD j 0).testBit i=true->Deps ops j i:=fun i j hb=>y96Y ops ops.toList [] 0 rfl (fun k=>by simp) (fun k j h=>by simp at h) j i hb
 have hlt:∀ i o,ops[i]?=some o->∀ e∈o.after,Region.binds .any e=true->e.on<i:=by
  intro i o ho e he hb
  rw [List.all_eq_true] at h2
  have hm:(o,i)∈ops.toList.zipIdx:=by
   rw [List.mem_zipIdx_iff_getElem?]
   simpa using ho
  have:=h2 _ hm
  rw [List.all_eq_true] at this
  have:=this e (by simpa using he)
  simpa [hb] using this
 have hcm:∀ i j x y,i<j->j<n->¬Deps ops j i->lp[i]?=some x->lp[j]?=some y->ypY x.k=none/\ypY y.k=none/\∀ (C C':Nat->List D->Option D) (T T':Sh) s s',(act C T x s).bind (act C' T' y)=some s'->(act C' T' y s).bind (act C T x)=some s':=by
  intro i j x y hij hjn hd hx hy
  rw [List.all_eq_true] at h3
  have h4:=h3 j (by simpa using hjn)
  rw [List.all_eq_true] at h4
  have h5:=h4 i (by simpa using hij)
  rw [hx,hy] at h5
  simp only [Bool.or_eq_true] at h5
  unfold y6rY at h1
  rw [List.all_eq_true] at h1
  have ax:=h1 x (List.mem_of_getElem? hx)
  have ay:=h1 y (List.mem_of_getElem? hy)
  simp only [bne_iff_ne,ne_eq,Bool.or_eq_true,Bool.and_eq_true,Option.isNone_iff_eq_none,Option.isSome_iff_ne_none] at ax ay
  rcases h5 with h5|h5
  ·exact absurd (hbef i j h5) hd
  ·refine ⟨(y73Y h5).1,(y73Y h5).2,fun C C' T T' s s' hh=>?_⟩
   exact yd4Y h5 (fun e=>ax.1.1.1.1.resolve_left (fun h=>h e)) (fun e=>ay.1.1.1.1.resolve_left (fun h=>h e)) (fun e=>ax.1.1.1.2.resolve_left (fun h=>h e)) (fun e=>ay.1.1.1.2.resolve_left (fun h=>h e)) (fun e=>ax.1.1.2.resolve_left (fun h=>h e)) (fun e=>ay.1.1.2.resolve_left (fun h=>h e)) (fun e=>ax.1.2.resolve_left (fun h=>h e)) (fun e=>ay.1.2.resolve_left (fun h=>h e)) (fun e=>ay.2.resolve_left (fun h=>h e)) s s' hh
 have hfirst:∀ i j,n<=i->i<ops.size->j<n->Deps ops i j:=by
  intro i j hi hi2 hj
  rw [List.all_eq_true] at h4
  have:=h4 (i-n) (by simp;omega)
  rw [List.all_eq_true] at this
  have:=this j (by simpa using hj)
  rw [show n+(i-n)=i by omega] at this
  exact hbef j i this
 have hfalse:∀ i,i<ops.size->(Array.replicate ops.size false).getD i true=false:=by
  intro i hi
  simp [Array.getD_eq_getD_getElem?,hi]
 have hrem:rem n (Array.replicate ops.size false)=List.range n:=by
  unfold rem
  rw [List.filter_eq_self]
  intro i hi
  rw [hfalse i (by simp at hi;omega)]
  rfl
 refine ypdY (base:=base) (c0:=c0) (l:=lp) (Kf:=fun s'=>opsW R base lr s' Kf) hGG hG hR (n:=n) (by omega) hlp hlt hcm hfirst ?_ ops.size _ lc s a _ (by simp) (by rw [hrem];simp;omega) (fun i _ hi=>hfalse i hi) ?_ (h.world ⟨rfl,rfl,rfl,Nat.le_refl _,fun _ _=>rfl⟩) (hk0.trans (y42Y ⟨rfl,rfl,rfl,Nat.le_refl _,fun _ _=>rfl⟩)) ?_
 ·-- the five
  intro fuel listed s1 lc1 a1 w1 hsz hfuel hl1 hl2 hs1 hrel hkp
  have hq1:1<=(s1.bx q).gen:=(hkp.box q 1 hq).1
  obtain ⟨m,k,y,z,e,x,vy,vz,ve,vx,u1,u2,F⟩:=ypgY hrel hq1 hlr hs1
  obtain ⟨s3,lc3,r5,r6,r7⟩:=F.out
  have:=ypjY hsz5 hL hB hE hX hS hlt h5 h6 h7 h8 hrel.nt F (Q:=Q) (hQ _ _ _ _ r5 r6 (hkp.trans r7)) fuel listed false false false false (fun h=>by simp at h) (fun h=>by simp at h) hsz hl1 (hl2 n (by omega) (by omega)) (hl2 _ (by omega) (by omega)) (hl2 _ (by omega) (by omega)) (hl2 _ (by omega) (by omega)) (hl2 _ (by omega) (by omega)) (by simp;omega)
  simpa [putIf] using this
 ·intro i j hi hi2 _
  rw [hfalse i (by omega)] at hi
  simp at hi
 ·rw [hrem,List.range_eq_range',←hlen]
  refine y9lY lp lp 0 s (fun ao hao=>by
   obtain ⟨o,_,ho⟩:=y9hY hlp ao hao
   cases hn:y1rY ao.k with
   | none=>rfl
   | some it=>have:=(y9jY ho hn).1;simp at this) (fun k _=>by simp) (y4jY hs)
theorem yplY (hGG:Grows G) (hG:G w0) (hR:y1xY P G R) (hm:P.follows .mixedOrders=true) {q:Nat} (hq:1<=(c0.bx q).gen):∀ (ac:Code) (c:Go.Code),codeU P sh N q c=some (erase ac)->∀ (lc:Nat->Value) (s:St) (a:Act) (w:World) (Kf:Ex->St->Prop),Rel B0 N S w0 lc s a w->Keeps c0 (cxOf B0 S s.bx lc w)->W R base ac s Kf ->
 ∀ Q:Exit->Act->World->Prop,(∀ e s' lc' a' w',Kf e s'->Rel B0 N S w0 lc' s' a' w'->Keeps c0 (cxOf B0 S s'.bx lc' w')->Q (exOf e) a' w')->c.wp P Q a w:=by
 intro ac
 induction ac with
 | skip =>
   intro c hc lc s a w Kf h hk0 hr Q hQ
   cases c<;>simp only [codeU,erase,Option.some.injEq,reduceCtorEq] at hc
   case skip=>exact wp_skip (hQ _ _ _ _ _ hr h hk0)
   case region id ops draw=>cases draw<;>simp [codeU,Option.bind_eq_some_iff,Option.map_eq_some_iff] at hc
   all_goals simp [Option.bind_eq_some_iff,Option.map_eq_some_iff] at hc
 | ops l =>
   intro c hc lc s a w Kf h hk0 hr Q hQ
   cases c<;>simp only [codeU,erase,Option.some.injEq,reduceCtorEq] at hc
   case region id ops draw =>
    cases draw with
    | false =>
      simp only [codeU,Option.map_eq_some_iff,Code.ops.injEq] at hc
      obtain ⟨l',hl,rfl⟩:=hc
      exact yd6Y h hk0 hGG hG hR hl hr fun s' lc' a' w' h1 h2 h3=>hQ .normal s' lc' a' w' h1 h2 h3
    | true =>
      simp only [codeU,Option.map_eq_some_iff,Code.ops.injEq] at hc
      obtain ⟨l',hl,rfl⟩:=hc
      unfold drawU at hl
      split at hl
      ·rename_i l2 hl2
       split at hl
       ·rename_i hd
        simp only [Option.some.injEq] at hl
        subst hl
        exact yd9Y h hk0 hGG hG hR hm hl2 hd hr fun s' lc' a' w' h1 h2 h3=>hQ .normal s' lc' a' w' h1 h2 h3
       ·simp at hl
      ·exact ypkY h hk0 hGG hG hR hm hq hl hr fun s' lc' a' w' h1 h2 h3=>hQ .normal s' lc' a' w' h1 h2 h3
   all_goals simp [Option.bind_eq_some_iff,Option.map_eq_some_iff] at hc
 | seq x y ihx ihy =>
   intro c hc lc s a w Kf h hk0 hr Q hQ
   cases c<;>simp only [codeU,erase,Option.some.injEq,reduceCtorEq] at hc
   case region id ops draw=>cases draw<;>simp [codeU,Option.bind_eq_some_iff,Option.map_eq_some_iff] at hc
   case seq cx cy =>
    simp only [Option.bind_eq_some_iff,Option.map_eq_some_iff,Code.seq.injEq] at hc
    obtain ⟨ax,hx,ay,hy,rfl,rfl⟩:=hc
    simp only [W] at hr
    refine wp_seq (ihx cx hx lc s a w _ h hk0 hr _ fun e s1 lc' a' w' h1 h' hk1=>?_)
    cases e with
    | normal=>exact ihy cy hy lc' s1 a' w' _ h' hk1 h1 Q hQ
    | exit i=>exact hQ _ _ _ _ _ h1 h' hk1
    | ret=>exact hQ _ _ _ _ _ h1 h' hk1
   all_goals simp [Option.bind_eq_some_iff,Option.map_eq_some_iff] at hc
 | cond x c1 c2 ih1 ih2 =>
   intro c hc lc s a w Kf h hk0 hr Q hQ
   cases c<;>simp only [codeU,erase,Option.some.injEq,reduceCtorEq] at hc
   case region id ops draw=>cases draw<;>simp [codeU,Option.bind_eq_some_iff,Option.map_eq_some_iff] at hc
   case cond cx d1 d2 =>
    simp only [Option.bind_eq_some_iff,Option.map_eq_some_iff,Code.cond.injEq] at hc
    obtain ⟨y,hy,a1,h1,a2,h2,rfl,rfl,rfl⟩:=hc
    simp only [W] at hr
    have hv:=ybY h.tm hy
    obtain ⟨t,ht,hr⟩:=hr
    rw [ht] at hv
    simp only [RV] at hv
    refine wp_cond hv ?_
    cases t with
    | true=>exact ih1 d1 h1 lc s a w _ h hk0 hr Q hQ
    | false=>exact ih2 d2 h2 lc s a w _ h hk0 hr Q hQ
   all_goals simp [Option.bind_eq_some_iff,Option.map_eq_some_iff] at hc
 | block id b ih =>
   intro c hc lc s a w Kf h hk0 hr Q hQ
   cases c<;>simp only [codeU,erase,Option.some.injEq,reduceCtorEq] at hc
   case region id ops draw=>cases draw<;>simp [codeU,Option.bind_eq_some_iff,Option.map_eq_some_iff] at hc
   case block id' cb =>
    simp only [Option.map_eq_some_iff,Code.block.injEq] at hc
    obtain ⟨ab,hb,rfl,rfl⟩:=hc
    simp only [W] at hr
    refine wp_block (ih cb hb lc s a w _ h hk0 hr _ fun e s1 lc' a' w' h1 h' hk1=>?_)
    cases e with
    | normal=>exact hQ .normal _ _ _ _ h1 h' hk1
    | exit i =>
      simp only [y4kY] at h1
      simp only [exOf,Exit.inBlock]
      split at h1
      ·rename_i hi
       rw [if_pos hi]
       exact hQ .normal _ _ _ _ h1 h' hk1
      ·rename_i hi
       rw [if_neg hi]
       exact hQ (.exit i) _ _ _ _ h1 h' hk1
    | ret=>exact hQ .ret _ _ _ _ h1 h' hk1
   all_goals simp [Option.bind_eq_some_iff,Option.map_eq_some_iff] at hc
 | loop b ih =>
   intro c hc lc s a w Kf h hk0 hr Q hQ
   cases c<;>simp only [codeU,erase,Option.some.injEq,reduceCtorEq] at hc
   case region id ops draw=>cases draw<;>simp [codeU,Option.bind_eq_some_iff,Option.map_eq_some_iff] at hc
   case loop cb =>
    simp only [Option.map_eq_some_iff,Code.loop.injEq] at hc
    obtain ⟨ab,hb,rfl⟩:=hc
    simp only [W] at hr
    obtain ⟨n,hn⟩:=hr
    refine wp_loop_rounds n ?_
    induction n generalizing lc s a w with
    | zero=>simp [loopW] at hn
    | succ n ihn =>
      simp only [loopW] at hn
      rw [rounds_succ]
      refine ih cb hb lc s a w _ h hk0 hn _ fun e s1 lc' a' w' h1 h' hk1=>?_
      cases e with
      | normal=>exact ihn lc' s1 a' w' h' hk1 h1
      | exit i=>exact hQ _ _ _ _ _ h1 h' hk1
      | ret=>exact hQ _ _ _ _ _ h1 h' hk1
   all_goals simp [Option.bind_eq_some_iff,Option.map_eq_some_iff] at hc
 | exit id =>
   intro c hc lc s a w Kf h hk0 hr Q hQ
   cases c<;>simp only [codeU,erase,Option.some.injEq,reduceCtorEq] at hc
   case region id ops draw=>cases draw<;>simp [codeU,Option.bind_eq_some_iff,Option.map_eq_some_iff] at hc
   case exit id' =>
    simp only [Code.exit.injEq] at hc
    subst hc
    exact wp_exit (hQ _ _ _ _ _ hr h hk0)
   all_goals simp [Option.bind_eq_some_iff,Option.map_eq_some_iff] at hc
 | ret =>
   intro c hc lc s a w Kf h hk0 hr Q hQ
   cases c<;>simp only [codeU,erase,Option.some.injEq,reduceCtorEq] at hc
   case region id ops draw=>cases draw<;>simp [codeU,Option.bind_eq_some_iff,Option.map_eq_some_iff] at hc
   case ret=>exact wp_ret (hQ _ _ _ _ _ hr h hk0)
   all_goals simp [Option.bind_eq_some_iff,Option.map_eq_some_iff] at hc
 | join x y ihx ihy =>
   intro c hc lc s a w Kf h hk0 hr Q hQ
   cases c<;>simp only [codeU,erase,Option.some.injEq,reduceCtorEq] at hc
   case region id ops draw=>cases draw<;>simp [codeU,Option.bind_eq_some_iff,Option.map_eq_some_iff] at hc
   case seq cx cy =>
    simp only [Option.bind_eq_some_iff,Option.map_eq_some_iff,Code.seq.injEq] at hc
    obtain ⟨ax,hx,ay,hy,rfl,rfl⟩:=hc
    simp only [W] at hr
    refine wp_seq (ihx cx hx lc s a w _ h hk0 hr _ fun e s1 lc' a' w' h1 h' hk1=>?_)
    cases e with
    | normal=>exact ihy cy hy lc' s1 a' w' _ h' hk1 h1 Q hQ
    | exit i=>exact hQ _ _ _ _ _ h1 h' hk1
    | ret=>exact hQ _ _ _ _ _ h1 h' hk1
   all_goals simp [Option.bind_eq_some_iff,Option.map_eq_some_iff] at hc
 | gh g b ih =>
   intro c hc lc s a w Kf h hk0 hr Q hQ
   simp only [W] at hr
   obtain ⟨s1,hg,hr⟩:=hr
   obtain ⟨lc1,h1,hk1⟩:=y74Y h hg
   exact ih c (by simpa [erase] using hc) lc1 s1 a w Kf h1 (hk0.trans hk1) hr Q hQ
theorem ypmY (hGG:Grows G) (hR:y1xY P G R) (hm:P.follows .mixedOrders=true) {q:Nat} {f:Nat} {fn:Go.Func} {af:Func} (hf:P.funcs[f]?=some fn) (hT:funcU P sh q fn=some af.erase) {ab:Code} (hbody:af.body=.gh (.nil q 1 0) (.gh (.kill q) ab)) {args:List D} {r:D} (hr:AnsF R af args r) :
 closed r=true/\Spec P G f args r:=by
 unfold funcU at hT
 simp only [Option.bind_eq_some_iff,Option.map_eq_some_iff] at hT
 obtain ⟨b,hb,ac,hac,rs,hrs,hT⟩:=hT
 obtain ⟨hlen,hW⟩:=hr
 obtain ⟨ps,nt,rs',body⟩:=af
 simp only at hbody
 subst hbody
 simp only [Func.erase,Func.mk.injEq] at hT hlen hW
 obtain ⟨rfl,rfl,rfl,rfl⟩:=hT
 refine ⟨?_,?_⟩
 ·obtain ⟨e,s',h⟩:=y9nY hW
  cases e with
  | normal=>exact y75Y h
  | ret=>exact y75Y h
  | exit i=>exact h.elim
 intro w S vs hG0 hvs
 have hsz:vs.size=args.length:=by simpa using hvs.length
 refine calls_of_wp hf hb ?_
 have hrel:=ydkY (S:=S) (w:=w) (n:=fn.ntmps) (args:=args) (vs:=vs) (by omega) hvs
 simp only [W] at hW
 obtain ⟨s1,g1,s2,g2,hW⟩:=hW
 obtain ⟨lc1,hrel1,_⟩:=y74Y hrel g1
 obtain ⟨lc2,hrel2,_⟩:=y74Y hrel1 g2
 have hgen:1<=(s2.bx q).gen:=by
  simp only [y1uY,Nat.zero_add,Nat.zero_lt_one,if_true,Option.some.injEq] at g1 g2
  subst g1
  subst g2
  simp [upd]
 refine yplY (c0:=cxOf w.heap.size S s2.bx lc2 w) hGG hG0 hR hm hgen ab b hac _ _ _ w _ hrel2 (Keeps.refl _) hW _ fun e s' lc' a' w' h1 h' _=>?_
 have hres:results s' rs=some r:=by
  cases e<;>simp only [leftQ] at h1<;>exact h1
 obtain ⟨v,h4,h5⟩:=ydjY h' hrs hres
 have h6:bodyPost P fn (fun e w'=>∃ v,e=.returned v/\Below w.heap.size w w'/\RV ⟨w',fun b=>S b∨w.heap.size<=b,bx0,noLoc⟩ r v) .normal a' w' :=
  ⟨h'.df,v,h4,v,rfl,by have:=h'.below;exact this,h5⟩
 cases e with
 | normal=>exact h6
 | ret=>exact h6
 | exit i=>exact h1.elim
theorem ypnY (hGG:Grows G) (hm:P.follows .mixedOrders=true) {q:Nat} {f:Nat} {fn:Go.Func} {af:Func} (he:y1Y P f) (hf:P.funcs[f]?=some fn) (hT:funcU P sh q fn=some af.erase) {ab:Code} (hbody:af.body=.gh (.nil q 1 0) (.gh (.kill q) ab)) {args:List D} {r:D} (h:AnsF (PR P G) af args r):(PR P G).v f args r :=
 ⟨he,ypmY hGG (y9oY P G) hm hf hT hbody h⟩
end
end Go.Proofs.AM
