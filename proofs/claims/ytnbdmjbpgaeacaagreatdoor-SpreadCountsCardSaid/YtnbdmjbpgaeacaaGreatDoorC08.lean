/- Part 8 of the lemmas: APVc, AVVf, AVVg, AGLa, AGLb. -/
import Derived.Test.YtnbdmjbpgaeacaaGreatDoorC06
import Derived.Test.YtnbdmjbpgaeacaaGreatDoorC07
import Derived.Lib.LaidTab
import Derived.Lib.ParseIntBTie
import Derived.WalkKit
import Derived.Test.YtnbdmjbpgaeacaaGreatDoorProg
import Derived.Shelf.Abstract
set_option maxRecDepth 100000
set_option maxHeartbeats 8000000
set_option linter.all false
namespace Go.Proofs.AM
open Go Cd
noncomputable def c226:Func:=⟨1,51,[.cell 2 6 true,.tmp 3],cI Tryz.prog [] Tryz.f226 [] [14]⟩
noncomputable def c227:Func:=⟨1,28,[.tmp 2,.tmp 3],cB Tryz.prog [] Tryz.f227⟩
noncomputable def c173:Func:=⟨1,58,[.tmp 2,.tmp 3],cB Tryz.prog [] Tryz.f173⟩
noncomputable def c65:Func:=⟨1,54,[.tmp 2],cB Tryz.prog [] Tryz.f65⟩
noncomputable def c118:Func:=⟨1,17,[.tmp 2],cB Tryz.prog [] Tryz.f118⟩
noncomputable def c184:Func:=⟨1,50,[.tmp 2],cB Tryz.prog [] Tryz.f184⟩
noncomputable def c187:Func:=⟨1,15,[.tmp 2],cB Tryz.prog [] Tryz.f187⟩
noncomputable def c172:Func:=⟨1,53,[.cell 2 6 true,.tmp 3],cB Tryz.prog [] Tryz.f172⟩
noncomputable def c253:Func:=⟨1,73,[.tmp 2],cI Tryz.prog [] Tryz.f253 [] [2,4,14]⟩
noncomputable def c255:Func:=⟨1,26,[.tmp 2],cB Tryz.prog [] Tryz.f255⟩
noncomputable def c256:Func:=⟨3,95,[.cell 6 6 true,.tmp 7],cI Tryz.prog [] Tryz.f256 [] [2,13,24]⟩
noncomputable def c212:Func:=⟨1,29,[.tmp 2],cB Tryz.prog [] Tryz.f212⟩
noncomputable def c209:Func:=⟨1,103,[.tmp 2],cI Tryz.prog [] Tryz.f209 [] [12,14,16]⟩
noncomputable def c210:Func:=⟨1,18,[.tmp 2],cB Tryz.prog [] Tryz.f210⟩
noncomputable def c211:Func:=⟨3,109,[.cell 6 6 true,.tmp 7],cI Tryz.prog [] Tryz.f211 [] [2,23,46]⟩

noncomputable def c240:Func:=⟨2,18,[.tmp 4],cB Tryz.prog [] Tryz.f240⟩
noncomputable def c182:Func:=⟨2,9,[.tmp 4],cB Tryz.prog [] Tryz.f182⟩
noncomputable def c265:Func:=⟨1,6,[.tmp 2],cB Tryz.prog [] Tryz.f265⟩
noncomputable def c247:Func:=⟨2,48,[.tmp 4],cB Tryz.prog [] Tryz.f247⟩
noncomputable def c52:Func:=⟨2,9,[.tmp 4],cB Tryz.prog [] Tryz.f52⟩
noncomputable def c225:Func:=⟨2,19,[.tmp 4],cB Tryz.prog [] Tryz.f225⟩
noncomputable def c106:Func:=⟨2,19,[.tmp 4],cB Tryz.prog [] Tryz.f106⟩
end Go.Proofs.AM
namespace Go.Proofs.AM
open Go Go.Lib Cd
theorem yjtY {n:Int} (h:FI n):(decDigits n.natAbs).length<=19:=by
 have:=y7bY 18 n.natAbs (by have:(10:Nat) ^ 19=10000000000000000000:=by decide
                            unfold FI at h
                            omega)
 omega
theorem yjuY (q:Int):(0<=q->q.tdiv 10=q / 10)/\(q<0->q.tdiv 10=-((-q) / 10)):=by
 refine ⟨fun h=>Int.tdiv_eq_ediv_of_nonneg h,fun h=>?_⟩
 have h1:(-q).tdiv 10=(-q) / 10:=Int.tdiv_eq_ediv_of_nonneg (by omega)
 rw [Int.neg_tdiv] at h1
 omega
theorem yjvY (q:Int):(0<=q->q.tmod 10=q % 10)/\(q<0->q.tmod 10=-((-q) % 10)):=by
 refine ⟨fun h=>Int.tmod_eq_emod_of_nonneg h,fun h=>?_⟩
 have h1:(-q).tmod 10=(-q) % 10:=Int.tmod_eq_emod_of_nonneg (by omega)
 rw [Int.neg_tmod] at h1
 omega
theorem yjwY (R:Ans) (n0:Int) (hn0:FI n0):AnsF R c212 [jI n0] (mkS (itoa n0)):=by
 obtain ⟨r,hr⟩:∃ r,r=itoa n0:=⟨_,rfl⟩
 rw [←hr]
 have hd:=yjtY hn0
 unfold FI at hn0
 refine y2Y ⟨rfl,by decide⟩ fun O hO V hV=>?_
 conv=>cbv
 refine y4Y (fun c d=>∃ (q:Int) (acc:Str),d=⟨[(0,jI n0),(3,mkS acc),(4,jI q)],[],false⟩/\(-9223372036854775808<=q/\q<=9223372036854775807)/\c=q.natAbs+1/\decDigits n0.natAbs=decDigits q.natAbs++acc) ⟨_,_,⟨_,[],rfl,hn0,rfl,by simp⟩,⟨⟨rfl,rfl,rfl,trivial⟩,trivial,rfl⟩⟩ ?_
 rintro J up c d ⟨q,acc,rfl,hq,rfl,hacc⟩
 have key:∀ (e:Int),e=((q.natAbs % 10:Nat):Int)->(∃ l:Str,strOf [.int .u8 (O .wrap .u8 (O .iop .add .i64 48 e))]=some l/\l=[UInt8.ofNat (48+q.natAbs % 10)]):=by
  intro e he
  rw [y0Y hO (by omega) (by omega),ydsY hO,yduY (by omega) (by omega)]
  refine ⟨_,?_,rfl⟩
  unfold strOf
  rw [if_pos (by omega)]
  simp only [strOf,Option.map_some]
  rw [show (48+e).toNat=48+q.natAbs % 10 by omega]
 have hsl:acc.length<=19:=by have:=congrArg List.length hacc;simp at this;omega
 have hcat:O .cat ⟨[UInt8.ofNat (48+q.natAbs % 10)].toArray⟩ ⟨⟨acc⟩⟩=⟨⟨UInt8.ofNat (48+q.natAbs % 10)::acc⟩⟩:=o_cat hO [_] acc
 have hlen1:O .slen ⟨[UInt8.ofNat (48+q.natAbs % 10)].toArray⟩=1:=y18Y hO [_]
 have hlen2:O .slen ⟨⟨acc⟩⟩=acc.length:=y18Y hO acc
 obtain ⟨td1,td2⟩:=yjuY q
 obtain ⟨tm1,tm2⟩:=yjvY q
 have hrem:O .iop .rem .i64 q 10=q.tmod 10:=o_rem hO _ _ _ (by decide)
 have hquo:O .iop .quo .i64 q 10=q.tdiv 10:=by
  rw [o_quo hO _ _ _ (by decide),y4aY (by omega) (by omega)]
 have hneg:O .neg .neg .i64 (q.tmod 10)=- q.tmod 10:=by rw [o_neg hO,y4aY (by omega) (by omega)];omega
 have fin0:q.tdiv 10=0->UInt8.ofNat (48+q.natAbs % 10)::acc=decDigits n0.natAbs:=by
  intro h
  rw [hacc,y52Y (by omega)]
  rw [show q.natAbs % 10=q.natAbs by omega]
  rfl
 have fin1:q.tdiv 10≠0->decDigits n0.natAbs=decDigits (q.tdiv 10).natAbs++(UInt8.ofNat (48+q.natAbs % 10)::acc):=by
  intro h
  rw [hacc,y63Y (u:=q.natAbs) (by omega)]
  rw [show (q.tdiv 10).natAbs=q.natAbs / 10 by omega]
  simp
 obtain ⟨ds,hds⟩:∃ ds:Str,ds=[UInt8.ofNat (48+q.natAbs % 10)]:=⟨_,rfl⟩
 obtain ⟨acc',hacc'⟩:∃ acc':Str,acc'=UInt8.ofNat (48+q.natAbs % 10)::acc:=⟨_,rfl⟩
 rw [←hacc'] at fin0 fin1 hcat
 have hl':acc'.length<=20:=by rw [hacc'];simp;omega
 rw [←hds] at hcat hlen1
 conv=>cbv
 rw [hrem]
 have rest:∀ e:Int,e=((q.natAbs % 10:Nat):Int)->∃ l:Str,strOf [.int .u8 (O .wrap .u8 (O .iop .add .i64 48 e))]=some l/\l=ds:=by
  intro e he;obtain ⟨l,h1,h2⟩:=key e he;exact ⟨l,h1,by rw [h2,hds]⟩
 obtain ⟨e0,he0⟩:∃ e0:Int,e0=q.tmod 10:=⟨_,rfl⟩
 rw [←he0] at hneg ⊢
 conv=>cbv
 rintro (_|_) h1
 ·replace h1:=f_lss hO h1
  obtain ⟨l,hl1,rfl⟩:=rest e0 (by omega)
  conv=>cbv
  intro g
  conv=>cbv
  refine ⟨_,hl1,?_⟩
  conv=>cbv
  refine ⟨⟨by rw [hlen1,hlen2];omega⟩,?_⟩
  rw [hcat]
  conv=>cbv
  rw [hquo]
  obtain ⟨q',hq'⟩:∃ q':Int,q'=q.tdiv 10:=⟨_,rfl⟩
  rw [←hq'] at fin0 fin1 ⊢
  conv=>cbv
  rintro (_|_) h2
  ·replace h2:=f_eql hO h2
   conv=>cbv
   exact ⟨_,_,up _ _ ⟨q',acc',rfl,by omega,rfl,fin1 h2⟩,⟨⟨rfl,rfl,rfl,trivial⟩,trivial,rfl⟩,by omega⟩
  ·replace h2:=t_eql hO h2
   have hf:=fin0 h2
   conv=>cbv
   rintro (_|_) h3
   ·replace h3:=f_lss hO h3
    conv=>cbv
    rw [hr,hf,y54Y h3]
   ·replace h3:=t_lss hO h3
    have hc2:O .cat ⟨#[45]⟩ ⟨⟨acc'⟩⟩=⟨⟨45::acc'⟩⟩:=o_cat hO [45] acc'
    have hl3:O .slen ⟨#[45]⟩=1:=y18Y hO [45]
    have hl4:O .slen ⟨⟨acc'⟩⟩=acc'.length:=y18Y hO acc'
    conv=>cbv
    refine ⟨⟨by rw [hl3,hl4];omega⟩,?_⟩
    rw [hc2]
    conv=>cbv
    rw [hr,hf,y53Y h3]
 ·replace h1:=t_lss hO h1
  conv=>cbv
  rw [hneg]
  obtain ⟨e1,he1⟩:∃ e1:Int,e1=-e0:=⟨_,rfl⟩
  rw [←he1]
  obtain ⟨l,hl1,rfl⟩:=rest e1 (by omega)
  conv=>cbv
  intro g
  conv=>cbv
  refine ⟨_,hl1,?_⟩
  conv=>cbv
  refine ⟨⟨by rw [hlen1,hlen2];omega⟩,?_⟩
  rw [hcat]
  conv=>cbv
  rw [hquo]
  obtain ⟨q',hq'⟩:∃ q':Int,q'=q.tdiv 10:=⟨_,rfl⟩
  rw [←hq'] at fin0 fin1 ⊢
  conv=>cbv
  rintro (_|_) h2
  ·replace h2:=f_eql hO h2
   conv=>cbv
   exact ⟨_,_,up _ _ ⟨q',acc',rfl,by omega,rfl,fin1 h2⟩,⟨⟨rfl,rfl,rfl,trivial⟩,trivial,rfl⟩,by omega⟩
  ·replace h2:=t_eql hO h2
   have hf:=fin0 h2
   conv=>cbv
   rintro (_|_) h3
   ·replace h3:=f_lss hO h3
    conv=>cbv
    rw [hr,hf,y54Y h3]
   ·replace h3:=t_lss hO h3
    have hc2:O .cat ⟨#[45]⟩ ⟨⟨acc'⟩⟩=⟨⟨45::acc'⟩⟩:=o_cat hO [45] acc'
    have hl3:O .slen ⟨#[45]⟩=1:=y18Y hO [45]
    have hl4:O .slen ⟨⟨acc'⟩⟩=acc'.length:=y18Y hO acc'
    conv=>cbv
    refine ⟨⟨by rw [hl3,hl4];omega⟩,?_⟩
    rw [hc2]
    conv=>cbv
    rw [hr,hf,y53Y h3]
def NumR (s:Str) (v:Int) (b:Bool):Prop:=(b=true/\numS s=some v)∨(b=false/\v=0/\numS s=none)
theorem yjxY {s:Str} (h:11<s.length):numS s=none:=by
 cases hn:numS s with
 | none=>rfl
 | some n=>have:=y9tY hn;omega
theorem NumR.ex (s:Str):∃ v b,NumR s v b:=by
 cases h:numS s with
 | none=>exact ⟨0,false,.inr ⟨rfl,rfl,h⟩⟩
 | some n=>exact ⟨n,true,.inl ⟨rfl,h⟩⟩
theorem NumR.of {s:Str} {v n:Int} {b:Bool} (h:NumR s v b) (hn:numS s=some n):b=true/\v=n:=by
 rcases h with ⟨h1,h2⟩|⟨_,_,h2⟩
 ·rw [h2] at hn;simp only [Option.some.injEq] at hn;exact ⟨h1,hn⟩
 ·rw [h2] at hn;simp at hn
theorem NumR.none {s:Str} {v:Int} {b:Bool} (h:NumR s v b) (hn:numS s=none):b=false/\v=0:=by
 rcases h with ⟨_,h2⟩|⟨h1,h2,_⟩
 ·rw [h2] at hn;simp at hn
 ·exact ⟨h1,h2⟩
theorem yjyY:∀ (l:Str),l.foldl digv 0<10 ^ l.length:=by
 have key:∀ (l:Str) (a:Nat),l.foldl digv a<(a+1)*10 ^ l.length:=by
  intro l
  induction l with
  | nil=>intro a;simp
  | cons c r ih =>
    intro a
    rw [List.foldl_cons,List.length_cons]
    refine Nat.lt_of_lt_of_le (ih (digv a c)) ?_
    rw [Nat.pow_succ,Nat.mul_comm (10 ^ r.length) 10,←Nat.mul_assoc]
    refine Nat.mul_le_mul_right _ ?_
    unfold digv
    split<;>omega
 intro l
 have:=key l 0
 simpa using this
theorem yjzY (R:Ans) (h37:∀ n,FI n->R.v 212 [jI n] (mkS (itoa n))) (s:Str) (hs:SL s) (v:Int) (b:Bool) (hvb:NumR s v b):AnsF R c173 [mkS s] (.tup [jI v,.bool b]):=by
 unfold SL at hs
 refine y2Y ⟨rfl,by decide⟩ fun O hO V hV=>?_
 subst hV
 conv=>cbv
 rintro (_|_) h1
 ·replace h1:=f_gtr hO h1
  rw [y18Y hO] at h1
  have h11:s.length<=11:=by omega
  conv=>cbv
  refine y4Y (fun c d=>∃ (i a:Int) (k:Nat),d=⟨[(0,mkS s),(4,jI a),(5,jI i)],[],false⟩/\i=k/\k<=s.length/\c=s.length-k/\a=((s.take k).foldl digv 0:Nat)) ⟨_,_,⟨_,_,0,rfl,rfl,by omega,rfl,by simp⟩,⟨⟨rfl,rfl,rfl,trivial⟩,trivial,rfl⟩⟩ ?_
  rintro J up c d ⟨i,a,k,rfl,hi,hk,rfl,ha⟩
  have hbound:(s.take k).foldl digv 0<100000000000:=by
   have h2:=yjyY (s.take k)
   have h3:(10:Nat) ^ (s.take k).length<=10 ^ 11:=Nat.pow_le_pow_right (by decide) (by simp;omega)
   have:(10:Nat) ^ 11=100000000000:=by decide
   omega
  conv=>cbv
  rintro (_|_) h2
  ·replace h2:=f_lss hO h2
   rw [y18Y hO] at h2
   have hk2:s.take k=s:=List.take_of_length_le (by omega)
   rw [hk2] at ha hbound
   have fin:∀ n:Int,n=valS s->(∀ g:Int,g=n->FI g)/\(itoa n≠s->NumR s 0 false)/\(n<least->NumR s 0 false)/\(most<n->NumR s 0 false)/\(itoa n=s->least<=n->n<=most->NumR s n true):=by
    intro n hn
    subst hn
    have hb:-100000000000<valS s/\valS s<100000000000:=by unfold valS dig;split<;>omega
    refine ⟨fun g hg=>by unfold FI;omega,fun h=>.inr ⟨rfl,rfl,?_⟩,fun h=>.inr ⟨rfl,rfl,?_⟩,fun h=>.inr ⟨rfl,rfl,?_⟩,fun h3 h4 h5=>.inl ⟨rfl,?_⟩⟩
    ·unfold numS;rw [if_neg (fun hc=>h hc.1)]
    ·unfold numS;rw [if_neg (fun hc=>by omega)]
    ·unfold numS;rw [if_neg (fun hc=>by omega)]
    ·unfold numS;rw [if_pos ⟨h3,h4,h5⟩]
   have same:∀ v' b',NumR s v' b'->v=v'/\b=b':=by
    intro v' b' h
    rcases h with ⟨h4,h5⟩|⟨h4,h5,h6⟩
    ·obtain ⟨h7,h8⟩:=hvb.of h5;exact ⟨h8,by rw [h7,h4]⟩
    ·obtain ⟨h7,h8⟩:=hvb.none h6;exact ⟨by rw [h8,h5],by rw [h7,h4]⟩
   conv=>cbv
   have br:∀ x:Int,x=valS s->∃ z:Str,V.v 212 [jI x] (.str ⟨⟨z⟩⟩)/\z=itoa x:=fun x hx=>⟨_,h37 x ((fin x hx).1 x rfl),rfl⟩
   rintro (_|_) h3
   ·replace h3:=f_gtr hO h3
    rw [y18Y hO] at h3
    conv=>cbv
    have hs0:s=[]:=List.length_eq_zero_iff.1 (by omega)
    obtain ⟨n,hn⟩:∃ n:Int,n=a:=⟨_,rfl⟩
    have hnv:n=valS s:=by rw [hn,ha,hs0];rfl
    rw [←hn]
    clear hn
    obtain ⟨z,hz,hzi⟩:=br n hnv
    obtain ⟨_,f1,f2,f3,f4⟩:=fin n hnv
    refine ⟨_,hz,?_⟩
    conv=>cbv
    rintro (_|_) h5
    ·replace h5:z=s:=y51Y hO h5
     conv=>cbv
     rintro (_|_) h6
     ·replace h6:=f_lss hO h6
      conv=>cbv
      rintro (_|_) h7
      ·replace h7:=f_gtr hO h7
       conv=>cbv
       obtain ⟨e1,e2⟩:=same _ _ (f4 (by rw [←hzi];exact h5) (by unfold least;omega) (by unfold most;omega))
       rw [e1,e2]
      ·replace h7:=t_gtr hO h7
       conv=>cbv
       obtain ⟨e1,e2⟩:=same _ _ (f3 (by unfold most;omega))
       rw [e1,e2]
     ·replace h6:=t_lss hO h6
      conv=>cbv
      obtain ⟨e1,e2⟩:=same _ _ (f2 (by unfold least;omega))
      rw [e1,e2]
    ·replace h5:z≠s:=y50Y hO h5
     conv=>cbv
     obtain ⟨e1,e2⟩:=same _ _ (f1 (by rw [←hzi];exact h5))
     rw [e1,e2]
   ·replace h3:=t_gtr hO h3
    rw [y18Y hO] at h3
    conv=>cbv
    obtain ⟨c0,hc0⟩:∃ c,s[0]?=some c:=⟨_,List.getElem?_eq_getElem (by omega)⟩
    obtain ⟨u,hu⟩:∃ u:Int,u=O .u8 c0:=⟨_,rfl⟩
    have hu2:=hu
    rw [o_u8 hO] at hu2
    refine ⟨c0,⟨by decide⟩,hc0,?_⟩
    rw [←hu]
    conv=>cbv
    rintro (_|_) h4
    ·replace h4:=f_eql hO h4
     conv=>cbv
     obtain ⟨n,hn⟩:∃ n:Int,n=a:=⟨_,rfl⟩
     have hnv:n=valS s:=by
      unfold valS
      rw [hc0,if_neg (fun e=>by simp only [Option.some.injEq] at e;subst e;exact h4 hu2),hn,ha]
      rfl
     rw [←hn]
     clear hn
     obtain ⟨z,hz,hzi⟩:=br n hnv
     obtain ⟨_,f1,f2,f3,f4⟩:=fin n hnv
     refine ⟨_,hz,?_⟩
     conv=>cbv
     rintro (_|_) h5
     ·replace h5:z=s:=y51Y hO h5
      conv=>cbv
      rintro (_|_) h6
      ·replace h6:=f_lss hO h6
       conv=>cbv
       rintro (_|_) h7
       ·replace h7:=f_gtr hO h7
        conv=>cbv
        obtain ⟨e1,e2⟩:=same _ _ (f4 (by rw [←hzi];exact h5) (by unfold least;omega) (by unfold most;omega))
        rw [e1,e2]
       ·replace h7:=t_gtr hO h7
        conv=>cbv
        obtain ⟨e1,e2⟩:=same _ _ (f3 (by unfold most;omega))
        rw [e1,e2]
      ·replace h6:=t_lss hO h6
       conv=>cbv
       obtain ⟨e1,e2⟩:=same _ _ (f2 (by unfold least;omega))
       rw [e1,e2]
     ·replace h5:z≠s:=y50Y hO h5
      conv=>cbv
      obtain ⟨e1,e2⟩:=same _ _ (f1 (by rw [←hzi];exact h5))
      rw [e1,e2]
    ·replace h4:=t_eql hO h4
     have hneg:O .neg .neg .i64 a=-a:=by rw [o_neg hO,y4aY (by omega) (by omega)];omega
     conv=>cbv
     rw [hneg]
     obtain ⟨n,hn⟩:∃ n:Int,n=-a:=⟨_,rfl⟩
     have hnv:n=valS s:=by
      unfold valS
      have:c0=45:=by
       apply UInt8.toNat_inj.1
       have:(45:UInt8).toNat=45:=by decide
       omega
      rw [hc0,if_pos (by rw [this]),hn,ha]
      rfl
     rw [←hn]
     clear hn
     obtain ⟨z,hz,hzi⟩:=br n hnv
     obtain ⟨_,f1,f2,f3,f4⟩:=fin n hnv
     refine ⟨_,hz,?_⟩
     conv=>cbv
     rintro (_|_) h5
     ·replace h5:z=s:=y51Y hO h5
      conv=>cbv
      rintro (_|_) h6
      ·replace h6:=f_lss hO h6
       conv=>cbv
       rintro (_|_) h7
       ·replace h7:=f_gtr hO h7
        conv=>cbv
        obtain ⟨e1,e2⟩:=same _ _ (f4 (by rw [←hzi];exact h5) (by unfold least;omega) (by unfold most;omega))
        rw [e1,e2]
       ·replace h7:=t_gtr hO h7
        conv=>cbv
        obtain ⟨e1,e2⟩:=same _ _ (f3 (by unfold most;omega))
        rw [e1,e2]
      ·replace h6:=t_lss hO h6
       conv=>cbv
       obtain ⟨e1,e2⟩:=same _ _ (f2 (by unfold least;omega))
       rw [e1,e2]
     ·replace h5:z≠s:=y50Y hO h5
      conv=>cbv
      obtain ⟨e1,e2⟩:=same _ _ (f1 (by rw [←hzi];exact h5))
      rw [e1,e2]
  ·replace h2:=t_lss hO h2
   rw [y18Y hO] at h2
   conv=>cbv
   obtain ⟨b',hb'⟩:∃ b',s[k]?=some b':=⟨_,List.getElem?_eq_getElem (by omega)⟩
   obtain ⟨u,hu⟩:∃ u:Int,u=O .u8 b':=⟨_,rfl⟩
   have hu2:=hu
   rw [o_u8 hO] at hu2
   have hstep:(s.take (k+1)).foldl digv 0=digv ((s.take k).foldl digv 0) b':=by
    rw [List.take_add_one,hb',List.foldl_append]
    rfl
   refine ⟨b',⟨by omega⟩,by rw [hi];exact hb',?_⟩
   rw [←hu]
   conv=>cbv
   rintro (_|_) h3
   ·replace h3:=f_geq hO h3
    conv=>cbv
    refine ⟨_,_,up _ _ ⟨_,_,k+1,rfl,?_,by omega,rfl,?_⟩,⟨⟨rfl,rfl,rfl,trivial⟩,trivial,rfl⟩,by omega⟩
    ·rw [y0Y hO (by omega) (by omega)];omega
    ·rw [ha,hstep];unfold digv;rw [if_neg (by omega)]
   ·replace h3:=t_geq hO h3
    conv=>cbv
    refine ⟨b',⟨by omega⟩,by rw [hi];exact hb',?_⟩
    rw [←hu]
    conv=>cbv
    rintro (_|_) h4
    ·replace h4:=f_leq hO h4
     conv=>cbv
     refine ⟨_,_,up _ _ ⟨_,_,k+1,rfl,?_,by omega,rfl,?_⟩,⟨⟨rfl,rfl,rfl,trivial⟩,trivial,rfl⟩,by omega⟩
     ·rw [y0Y hO (by omega) (by omega)];omega
     ·rw [ha,hstep];unfold digv;rw [if_neg (by omega)]
    ·replace h4:=t_leq hO h4
     conv=>cbv
     refine ⟨b',⟨by omega⟩,by rw [hi];exact hb',?_⟩
     rw [←hu]
     conv=>cbv
     refine ⟨_,_,up _ _ ⟨_,_,k+1,rfl,?_,by omega,rfl,?_⟩,⟨⟨rfl,rfl,rfl,trivial⟩,trivial,rfl⟩,by omega⟩
     ·rw [y0Y hO (by omega) (by omega)];omega
     ·rw [yjhY hO (by omega) (by omega),o_sub hO,yduY (by omega) (by omega),ydsY hO,y4aY (by omega) (by omega),y0Y hO (by omega) (by omega),ha,hstep]
      unfold digv
      rw [if_pos (by omega)]
      omega
 ·replace h1:=t_gtr hO h1
  rw [y18Y hO] at h1
  conv=>cbv
  obtain ⟨h2,h3⟩:=hvb.none (yjxY (by omega))
  rw [h2,h3]
def yebY (V:Ans) (f:Nat):Prop:=∀ s:Str,SL s->∃ (v:Int) (e:D),V.v f [mkS s,jI 10,jI 64] (.tup [jI v,e])/\FI v/\((e=.nili/\Lib.parseIntB 64 s=.ok v)∨(e=.opq/\∀ n,Lib.parseIntB 64 s≠.ok n))
theorem yk0Y (R:Ans) (h35:yebY R 257) (h36:∀ n,FI n->R.v 258 [jI n,jI 10] (mkS (itoa n))) (s:Str) (hs:SL s) (v:Int) (b:Bool) (hvb:NumR s v b):AnsF R c227 [mkS s] (.tup [jI v,.bool b]):=by
 obtain ⟨x,e,hx,hfi,hcase⟩:=h35 s hs
 have same:∀ v' b',NumR s v' b'->v=v'/\b=b':=by
  intro v' b' h
  rcases h with ⟨h4,h5⟩|⟨h4,h5,h6⟩
  ·obtain ⟨h7,h8⟩:=hvb.of h5;exact ⟨h8,by rw [h7,h4]⟩
  ·obtain ⟨h7,h8⟩:=hvb.none h6;exact ⟨by rw [h8,h5],by rw [h7,h4]⟩
 have none:(∀ n,NumP s n->False)->NumR s 0 false:=fun h=>.inr ⟨rfl,rfl,by
  cases hn:numS s with
  | none=>rfl
  | some n=>exact (h n (numS_iff.1 hn)).elim⟩
 refine y2Y ⟨rfl,by decide⟩ fun O hO V hV=>?_
 subst hV
 rcases hcase with ⟨rfl,hp⟩|⟨rfl,hp⟩
 ·have only:∀ n,NumP s n->n=x:=by
   rintro n ⟨rfl,h1,h2⟩
   rw [ye2Y h1 h2] at hp
   simpa using hp
  obtain ⟨z,hz,hzi⟩:∃ z:Str,V.v 258 [jI x,jI 10] (.str ⟨⟨z⟩⟩)/\z=itoa x:=⟨_,h36 x hfi,rfl⟩
  conv=>cbv
  refine ⟨_,hx,?_⟩
  conv=>cbv
  rintro (_|_) h1
  ·replace h1:=f_lss hO h1
   conv=>cbv
   rintro (_|_) h2
   ·replace h2:=f_gtr hO h2
    conv=>cbv
    refine ⟨_,hz,?_⟩
    conv=>cbv
    rintro (_|_) h3
    ·replace h3:z=s:=y51Y hO h3
     conv=>cbv
     obtain ⟨e1,e2⟩:=same x true (.inl ⟨rfl,numS_iff.2 ⟨by rw [←h3,hzi],by unfold least;omega,by unfold most;omega⟩⟩)
     rw [e1,e2]
    ·replace h3:z≠s:=y50Y hO h3
     conv=>cbv
     obtain ⟨e1,e2⟩:=same _ _ (none fun n hn=>h3 (by rw [hzi,←only n hn];exact hn.1.symm))
     rw [e1,e2]
   ·replace h2:=t_gtr hO h2
    conv=>cbv
    obtain ⟨e1,e2⟩:=same _ _ (none fun n hn=>by have:=only n hn;have:=hn.2.2;unfold most at this;omega)
    rw [e1,e2]
  ·replace h1:=t_lss hO h1
   conv=>cbv
   obtain ⟨e1,e2⟩:=same _ _ (none fun n hn=>by have:=only n hn;have:=hn.2.1;unfold least at this;omega)
   rw [e1,e2]
 ·obtain ⟨e1,e2⟩:=same _ _ (none fun n hn=>hp n (by obtain ⟨rfl,h1,h2⟩:=hn;exact ye2Y h1 h2))
  conv=>cbv
  refine ⟨_,hx,?_⟩
  conv=>cbv
  rw [e1,e2]
theorem yecY (s:Str) {v:Int} {b:Bool} (h:NumR s v b):yiY s=(b||nameB s):=by
 rw [ye3Y]
 rcases h with ⟨h1,h2⟩|⟨h1,_,h2⟩<;>rw [h1,h2]<;>simp
theorem yk1Y (R:Ans) (h16:∀ s,SL s->R.v 65 [mkS s] (.bool (nameB s))) (h15:∀ s,SL s->∀ v b,NumR s v b->R.v 173 [mkS s] (.tup [jI v,.bool b])) (s:Str) (hs:SL s):AnsF R c118 [mkS s] (.bool (yiY s)):=by
 obtain ⟨v,b,hvb⟩:=NumR.ex s
 have hv:=yecY s hvb
 have k1:=h16 s hs
 have k2:=h15 s hs v b hvb
 obtain ⟨r,hr⟩:∃ r,r=yiY s:=⟨_,rfl⟩
 obtain ⟨q,hq⟩:∃ q,q=nameB s:=⟨_,rfl⟩
 rw [←hr,←hq] at hv
 rw [←hq] at k1
 rw [←hr]
 clear hr hq hvb
 refine y2Y ⟨rfl,by decide⟩ fun O hO V hV=>?_
 subst hV
 conv=>cbv
 refine ⟨_,k1,?_⟩
 conv=>cbv
 refine ⟨_,k2,?_⟩
 subst hv
 cases q<;>cases b<;>(conv=>cbv)<;>trivial
theorem yk2Y (R:Ans) (h18:∀ s,SL s->R.v 184 [mkS s] (.bool (nameB s))) (h13:∀ s,SL s->∀ v b,NumR s v b->R.v 227 [mkS s] (.tup [jI v,.bool b])) (s:Str) (hs:SL s):AnsF R c187 [mkS s] (.bool (yiY s)):=by
 obtain ⟨v,b,hvb⟩:=NumR.ex s
 have hv:=yecY s hvb
 have k1:=h18 s hs
 have k2:=h13 s hs v b hvb
 obtain ⟨r,hr⟩:∃ r,r=yiY s:=⟨_,rfl⟩
 obtain ⟨q,hq⟩:∃ q,q=nameB s:=⟨_,rfl⟩
 rw [←hr,←hq] at hv
 rw [←hq] at k1
 rw [←hr]
 clear hr hq hvb
 refine y2Y ⟨rfl,by decide⟩ fun O hO V hV=>?_
 subst hV
 conv=>cbv
 refine ⟨_,k2,?_⟩
 subst hv
 cases b
 ·conv=>cbv
  refine ⟨_,k1,?_⟩
  conv=>cbv
  trivial
 ·conv=>cbv
  trivial
end Go.Proofs.AM
namespace Go.Proofs.AM
open Go Go.Lib Go.RowKit Go.Maps Go.Sort Go.Shelf
structure Gd (P:Program) (w:World):Prop where
 syn : ∃ tp p, w.var? P "strconv.ErrSyntax" = some #[.iface tp p]
 rng : ∃ tp p, w.var? P "strconv.ErrRange" = some #[.iface tp p]
 tab : Lib.TabIs P w "internal/strconv.uint64pow10" .u64 Lib.pow10Tab
theorem ya2Y {P:Program} {w w':World} {n:String} {cs:Array Value} (h:w.var? P n=some cs) (hb:Below w.heap.size w w'):w'.var? P n=some cs:=by
 unfold World.var? at h ⊢
 rw [Option.bind_eq_some_iff] at h ⊢
 obtain ⟨g,h1,h2⟩:=h
 refine ⟨g,h1,?_⟩
 cases hg:w.heap[g]? with
 | none=>rw [hg] at h2;simp at h2
 | some o =>
   have hlt:g<w.heap.size:=(Array.getElem?_eq_some_iff.mp hg).1
   rw [hb.block g hlt]
   exact h2
theorem Gd.grows (P:Program):Grows (Gd P):=by
 intro w w' h hb
 obtain ⟨⟨t1,p1,h1⟩,⟨t2,p2,h2⟩,h3⟩:=h
 exact ⟨⟨t1,p1,ya2Y h1 hb⟩,⟨t2,p2,ya2Y h2 hb⟩,ya2Y h3 hb⟩
theorem yk3Y (w:World) (k:Nat) (os:Array Obj):RowKit.Below w.heap.size w (Go.Sort.grow (w.drewN k) os) where
 os:=rfl
 tape:=rfl
 output:=rfl
 size:=by simp [Go.Sort.grow,World.drewN]
 block:=fun j hj=>by
  show (w.heap++os)[j]?=w.heap[j]?
  rw [Array.getElem?_append_left hj]
theorem fmt36 (n:Int) (hn:FI n):(PR Tryz.prog (Gd Tryz.prog)).v 258 [.int .i64 n,.int .i64 10] (mkS (itoa n)):=by
 refine ⟨enters_of Tryz.func258 (by kernel_rfl) rfl,rfl,fun w S vs hG hv=>?_⟩
 simp only [RVs,RV] at hv
 obtain ⟨_,_,e1,rfl,_,_,rfl,rfl,rfl⟩:=hv
 obtain rfl:vs=#[.int .i64 n,.int .i64 10]:=by apply Array.toList_inj.1;rw [e1]
 refine (Any.strconv_FormatInt_10 Tryz.laysM173 n hn.1 hn.2 w hG.tab).mono ?_
 rintro e w' ⟨rfl,k,os,rfl⟩
 exact ⟨_,rfl,yk3Y w k os,rfl⟩
theorem yk4Y:yebY (PR Tryz.prog (Gd Tryz.prog)) 257:=by
 intro s hs
 unfold SL at hs
 have hen:y1Y Tryz.prog 257:=enters_of Tryz.func257 (by kernel_rfl) rfl
 have hsz:(⟨⟨s⟩⟩:ByteArray).size=s.length:=rfl
 have args:∀ {c:Cx} {vs:Array Value},RVs c [mkS s,.int .i64 10,.int .i64 64] vs.toList->vs=#[.string ⟨⟨s⟩⟩,.int .i64 10,.int .i64 64]:=by
  intro c vs hv
  simp only [RVs,RV,mkS] at hv
  obtain ⟨_,_,e1,rfl,_,_,rfl,rfl,_,_,rfl,rfl,rfl⟩:=hv
  apply Array.toList_inj.1
  rw [e1]
 rcases hp:parseIntB 64 s with v|_|_
 ·have hb:=parseIntB_bounds hp
  have e63:((2 ^ (64-1):Nat):Int)=9223372036854775808:=by decide
  rw [e63] at hb
  refine ⟨v,.nili,⟨hen,rfl,fun w S vs hG hv=>?_⟩,⟨by omega,by omega⟩,.inl ⟨rfl,rfl⟩⟩
  obtain rfl:=args hv
  refine (Any.strconv_ParseInt_10_at64_ok Tryz.laysC174 ⟨⟨s⟩⟩ (by rw [hsz];omega) v hp w).mono ?_
  rintro e w' ⟨rfl,hw⟩
  refine ⟨_,rfl,?_,by simp [RV,RVs]⟩
  rcases hw with rfl|⟨t,rfl⟩
  ·exact Below.refl _ _
  ·exact bytesWorld_below w _ t
 ·refine ⟨0,.opq,⟨hen,rfl,fun w S vs hG hv=>?_⟩,⟨by omega,by omega⟩,.inr ⟨rfl,fun n hn=>by simp at hn⟩⟩
  obtain rfl:=args hv
  obtain ⟨tp,p,hvar⟩:=hG.syn
  refine (Any.strconv_ParseInt_10_at64_syntax_var Tryz.laysC174 ⟨⟨s⟩⟩ (by rw [hsz];omega) hp tp p w hvar).mono ?_
  rintro e w' ⟨N,rfl,_,_,hb⟩
  exact ⟨_,rfl,hb,by simp only [RV,RVs];exact ⟨_,rfl,_,_,rfl,rfl,_,_,rfl,⟨_,_,rfl⟩,rfl⟩⟩
 ·have hsat:FI (intSat 64 s):=by
   have e63:((2 ^ (64-1):Nat):Int)=9223372036854775808:=by decide
   cases s with
   | nil=>simp [parseIntB] at hp
   | cons c r =>
     by_cases h45:c=45
     ·subst h45;rw [intSat_minus,e63];exact ⟨by omega,by omega⟩
     ·rw [intSat_other _ _ _ (fun e=>h45 (by apply UInt8.toNat_inj.1;rw [e];rfl))]
      have:((2 ^ (64-1)-1:Nat):Int)=9223372036854775807:=by decide
      rw [this]
      exact ⟨by omega,by omega⟩
  refine ⟨intSat 64 s,.opq,⟨hen,rfl,fun w S vs hG hv=>?_⟩,hsat,.inr ⟨rfl,fun n hn=>by simp at hn⟩⟩
  obtain rfl:=args hv
  obtain ⟨tp,p,hvar⟩:=hG.rng
  refine (Any.strconv_ParseInt_10_at64_range_var Tryz.laysC174 ⟨⟨s⟩⟩ (by rw [hsz];omega) hp tp p w hvar).mono ?_
  rintro e w' ⟨N,rfl,_,_,hb⟩
  exact ⟨_,rfl,hb,by simp only [RV,RVs];exact ⟨_,rfl,_,_,rfl,rfl,_,_,rfl,⟨_,_,rfl⟩,rfl⟩⟩
theorem yedY {H:Type} (x:Lit × DataW H):∀ l:List (Lit × DataW H),(DataW.insert x l).Perm (x::l)
 | []=>List.Perm.refl _
 | y::r=>by
   unfold DataW.insert
   split
   ·exact List.Perm.refl _
   ·exact ((yedY x r).cons y).trans (List.Perm.swap x y r)
theorem ya3Y {H:Type}:∀ l:List (Lit × DataW H),(l.foldr DataW.insert []).Perm l
 | []=>List.Perm.refl _
 | x::r=>(yedY x _).trans ((ya3Y r).cons x)
theorem yk5Y {ss K:List Str} (h:ss.Perm K) (hK:K.Nodup):ss.mergeSort (fun x y=>decide (x<=y))=ydY K:=by
 have hp:=List.mergeSort_perm ss fun x y=>decide (x<=y)
 have hs:=List.pairwise_mergeSort (le:=fun x y:Str=>decide (x<=y)) (fun a b c h1 h2=>by
  simp only [decide_eq_true_eq] at h1 h2 ⊢
  exact List.le_trans h1 h2) (fun a b=>by
  simp only [Bool.or_eq_true,decide_eq_true_eq]
  exact List.le_total a b) ss
 have hn:(ss.mergeSort fun x y=>decide (x<=y)).Nodup:=(hp.trans h).nodup_iff.2 hK
 refine y9vY ?_ (y4cY K) fun z=>by rw [(hp.trans h).mem_iff,y3jY]
 unfold Rises
 refine (hs.and hn).imp fun {a b} hab=>?_
 obtain ⟨h1,h2⟩:=hab
 simp only [decide_eq_true_eq] at h1
 rcases y55Y a b with k|k|k
 ·exact k
 ·exact absurd k h2
 ·exact absurd h1 (List.not_le.2 k)
def y58Y:Value->Option (DataW Unit × List MemPlace):=fun _=>some (.nil,[])
theorem yk6Y {b:Nat} {K:List Str} (hKs:∀ s∈K,SL s) (hKl:K.length<=8796093022208) {w:World} {mes:Array MapEntry} {clk:Nat} (hb:w.heap[b]?=some (.map mes clk)) (hst:Stp mes clk)
 (hes:mes.toList.map (·.key)=K.map fun s=>.string ⟨⟨s⟩⟩):∃ D0:DataW Unit,w.ownsMap Tryz.prog 9 y58Y b mes.size D0/\Maps.size D0=K.length/\(strKeys D0).Perm K:=by
 have hlen:mes.size=K.length:=by have:=congrArg List.length hes;simpa using this
 have hrd:∀ x∈mes.toList,∃ s∈K,x.key=.string ⟨⟨s⟩⟩:=fun x hx=>by
  have:x.key∈mes.toList.map (·.key):=List.mem_map.2 ⟨x,hx,rfl⟩
  rw [hes] at this
  obtain ⟨s,h1,h2⟩:=List.mem_map.1 this
  exact ⟨s,h1,h2.symm⟩
 have hko:∀ s,SL s->keyOf Tryz.prog 9 (.string ⟨⟨s⟩⟩)=some (.string s):=fun s hs=>Go.WideMaps.keyOf_string_mk (s:=⟨⟨s⟩⟩) Tryz.underlying9 (by
  have hsz:(⟨⟨s⟩⟩:ByteArray).size=s.length:=rfl
  unfold SL at hs
  have:maxLen=9223372036854775807:=by decide
  omega)
 have hrg:mes.toList.map (fun x=>Go.strOf (Go.WideElems.rg Tryz.prog 9 y58Y x).1)=K:=by
  have:∀ (l:List MapEntry) (K:List Str),(∀ s∈K,SL s)->l.map (·.key)=K.map (fun s=>Value.string ⟨⟨s⟩⟩)->l.map (fun x=>Go.strOf (Go.WideElems.rg Tryz.prog 9 y58Y x).1)=K:=by
   intro l
   induction l with
   | nil=>intro K _ h;cases K with
     | nil=>rfl
     | cons _ _=>simp at h
   | cons x l ih =>
     intro K hK h
     cases K with
     | nil=>simp at h
     | cons s K =>
       simp only [List.map_cons,List.cons.injEq] at h ⊢
       refine ⟨?_,ih K (fun s hs=>hK s (by simp [hs])) h.2⟩
       unfold Go.WideElems.rg Go.WideElems.rd y58Y
       rw [h.1,hko s (hK s (by simp))]
       rfl
  exact this _ _ hKs hes
 refine ⟨_,⟨mes,clk,hb,⟨by
  have:maxLen=9223372036854775807:=by decide
  omega,hst,fun x hx=>?_⟩,Nat.le_refl _,rfl⟩,?_,?_⟩
 ·obtain ⟨s,hs,hk⟩:=hrd x hx
  exact ⟨(.string s,.nil),by unfold Go.WideElems.rd y58Y;rw [hk,hko s (hKs s hs)];rfl⟩
 ·rw [Maps.size_eq,(ya3Y _).length_eq]
  simpa using hlen
 ·show (List.map _ _).Perm K
  refine ((ya3Y _).map _).trans ?_
  rw [List.map_map]
  generalize Go.WideElems.rg Tryz.prog 9 (y58Y)=F at hrg ⊢
  exact List.Perm.of_eq hrg
theorem yk7Y (m:Nat):AnyZ.SortsIn Tryz.prog Tryz.sortedL_ren Fence.wide m :=
 ⟨fun blk off cap ss W hH hblk hsz=>callsIn_wide.2 (AnyM.slices_Sort_string Tryz.sortL blk off cap ss W hH hblk hsz),fun p cap W=>callsIn_wide.2 (AnyM.slices_Sort_string_none Tryz.sortL p cap W)⟩
theorem yk8Y (mb:Option Nat) (W:World):CallsIn Fence.wide 5 Tryz.prog 267 #[.map mb] W fun e w'=>e=.returned (.func (.func 281) #[] #[.pointer (some ⟨W.heap.size,0,none⟩)])/\w'=W.alloc (.cells #[.map mb] 93) :=
 AnyZ.keys_in Tryz.keysL Fence.wide 5 trivial rfl mb W
theorem yk9Y {H:Type} (b nn:Nat) (D0:DataW H) (R:Value->Option (DataW H × List MemPlace)) (w:World) (hown:w.ownsMap Tryz.prog 9 R b nn D0) (hmax:Maps.size D0<=maxLen) (hbytes:Maps.size D0*16<=140737488355328) :
 CallsIn Fence.wide 5 Tryz.prog 266 #[.func (.func 281) #[] #[.pointer (some ⟨w.heap.size,0,none⟩)]] (w.alloc (.cells #[.map (some b)] 93)) fun e w'=>∃ (v:Value) (ss:List (List UInt8)),e=.returned v/\ss.Perm (strKeys D0) /\
  w'.ownsRow (w.alloc (.cells #[.map (some b)] 93)).heap.size 9 1 v ss.length ((ss.mergeSort (fun x y=>decide (x<=y))).map encStr)/\(v=.slice none 0 0↔ss=[])/\RowKit.Below (w.alloc (.cells #[.map (some b)] 93)).heap.size (w.alloc (.cells #[.map (some b)] 93)) w':=by
 have hbl:=hown.lt
 have hseq:SeqGives Fence.wide 2 Tryz.prog 281 #[.pointer (some ⟨w.heap.size,0,none⟩)] encStr (fun ss=>ss.Perm (strKeys D0)) (Maps.size D0) (w.alloc (.cells #[.map (some b)] 93)) :=
  AnyZ.keys_gives (ρ:=Tryz.keysL_ren) { Tryz.keysL with } Fence.wide _ trivial rfl (by omega) w.heap.size b nn D0 _ (by simp) (by simp) (by
   obtain ⟨es,clock,hb,Ft,hs,hD⟩:=hown
   exact ⟨es,clock,(Below.heap_alloc _ _ b hbl).trans hb,Ft,hs,hD⟩)
 exact AnyZ.sorted_in Tryz.sortedL Fence.wide 5 trivial trivial trivial trivial rfl (by omega) (yk7Y _) (enters_of Tryz.func280 (by kernel_rfl) rfl) 281 #[.pointer (some ⟨w.heap.size,0,none⟩)] trivial (enters_of Tryz.func281 (by kernel_rfl) rfl) _ _ hmax hbytes _ hseq
theorem ykaY (b:Nat) (K:List Str) (hK:K.Nodup) (hKs:∀ s∈K,SL s) (hKl:K.length<=8796093022208) (w:World) (mes:Array MapEntry) (clk:Nat) (hb:w.heap[b]?=some (.map mes clk)) (hst:Stp mes clk)
 (hes:mes.toList.map (·.key)=K.map fun s=>.string ⟨⟨s⟩⟩) :
 Calls Tryz.prog 254 #[.map (some b)] w fun e w'=>∃ v:Value,e=.returned v/\w'.ownsRow w.heap.size 9 1 v K.length ((ydY K).map encStr)/\Below w.heap.size w w':=by
 obtain ⟨D0,hown,hsz,hperm⟩:=yk6Y hKs hKl hb hst hes
 have hmax:Maps.size D0<=maxLen:=by
  have:maxLen=9223372036854775807:=by decide
  omega
 have hbytes:Maps.size D0*16<=140737488355328:=by omega
 refine (callsIn_wide (n:=6)).1 ?_
 have hfK:Fence.wide.fn 267:=trivial
 have hfS:Fence.wide.fn 266:=trivial
 refine callsIn_of_wp Tryz.func254 rfl trivial ?_ rfl
 simp only [Tryz.ntmps254,List.size_toArray,List.length_cons,List.length_nil,Nat.reduceAdd,Nat.reduceSub,Array.replicate_succ,Array.replicate_zero,List.push_toArray,List.append_toArray,List.nil_append,List.cons_append]
 gi_wp2_with (first
  | (gi_at_call 267;refine (yk8Y _ _).mono ?_;rintro e w' ⟨rfl,rfl⟩)
  | (gi_at_call 266;refine (yk9Y b _ D0 _ w hown hmax hbytes).mono ?_;rintro e w' ⟨v,ss,rfl,hS,hrow,hnil,hb⟩))
 go_ret
 have hp:=hS.trans hperm
 have e1:=yk5Y hp hK
 have hrow':=ownsRow_base_a (base':=w.heap.size) hrow (by simp)
 rw [e1,hp.length_eq] at hrow'
 exact ⟨v,rfl,hrow',((Below.refl _ w).alloc (Nat.le_refl _) _).trans (hb.mono (by simp))⟩
theorem ykbY {w:World} {S:Nat->Prop} {base:Nat} {v:Value} {l:List Str} {n:Nat} (h:w.ownsRow base 9 1 v n (l.map encStr)) (hS:∀ b,base<=b->S b):RV ⟨w,S,bx0,noLoc⟩ (.sl 1 false (l.map mkS)) v:=by
 obtain ⟨hlen,h⟩:=h
 have hn:n=l.length:=by simpa using hlen.symm
 subst hn
 simp only [RV,List.length_map]
 rcases h with ⟨rfl,h0⟩|⟨g,cap,cur,rfl,hg,hgb,h1,h2,h3,h4⟩
 ·have:l=[]:=List.eq_nil_of_length_eq_zero h0
  subst this
  exact ⟨none,0,rfl,Nat.le_refl _,by simp,by simp,trivial⟩
 ·refine ⟨some ⟨g,0,none⟩,cap,rfl,h1,by simp,by simp,?_⟩
  have hlt:g<w.heap.size:=(Array.getElem?_eq_some_iff.mp hgb).1
  have key:∀ (r:List Str) (i:Nat),(∀ (j:Nat) s,r[j]?=some s->l[i+j]?=some s)->RSl ⟨w,S,bx0,noLoc⟩ 1 (some ⟨g,0,none⟩) i (r.map mkS):=by
   intro r
   induction r with
   | nil=>intro i _;trivial
   | cons s r ih =>
     intro i hr
     simp only [List.map_cons,RSl]
     refine ⟨⟨⟨g,0,none⟩,.string ⟨⟨s⟩⟩,rfl,hS g hg,hlt,rfl,rfl,by simp [Value.cells,Value.oneCell'],fun j hj=>?_⟩,ih (i+1) fun j s hj=>by have:=hr (j+1) s (by simpa using hj);rw [←this];congr 1;omega⟩
     have hj0:j=0:=by omega
     subst hj0
     have hs:=hr 0 s rfl
     rw [Nat.add_zero] at hs
     have hi:i<l.length:=(List.getElem?_eq_some_iff.1 hs).1
     have hc:cur[i]?=some (encStr s):=by
      have e1:(cur.toList.take (l.length*1))[i]?=some (encStr s):=by rw [h4,List.getElem?_map,hs];rfl
      rw [List.getElem?_take_of_lt (by omega)] at e1
      simpa using e1
     show w.cell? (Addr.add ⟨g,0,none⟩ (i*1+0))=_
     rw [y2lY]
     unfold World.cell?
     simp only [Nat.zero_add,Nat.mul_one,Nat.add_zero]
     rw [hgb]
     simpa [encStr,Value.cells] using hc
  exact key l 0 fun j s hj=>by simpa using hj
theorem yeeY {c:Cx}:∀ {K:List Str} {l:List MapEntry},REs c (K.map ent) l->l.map (·.key)=K.map fun s=>.string ⟨⟨s⟩⟩
 | [],l,h=>by simp only [List.map_nil,REs] at h;subst h;rfl
 | s::K,l,h=>by
   simp only [List.map_cons,REs,ent,RV,RVs,mkS] at h
   obtain ⟨e,r,rfl,⟨vs,h1,_,_,h2,rfl,_,_,rfl,rfl,rfl⟩,h3⟩:=h
   simp only [Value.tuple.injEq] at h1
   subst h1
   simp only [List.cons.injEq] at h2
   simp only [List.map_cons,List.cons.injEq]
   exact ⟨h2.1,yeeY h3⟩
theorem yefY (K:List Str) (hK:K.Nodup) (hKs:∀ s∈K,SL s) (hKl:K.length<=8796093022208):(PR Tryz.prog (Gd Tryz.prog)).v 254 [.mapv (K.map ent)] (.sl 1 false ((ydY K).map mkS)):=by
 have hc:CleanL ((ydY K).map mkS):=y8Y yhY rfl
 refine ⟨enters_of Tryz.func254 (by kernel_rfl) rfl,by simp [closed,hc.c],fun w S vs hG hv=>?_⟩
 simp only [RVs,RV] at hv
 obtain ⟨_,_,e1,⟨b,mes,clk,rfl,hA,⟨hb,hst⟩,hes⟩,rfl⟩:=hv
 obtain rfl:vs=#[.map (some b)]:=by apply Array.toList_inj.1;rw [e1]
 refine (ykaY b K hK hKs hKl w mes clk hb hst (yeeY hes)).mono ?_
 rintro e w' ⟨v,rfl,hrow,hbl⟩
 exact ⟨_,rfl,hbl,ykbY hrow fun b hb=>.inr hb⟩
end Go.Proofs.AM
namespace Go.Proofs.AM
open Go Go.RowKit Go.Shelf Cd
set_option maxRecDepth 100000
theorem yegY:Tryz.prog.follows .mixedOrders=true:=by kernel_rfl
theorem E52:y1Y Tryz.prog 52:=enters_of Tryz.func52 (by kernel_rfl) rfl
theorem T52:funcT Tryz.prog [] Tryz.f52=some c52.erase:=by kernel_rfl
theorem E65:y1Y Tryz.prog 65:=enters_of Tryz.func65 (by kernel_rfl) rfl
theorem T65:funcT Tryz.prog [] Tryz.f65=some c65.erase:=by kernel_rfl
theorem E106:y1Y Tryz.prog 106:=enters_of Tryz.func106 (by kernel_rfl) rfl
theorem T106:funcT Tryz.prog [] Tryz.f106=some c106.erase:=by kernel_rfl
theorem E118:y1Y Tryz.prog 118:=enters_of Tryz.func118 (by kernel_rfl) rfl
theorem T118:funcT Tryz.prog [] Tryz.f118=some c118.erase:=by kernel_rfl
theorem E172:y1Y Tryz.prog 172:=enters_of Tryz.func172 (by kernel_rfl) rfl
theorem T172:funcT Tryz.prog [] Tryz.f172=some c172.erase:=by kernel_rfl
theorem E173:y1Y Tryz.prog 173:=enters_of Tryz.func173 (by kernel_rfl) rfl
theorem T173:funcT Tryz.prog [] Tryz.f173=some c173.erase:=by kernel_rfl
theorem E182:y1Y Tryz.prog 182:=enters_of Tryz.func182 (by kernel_rfl) rfl
theorem T182:funcT Tryz.prog [] Tryz.f182=some c182.erase:=by kernel_rfl
theorem E184:y1Y Tryz.prog 184:=enters_of Tryz.func184 (by kernel_rfl) rfl
theorem T184:funcT Tryz.prog [] Tryz.f184=some c184.erase:=by kernel_rfl
theorem E187:y1Y Tryz.prog 187:=enters_of Tryz.func187 (by kernel_rfl) rfl
theorem T187:funcT Tryz.prog [] Tryz.f187=some c187.erase:=by kernel_rfl
theorem E209:y1Y Tryz.prog 209:=enters_of Tryz.func209 (by kernel_rfl) rfl
theorem T209:funcT Tryz.prog [] Tryz.f209=some c209.erase:=by kernel_rfl
theorem E210:y1Y Tryz.prog 210:=enters_of Tryz.func210 (by kernel_rfl) rfl
theorem T210:funcT Tryz.prog [] Tryz.f210=some c210.erase:=by kernel_rfl
theorem E211:y1Y Tryz.prog 211:=enters_of Tryz.func211 (by kernel_rfl) rfl
theorem T211:funcT Tryz.prog [] Tryz.f211=some c211.erase:=by kernel_rfl
theorem E212:y1Y Tryz.prog 212:=enters_of Tryz.func212 (by kernel_rfl) rfl
theorem T212:funcT Tryz.prog [] Tryz.f212=some c212.erase:=by kernel_rfl
theorem E225:y1Y Tryz.prog 225:=enters_of Tryz.func225 (by kernel_rfl) rfl
theorem T225:funcT Tryz.prog [] Tryz.f225=some c225.erase:=by kernel_rfl
theorem E226:y1Y Tryz.prog 226:=enters_of Tryz.func226 (by kernel_rfl) rfl
theorem T226:funcT Tryz.prog [] Tryz.f226=some c226.erase:=by kernel_rfl
theorem E227:y1Y Tryz.prog 227:=enters_of Tryz.func227 (by kernel_rfl) rfl
theorem T227:funcT Tryz.prog [] Tryz.f227=some c227.erase:=by kernel_rfl
theorem E240:y1Y Tryz.prog 240:=enters_of Tryz.func240 (by kernel_rfl) rfl
theorem T240:funcT Tryz.prog [] Tryz.f240=some c240.erase:=by kernel_rfl
theorem E247:y1Y Tryz.prog 247:=enters_of Tryz.func247 (by kernel_rfl) rfl
theorem T247:funcT Tryz.prog [] Tryz.f247=some c247.erase:=by kernel_rfl
theorem E253:y1Y Tryz.prog 253:=enters_of Tryz.func253 (by kernel_rfl) rfl
theorem T253:funcT Tryz.prog [] Tryz.f253=some c253.erase:=by kernel_rfl
theorem E255:y1Y Tryz.prog 255:=enters_of Tryz.func255 (by kernel_rfl) rfl
theorem T255:funcT Tryz.prog [] Tryz.f255=some c255.erase:=by kernel_rfl
theorem E256:y1Y Tryz.prog 256:=enters_of Tryz.func256 (by kernel_rfl) rfl
theorem T256:funcT Tryz.prog [] Tryz.f256=some c256.erase:=by kernel_rfl
theorem E265:y1Y Tryz.prog 265:=enters_of Tryz.func265 (by kernel_rfl) rfl
theorem T265:funcT Tryz.prog [] Tryz.f265=some c265.erase:=by kernel_rfl
end Go.Proofs.AM
