/- Part 13 of the lemmas: AVVs, AVVt, AVVu, PVf, AVVv, AVVw, AGLc, PWa, PWf, PWb, PWc, PYa, PZw. -/
import Derived.Test.YtnbdmjbpgaeacaaGreatDoorC11
import Derived.Test.YtnbdmjbpgaeacaaGreatDoorC07
import Derived.Test.YtnbdmjbpgaeacaaGreatDoorC08
import Derived.Test.YtnbdmjbpgaeacaaGreatDoorC09
import Derived.Test.YtnbdmjbpgaeacaaGreatDoorC10
import Derived.Test.YtnbdmjbpgaeacaaGreatDoorC12
import Derived.Test.YtnbdmjbpgaeacaaGreatDoorC06
set_option maxRecDepth 100000
set_option maxHeartbeats 8000000
set_option linter.all false
namespace Go.Proofs.AM
open Go Go.Lib Cd
theorem NumsR.yes {lo hi:Int} {S T:SetV} {b:Bool} (h:NumsR lo hi [] S b) (hT:y2jY lo hi []=some T):b=true/\S=T:=by
 rcases h with ⟨h1,h2⟩|⟨_,h2⟩
 ·rw [h2] at hT;simp only [Option.some.injEq] at hT;exact ⟨h1,hT⟩
 ·rw [h2] at hT;simp at hT
theorem yl2Y (R:Ans) (q:ReqV) (_hq:FR q) (h38:R.v 209 [reqD q] (jI (ysY q))) (h39:R.v 210 [.sl 1 false (q.l.map mkS)] (.sl 1 false ((ydY q.l).map mkS)))
 (h40:∀ lo hi:Int,least<=lo->lo<=most+1->hi<=most->least-1<=hi->∃ S b,R.v 211 [jI lo,jI hi,.sl 1 false []] (.tup [setD S,.bool b])/\NumsR lo hi [] S b) :
 AnsF R c172 [reqD q] (.tup [setD (ofSet q),jI (ysY q)]):=by
 obtain ⟨A,hA⟩:∃ A,A=ofSet q:=⟨_,rfl⟩
 obtain ⟨e,he⟩:∃ e,e=ysY q:=⟨_,rfl⟩
 have hok:e=0->¬BadOp q:=fun h=>(yemY (by rw [←he,h])).2.1
 obtain ⟨r,hrr⟩:∃ r,r=D.tup [setD (ofSet q),jI (ysY q)]:=⟨_,rfl⟩
 rw [←hrr]
 unfold ofSet at hrr
 rw [←he] at hrr h38
 clear he hA A _hq
 obtain ⟨key,op,l,n⟩:=q
 unfold BadOp at hok
 unfold ofS at hrr
 unfold reqD at h38 ⊢
 simp only at h38 h39 hrr hok ⊢
 obtain ⟨xs,hxs⟩:∃ xs,xs=l.map mkS:=⟨_,rfl⟩
 have hcx:CleanL xs:=y8Y yhY hxs
 obtain ⟨rs,hrs⟩:∃ rs,rs=(ydY l).map mkS:=⟨_,rfl⟩
 have hcr:CleanL rs:=y8Y yhY hrs
 rw [←hxs] at h38 h39 ⊢
 rw [←hrs] at h39
 refine y2Y ⟨rfl,by decide⟩ fun O hO V hV=>?_
 subst hV
 conv=>cbv
 refine ⟨hcx,_,h38,?_⟩
 conv=>cbv
 rintro (_|_) h1
 ·replace h1:=f_neq hO h1
  subst h1
  have hop:=hok rfl
  simp only [if_true] at hrr
  conv=>cbv
  rintro (_|_) h2
  ·replace h2:=f_eql hO h2
   rw [if_neg h2] at hrr
   conv=>cbv
   rintro (_|_) h3
   ·replace h3:=f_eql hO h3
    rw [if_neg h3] at hrr
    conv=>cbv
    rintro (_|_) h4
    ·replace h4:=f_eql hO h4
     rw [if_neg h4] at hrr
     conv=>cbv
     rintro (_|_) h5
     ·replace h5:=f_eql hO h5
      rw [if_neg h5] at hrr
      conv=>cbv
      rintro (_|_) h6
      ·replace h6:=f_eql hO h6
       rw [if_neg h6] at hrr
       obtain ⟨S,b,hS,hN⟩:=h40 least (n-1) (by unfold least;omega) (by unfold least most;omega) (by unfold most;omega) (by unfold least;omega)
       obtain ⟨T,hT⟩:=y66Y least (n-1)
       obtain ⟨rfl,rfl⟩:=hN.yes hT
       rw [hT] at hrr
       simp only [Option.getD_some] at hrr
       have hsub:O .iop .sub .i64 n 1=n-1:=y15Y hO (by omega) (by omega)
       have hcS:CleanL (S.l.map mkS):=y8Y yhY rfl
       obtain ⟨m',n',u',l',lo',hi'⟩:=S
       unfold setD at hS hrr
       simp only at hS hrr hcS
       obtain ⟨ys,hys⟩:∃ ys,ys=l'.map mkS:=⟨_,rfl⟩
       rw [←hys] at hS hrr hcS
       conv=>cbv
       rw [hsub]
       refine ⟨⟨rfl,rfl⟩,_,hS,?_⟩
       conv=>cbv
       refine ⟨hcS,?_⟩
       conv=>cbv
       rw [hrr]
      ·replace h6:=t_eql hO h6
       rw [if_pos h6] at hrr
       obtain ⟨S,b,hS,hN⟩:=h40 (n+1) most (by unfold least;omega) (by unfold most;omega) (by unfold most;omega) (by unfold least most;omega)
       obtain ⟨T,hT⟩:=y66Y (n+1) most
       obtain ⟨rfl,rfl⟩:=hN.yes hT
       rw [hT] at hrr
       simp only [Option.getD_some] at hrr
       have hadd:O .iop .add .i64 n 1=n+1:=y0Y hO (by omega) (by omega)
       have hcS:CleanL (S.l.map mkS):=y8Y yhY rfl
       obtain ⟨m',n',u',l',lo',hi'⟩:=S
       unfold setD at hS hrr
       simp only at hS hrr hcS
       obtain ⟨ys,hys⟩:∃ ys,ys=l'.map mkS:=⟨_,rfl⟩
       rw [←hys] at hS hrr hcS
       conv=>cbv
       rw [hadd]
       refine ⟨⟨rfl,rfl⟩,_,hS,?_⟩
       conv=>cbv
       refine ⟨hcS,?_⟩
       conv=>cbv
       rw [hrr]
     ·replace h5:=t_eql hO h5
      rw [if_pos h5] at hrr
      conv=>cbv
      rw [hrr]
      exact ⟨⟨rfl,rfl⟩,rfl⟩
    ·replace h4:=t_eql hO h4
     rw [if_pos h4] at hrr
     conv=>cbv
     rw [hrr]
     exact ⟨⟨rfl,rfl⟩,rfl⟩
   ·replace h3:=t_eql hO h3
    rw [if_pos h3] at hrr
    conv=>cbv
    refine ⟨hcx,_,h39,?_⟩
    conv=>cbv
    refine ⟨hcr,?_⟩
    conv=>cbv
    rw [hrr,setD,←hrs]
  ·replace h2:=t_eql hO h2
   rw [if_pos h2] at hrr
   conv=>cbv
   refine ⟨hcx,_,h39,?_⟩
   conv=>cbv
   refine ⟨hcr,?_⟩
   conv=>cbv
   rw [hrr,setD,←hrs]
 ·replace h1:=t_neq hO h1
  rw [if_neg h1] at hrr
  conv=>cbv
  rw [hrr]
  exact ⟨⟨rfl,rfl⟩,rfl⟩
theorem yl3Y (R:Ans) (q:ReqV) (hq:FR q) (h31:R.v 253 [reqD q] (jI (ysY q))) (h33:∀ L:List (List Str),L.length<=8796093022208->(∀ l∈L,l.length<=8796093022208)->R.v 255 [.sl 1 false (L.map lD)] (.mapv ((y1jY L).map ent)))
 (h32:∀ K:List Str,K.Nodup->(∀ s∈K,SL s)->K.length<=8796093022208->R.v 254 [.mapv (K.map ent)] (.sl 1 false ((ydY K).map mkS)))
 (h34:∀ lo hi:Int,least<=lo->lo<=most+1->hi<=most->least-1<=hi->∃ S b,R.v 256 [jI lo,jI hi,.mapv []] (.tup [setD S,.bool b])/\NumsR lo hi [] S b) :
 AnsF R c226 [reqD q] (.tup [setD (ofSet q),jI (ysY q)]):=by
 obtain ⟨e,he⟩:∃ e,e=ysY q:=⟨_,rfl⟩
 have hok:e=0->¬BadOp q:=fun h=>(yemY (by rw [←he,h])).2.1
 obtain ⟨r,hrr⟩:∃ r,r=D.tup [setD (ofSet q),jI (ysY q)]:=⟨_,rfl⟩
 rw [←hrr]
 unfold ofSet at hrr
 rw [←he] at hrr h31
 have hl1:=hq.l.len
 have hall:=hq.l.all
 clear he hq
 obtain ⟨key,op,l,n⟩:=q
 unfold BadOp at hok
 unfold ofS at hrr
 unfold reqD at h31 ⊢
 simp only at h31 hrr hok hl1 hall ⊢
 have hg:=h33 [l] (by simp) (by simpa using hl1)
 have hge:=h33 [] (by simp) (by simp)
 have hri:=h32 (y1jY [l]) (y9xY _) (fun s hs=>by rw [y9yY] at hs;exact hall s (by simpa using hs)) (by have:=yjrY [l];simp at this;omega)
 have hsame:ydY (y1jY [l])=ydY l:=y9zY fun z=>by rw [y9yY];simp
 rw [hsame] at hri
 simp only [List.map_cons,List.map_nil,lD] at hg hge
 rw [show y1jY []=[] from rfl,List.map_nil] at hge
 obtain ⟨es,hes⟩:∃ es,es=(y1jY [l]).map ent:=⟨_,rfl⟩
 have hce:CleanL es:=y8Y y7hY hes
 obtain ⟨xs,hxs⟩:∃ xs,xs=l.map mkS:=⟨_,rfl⟩
 have hcx:CleanL xs:=y8Y yhY hxs
 have hcy:CleanL [.sl 1 false xs]:=⟨by simp [closedL,closed,hcx.c],by simp [stripL,strip,hcx.s]⟩
 obtain ⟨rs,hrs⟩:∃ rs,rs=(ydY l).map mkS:=⟨_,rfl⟩
 have hcr:CleanL rs:=y8Y yhY hrs
 rw [←hxs] at h31 hg ⊢
 rw [←hes] at hg hri
 rw [←hrs] at hri
 clear h33 h32
 refine y2Y ⟨rfl,by decide⟩ fun O hO V hV=>?_
 subst hV
 conv=>cbv
 refine ⟨hcx,_,h31,?_⟩
 conv=>cbv
 rintro (_|_) h1
 ·replace h1:=f_neq hO h1
  subst h1
  have hop:=hok rfl
  simp only [if_true] at hrr
  conv=>cbv
  refine ⟨hcy,_,hg,?_⟩
  conv=>cbv
  refine ⟨hce,_,hri,?_⟩
  conv=>cbv
  refine y2dY (fun d=>∃ (S:SetV) (nl:Bool) (ys:List D),d=⟨[(2,.ptr 2 1 0),(5,.ptr 5 1 0)],[(2,⟨1,.rw,.var,[.bool false,.bool false,.bool false,.sl 1 true [],jI 0,jI 0]⟩),(5,⟨1,.rw,.var,[.bool S.m,.bool S.n,.bool S.u,.sl 1 nl ys,jI S.lo,jI S.hi]⟩)],false⟩/\ys=S.l.map mkS/\r=.tup [setD S,jI 0]) (fun M upm=>?_) ?_
  ·conv=>cbv
   rintro (_|_) h3
   ·replace h3:=f_eql hO h3
    conv=>cbv
    rintro (_|_) h4
    ·replace h4:=f_eql hO h4
     conv=>cbv
     rintro (_|_) h5
     ·replace h5:=f_eql hO h5
      conv=>cbv
      rintro (_|_) h6
      ·replace h6:=f_eql hO h6
       conv=>cbv
       rintro (_|_) h7
       ·replace h7:=f_eql hO h7
        have h2:op=1:=by omega
        rw [if_pos h2] at hrr
        conv=>cbv
        exact ⟨_,upm _ ⟨⟨false,false,false,ydY l,0,0⟩,_,rs,rfl,hrs,hrr⟩,⟨⟨rfl,rfl,trivial⟩,⟨rfl,rfl,trivial⟩,rfl⟩⟩
       ·replace h7:=t_eql hO h7
        rw [if_neg (by omega),if_neg h3,if_neg h4,if_neg h5,if_neg h6] at hrr
        obtain ⟨S,b,hS,hN⟩:=h34 least (n-1) (by unfold least;omega) (by unfold least most;omega) (by unfold most;omega) (by unfold least;omega)
        obtain ⟨T,hT⟩:=y66Y least (n-1)
        obtain ⟨rfl,rfl⟩:=hN.yes hT
        rw [hT] at hrr
        simp only [Option.getD_some] at hrr
        have hsub:O .iop .sub .i64 n 1=n-1:=y15Y hO (by omega) (by omega)
        obtain ⟨ys,hys⟩:∃ ys,ys=S.l.map mkS:=⟨_,rfl⟩
        unfold setD at hS
        rw [←hys] at hS
        obtain ⟨m',n',u',l',lo',hi'⟩:=S
        simp only at hS hys
        conv=>cbv
        refine ⟨⟨rfl,rfl⟩,_,hge,?_⟩
        conv=>cbv
        rw [hsub]
        refine ⟨⟨rfl,rfl⟩,_,hS,?_⟩
        conv=>cbv
        exact ⟨_,upm _ ⟨⟨m',n',u',l',lo',hi'⟩,_,ys,rfl,hys,hrr⟩,⟨⟨rfl,rfl,trivial⟩,⟨rfl,rfl,trivial⟩,rfl⟩⟩
      ·replace h6:=t_eql hO h6
       rw [if_neg (by omega),if_neg h3,if_neg h4,if_neg h5,if_pos h6] at hrr
       obtain ⟨S,b,hS,hN⟩:=h34 (n+1) most (by unfold least;omega) (by unfold most;omega) (by unfold most;omega) (by unfold least most;omega)
       obtain ⟨T,hT⟩:=y66Y (n+1) most
       obtain ⟨rfl,rfl⟩:=hN.yes hT
       rw [hT] at hrr
       simp only [Option.getD_some] at hrr
       have hadd:O .iop .add .i64 n 1=n+1:=y0Y hO (by omega) (by omega)
       obtain ⟨ys,hys⟩:∃ ys,ys=S.l.map mkS:=⟨_,rfl⟩
       unfold setD at hS
       rw [←hys] at hS
       obtain ⟨m',n',u',l',lo',hi'⟩:=S
       simp only at hS hys
       conv=>cbv
       refine ⟨⟨rfl,rfl⟩,_,hge,?_⟩
       conv=>cbv
       rw [hadd]
       refine ⟨⟨rfl,rfl⟩,_,hS,?_⟩
       conv=>cbv
       exact ⟨_,upm _ ⟨⟨m',n',u',l',lo',hi'⟩,_,ys,rfl,hys,hrr⟩,⟨⟨rfl,rfl,trivial⟩,⟨rfl,rfl,trivial⟩,rfl⟩⟩
     ·replace h5:=t_eql hO h5
      rw [if_neg (by omega),if_neg h3,if_neg h4,if_pos h5] at hrr
      have hl0:l=[]:=List.length_eq_zero_iff.1 (by omega)
      conv=>cbv
      exact ⟨_,upm _ ⟨⟨true,false,false,[],0,0⟩,_,rs,rfl,by rw [hrs,hl0];rfl,hrr⟩,⟨⟨rfl,rfl,trivial⟩,⟨rfl,rfl,trivial⟩,rfl⟩⟩
    ·replace h4:=t_eql hO h4
     rw [if_neg (by omega),if_neg h3,if_pos h4] at hrr
     have hl0:l=[]:=List.length_eq_zero_iff.1 (by omega)
     conv=>cbv
     exact ⟨_,upm _ ⟨⟨false,true,false,[],0,0⟩,_,rs,rfl,by rw [hrs,hl0];rfl,hrr⟩,⟨⟨rfl,rfl,trivial⟩,⟨rfl,rfl,trivial⟩,rfl⟩⟩
   ·replace h3:=t_eql hO h3
    rw [if_neg (by omega),if_pos h3] at hrr
    conv=>cbv
    exact ⟨_,upm _ ⟨⟨true,true,false,ydY l,0,0⟩,_,rs,rfl,hrs,hrr⟩,⟨⟨rfl,rfl,trivial⟩,⟨rfl,rfl,trivial⟩,rfl⟩⟩
  ·rintro d ⟨S,nl,ys,rfl,hys,hr2⟩
   have hcS:CleanL ys:=y8Y yhY hys
   obtain ⟨m',n',u',l',lo',hi'⟩:=S
   simp only at hys
   conv=>cbv
   refine ⟨hcS,?_⟩
   conv=>cbv
   rw [hr2,setD,←hys]
 ·replace h1:=t_neq hO h1
  rw [if_neg h1] at hrr
  conv=>cbv
  rw [hrr]
  exact ⟨⟨rfl,rfl⟩,rfl⟩
end Go.Proofs.AM
namespace Go.Proofs.AM
open Go Go.Lib
end Go.Proofs.AM
namespace Go.Proofs.AM
open Go Go.Lib Cd
abbrev PR3:Ans:=PR Tryz.prog (Gd Tryz.prog)
theorem pr3 {sh:List Nat} {f:Nat} {fn:Go.Func} {af:Func} (he:y1Y Tryz.prog f) (hf:Tryz.prog.funcs[f]?=some fn) (hT:funcT Tryz.prog sh fn=some af.erase) {args:List D} {r:D} (h:AnsF PR3 af args r):PR3.v f args r :=
 PR_of (Gd.grows _) yegY he hf hT h
theorem k18 (s:Str) (hs:SL s):PR3.v 184 [mkS s] (.bool (nameB s)):=pr3 E184 Tryz.func184 T184 (ykcY _ s hs)
theorem k16 (s:Str) (hs:SL s):PR3.v 65 [mkS s] (.bool (nameB s)):=pr3 E65 Tryz.func65 T65 (ykdY _ s hs)
theorem k37 (n:Int) (hn:FI n):PR3.v 212 [jI n] (mkS (itoa n)):=pr3 E212 Tryz.func212 T212 (yjwY _ n hn)
theorem k15 (s:Str) (hs:SL s) (v:Int) (b:Bool) (h:NumR s v b):PR3.v 173 [mkS s] (.tup [jI v,.bool b]):=pr3 E173 Tryz.func173 T173 (yjzY _ k37 s hs v b h)
theorem k13 (s:Str) (hs:SL s) (v:Int) (b:Bool) (h:NumR s v b):PR3.v 227 [mkS s] (.tup [jI v,.bool b]):=pr3 E227 Tryz.func227 T227 (yk0Y _ yk4Y fmt36 s hs v b h)
theorem k17 (s:Str) (hs:SL s):PR3.v 118 [mkS s] (.bool (yiY s)):=pr3 E118 Tryz.func118 T118 (yk1Y _ k16 k15 s hs)
theorem k19 (s:Str) (hs:SL s):PR3.v 187 [mkS s] (.bool (yiY s)):=pr3 E187 Tryz.func187 T187 (yk2Y _ k18 k13 s hs)
theorem k45 (l:List Str) (x:Str) (hl:l.length<4611686018427387904):PR3.v 240 [.sl 1 false (l.map mkS),mkS x] (.bool (decide (x∈l))):=pr3 E240 Tryz.func240 T240 (ykeY _ l hl x)
theorem k69 (l:List Str) (hl:l.length<4611686018427387904) (x:Str):∃ n:Int,PR3.v 106 [.sl 1 false (l.map mkS),mkS x] (jI n)/\(x∈l->0<=n)/\(x∉l->n=-1):=by
 obtain ⟨n,h1,h2⟩:=ykfY PR3 l hl x
 exact ⟨n,pr3 E106 Tryz.func106 T106 h1,h2⟩
theorem k55 (l:List Str) (hl:l.length<4611686018427387904) (x:Str):PR3.v 52 [.sl 1 false (l.map mkS),mkS x] (.bool (decide (x∈l))):=pr3 E52 Tryz.func52 T52 (ykgY _ l x (k69 l hl x))
theorem k54 (l:List Str) (x:Str) (hl:l.length<8796093022208):PR3.v 247 [.sl 1 false (l.map mkS),mkS x] (.sl 1 false ((putS x l).map mkS)):=pr3 E247 Tryz.func247 T247 (ykhY _ l hl x)
theorem k39 (l:List Str) (hl:l.length<=8796093022208):PR3.v 210 [.sl 1 false (l.map mkS)] (.sl 1 false ((ydY l).map mkS)):=pr3 E210 Tryz.func210 T210 (ykjY _ k54 l hl)
theorem k33 (L:List (List Str)) (hL:L.length<=8796093022208) (hl:∀ l∈L,l.length<=8796093022208):PR3.v 255 [.sl 1 false (L.map lD)] (.mapv ((y1jY L).map ent)):=pr3 E255 Tryz.func255 T255 (ykmY _ L hL hl)
theorem k34 (lo hi:Int) (h1:least<=lo) (h2:lo<=most+1) (h3:hi<=most) (h4:least-1<=hi):∃ S b,PR3.v 256 [jI lo,jI hi,.mapv []] (.tup [setD S,.bool b])/\NumsR lo hi [] S b:=by
 obtain ⟨S,hS⟩:=y66Y lo hi
 exact ⟨S,true,pr3 E256 Tryz.func256 T256 (ykwY _ k13 fmt36 yefY lo hi h1 h2 h3 h4 [] rfl (by simp) S true (.inl ⟨rfl,hS⟩)),.inl ⟨rfl,hS⟩⟩
theorem k40 (lo hi:Int) (K:List Str) (h1:least<=lo) (h2:lo<=most+1) (h3:hi<=most) (h4:least-1<=hi) (hK:FL K):∃ S b,PR3.v 211 [jI lo,jI hi,.sl 1 false (K.map mkS)] (.tup [setD S,.bool b])/\NumsR lo hi K S b:=by
 obtain ⟨S,b,h,h',_⟩:=ykxY PR3 k15 k37 k45 k54 lo hi h1 h2 h3 h4 K hK
 exact ⟨S,b,pr3 E211 Tryz.func211 T211 h,h'⟩
theorem k38 (q:ReqV) (hq:FR q):PR3.v 209 [reqD q] (jI (ysY q)):=pr3 E209 Tryz.func209 T209 (ykzY _ q hq k16 k17 k45)
theorem k48 (s:Str) (hs:SL s):PR3.v 265 [mkS s] (.bool (!yiY s)):=pr3 E265 Tryz.func265 T265 (yl0Y _ s (k19 s hs))
theorem k56 (l:List Str) (hl:FL l):∃ n:Int,PR3.v 225 [.sl 1 false (l.map mkS),.fn 265 [] []] (jI n)/\((∃ y∈l,(!yiY y)=true)->0<=n)/\((∀ y∈l,(!yiY y)=false)->n=-1):=by
 obtain ⟨n,h1,h2⟩:=yeqY PR3 265 (fun y=>!yiY y) l hl.len fun y hy=>k48 y (hl.all y hy)
 exact ⟨n,pr3 E225 Tryz.func225 T225 h1,h2⟩
theorem k47 (l:List Str) (hl:FL l) (b:Bool) (hb:b=true↔∃ y∈l,(!yiY y)=true):PR3.v 182 [.sl 1 false (l.map mkS),.fn 265 [] []] (.bool b):=pr3 E182 Tryz.func182 T182 (yerY PR3 265 (fun y=>!yiY y) l b hb (k56 l hl))
theorem k31 (q:ReqV) (hq:FR q):PR3.v 253 [reqD q] (jI (ysY q)):=pr3 E253 Tryz.func253 T253 (yl1Y _ q hq k18 (fun b hb=>k47 _ hq.l b hb) (k33 [q.l] (by simp) (by simpa using hq.l.len)))
theorem k20 (q:ReqV) (hq:FR q):PR3.v 172 [reqD q] (.tup [setD (ofSet q),jI (ysY q)]):=pr3 E172 Tryz.func172 T172 (yl2Y _ q hq (k38 q hq) (k39 _ hq.l.len) fun lo hi h1 h2 h3 h4=>k40 lo hi [] h1 h2 h3 h4 ⟨by simp,by simp⟩)
theorem k12 (q:ReqV) (hq:FR q):PR3.v 226 [reqD q] (.tup [setD (ofSet q),jI (ysY q)]):=pr3 E226 Tryz.func226 T226 (yl3Y _ q hq (k31 q hq) k33 yefY k34)
end Go.Proofs.AM
namespace Go.Proofs.AM
open Go Go.Lib
def CmpI:BinOp->Bool->Int->Int->Prop
 | .eql,true,a,b=>a=b
 | .eql,false,a,b=>a≠b
 | .neq,true,a,b=>a≠b
 | .neq,false,a,b=>a=b
 | .lss,true,a,b=>a<b
 | .lss,false,a,b=>b<=a
 | .leq,true,a,b=>a<=b
 | .leq,false,a,b=>b<a
 | .gtr,true,a,b=>b<a
 | .gtr,false,a,b=>a<=b
 | .geq,true,a,b=>b<=a
 | .geq,false,a,b=>a<b
 | _,_,_,_=>True
theorem ci {O:Ops} (hO:O=Ops.std) {op:BinOp} {t:Bool} {a b:Int} (h:t=O .icmp op a b):CmpI op t a b:=by
 cases op<;>cases t<;>first|trivial|exact f_eql hO h|exact t_eql hO h|exact f_neq hO h|exact t_neq hO h|exact f_lss hO h|exact t_lss hO h|exact f_leq hO h|exact t_leq hO h|exact f_gtr hO h|exact t_gtr hO h|exact f_geq hO h|exact t_geq hO h
def CmpS:BinOp->Bool->Str->Str->Prop
 | .eql,true,a,b=>a=b
 | .eql,false,a,b=>a≠b
 | .neq,true,a,b=>a≠b
 | .neq,false,a,b=>a=b
 | .lss,true,a,b=>a<b
 | .lss,false,a,b=>¬a<b
 | .geq,true,a,b=>¬a<b
 | .geq,false,a,b=>a<b
 | _,_,_,_=>True
theorem cs {O:Ops} (hO:O=Ops.std) {op:BinOp} {t:Bool} {a b:Str} (h:t=O .scmp op ⟨⟨a⟩⟩ ⟨⟨b⟩⟩):CmpS op t a b:=by
 cases op<;>cases t<;>first|trivial|exact y3iY hO h|exact y3hY hO h|exact y51Y hO h|exact y50Y hO h|exact y77Y hO h|exact y76Y hO h|exact yjjY hO h|exact yjiY hO h
def y3Y:List Int->Int
 | []=>0
 | x::r=>if x=0 then y3Y r else x
def wantI (b:Bool) (e:Int):Int:=if b then 0 else e
@[simp] theorem y1dY (e:Int):wantI true e=0:=rfl
@[simp] theorem y4dY (e:Int):wantI false e=e:=rfl
@[simp] theorem y59Y:y3Y []=0:=rfl
theorem ycY (x:Int) (r:List Int):y3Y (x::r)=if x=0 then y3Y r else x:=rfl
theorem y5aY {l:List Int} (h:∀ x∈l,x=0):y3Y l=0:=by
 induction l with
 | nil=>rfl
 | cons x r ih=>rw [ycY,if_pos (h x (by simp)),ih fun y hy=>h y (by simp [hy])]
theorem y7jY {l:List Int} {k:Nat} {x:Int} (h:l[k]?=some x) (hx:x≠0) (h0:∀ j y,j<k->l[j]?=some y->y=0):y3Y l=x:=by
 induction l generalizing k with
 | nil=>simp at h
 | cons y r ih =>
   rw [ycY]
   cases k with
   | zero=>simp at h;subst h;rw [if_neg hx]
   | succ k =>
     rw [if_pos (h0 0 y (by omega) rfl)]
     exact ih (by simpa using h) fun j z hj hz=>h0 (j+1) z (by omega) (by simpa using hz)
theorem y21Y {l:List Int} (h:y3Y l=0):∀ x∈l,x=0:=by
 induction l with
 | nil=>simp
 | cons y r ih =>
   rw [ycY] at h
   split at h
   ·intro x hx
    rcases List.mem_cons.1 hx with rfl|hx
    ·assumption
    ·exact ih h x hx
   ·exact absurd h ‹_›
def scanE (g:Nat->Int) (n:Nat):Int:=y3Y ((List.range n).map g)
theorem yfY {g:Nat->Int} {n k:Nat} {x:Int} (hk:k<n) (h0:∀ j,j<k->g j=0) (hx:x=g k) (h:x≠0):scanE g n=x:=by
 subst hx
 exact y7jY (k:=k) (by simp [hk]) h fun j y hj hy=>by
  rw [List.getElem?_map,List.getElem?_range (by omega)] at hy
  simp only [Option.map_some,Option.some.injEq] at hy
  rw [←hy,h0 j hj]
theorem ywY {g:Nat->Int} {n:Nat} (h0:∀ j,j<n->g j=0):scanE g n=0 :=
 y5aY fun x hx=>by
  obtain ⟨j,hj,rfl⟩:=List.mem_map.1 hx
  exact h0 j (by simpa using hj)
theorem yjY {g:Nat->Int} {k:Nat} (h:∀ j,j<k->g j=0) (h2:g k=0):∀ j,j<k+1->g j=0:=fun j hj=>by
 rcases Nat.lt_succ_iff_lt_or_eq.1 hj with h1|rfl
 ·exact h j h1
 ·exact h2
def atE {α:Type} (f:α->Int) (l:List α) (i:Nat):Int:=match l[i]? with|some x=>f x|none=>0
theorem y2pY {α:Type} {f:α->Int} {l:List α} {i:Nat} {x:α} (h:l[i]?=some x):atE f l i=f x:=by unfold atE;rw [h]
structure LabV where
 k:Str
 v:Str
 deriving DecidableEq
structure TolV where
 k:Str
 v:Str
 y:Bool
 deriving DecidableEq
structure SprV where
 k:Str
 a:Str
 n:Int
 deriving DecidableEq
structure OffV where
 t:Str
 z:Str
 k:Str
 deriving DecidableEq
structure CoolV where
 o:OffV
 u:Int
 deriving DecidableEq
structure PodV where
 name:Str
 app:Str
 n0:Int
 n1:Int
 prio:Int
 reqs:List ReqV
 tols:List TolV
 spr:List SprV
 near:List LabV
 apart:List LabV
 since:Int
 on:Str
structure PoolV where
 name:Str
 weight:Int
 l0:Int
 l1:Int
 reqs:List ReqV
 taints:List LabV
 gen:Int
 expire:Int
 budget:Int
 merge:Int
structure ClaimV where
 name:Str
 pool:Str
 gen:Int
 off:OffV
 price:Int
 c0:Int
 c1:Int
 opts:List OffV
 tries:Int
 id:Str
 phase:Int
 born:Int
 marked:Bool
structure CmdV where
 cause:Int
 nodes:List Str
 stp:Int
 til:Int
 fresh:Str
 pool:Str
 opts:List OffV
 made:Bool
structure AnyV where
 kind:Int
 pod:PodV
 pool:PoolV
 claim:ClaimV
 cmd:CmdV
 cool:CoolV
structure FLs {α:Type} (F:α->Prop) (l:List α):Prop where
 len:l.length<=8796093022208
 all:∀ x∈l,F x
theorem FLs.lt {α:Type} {F:α->Prop} {l:List α} (h:FLs F l):l.length<4611686018427387904:=by have:=h.len;omega
structure FLab (x:LabV):Prop where
 k:SL x.k
 v:SL x.v
structure FTol (x:TolV):Prop where
 k:SL x.k
 v:SL x.v
structure FSpr (x:SprV):Prop where
 k:SL x.k
 a:SL x.a
 n:FI x.n
structure FO (x:OffV):Prop where
 t:SL x.t
 z:SL x.z
 k:SL x.k
structure FCool (x:CoolV):Prop where
 o:FO x.o
 u:FI x.u
structure FPod (p:PodV):Prop where
 name:SL p.name
 app:SL p.app
 n0:FI p.n0
 n1:FI p.n1
 prio:FI p.prio
 reqs:FLs FR p.reqs
 tols:FLs FTol p.tols
 spr:FLs FSpr p.spr
 near:FLs FLab p.near
 apart:FLs FLab p.apart
 since:FI p.since
 on:SL p.on
structure FPool (p:PoolV):Prop where
 name:SL p.name
 weight:FI p.weight
 l0:FI p.l0
 l1:FI p.l1
 reqs:FLs FR p.reqs
 taints:FLs FLab p.taints
 gen:FI p.gen
 expire:FI p.expire
 budget:FI p.budget
 merge:FI p.merge
structure FClaim (c:ClaimV):Prop where
 name:SL c.name
 pool:SL c.pool
 gen:FI c.gen
 off:FO c.off
 price:FI c.price
 c0:FI c.c0
 c1:FI c.c1
 opts:FLs FO c.opts
 tries:FI c.tries
 id:SL c.id
 phase:FI c.phase
 born:FI c.born
structure FCmd (c:CmdV):Prop where
 cause:FI c.cause
 nodes:FL c.nodes
 stp:FI c.stp
 til:FI c.til
 fresh:SL c.fresh
 pool:SL c.pool
 opts:FLs FO c.opts
structure FAny (x:AnyV):Prop where
 kind:FI x.kind
 pod:FPod x.pod
 pool:FPool x.pool
 claim:FClaim x.claim
 cmd:FCmd x.cmd
 cool:FCool x.cool
def labD (x:LabV):D:=.agg [mkS x.k,mkS x.v]
def tolD (x:TolV):D:=.agg [mkS x.k,mkS x.v,.bool x.y]
def sprD (x:SprV):D:=.agg [mkS x.k,mkS x.a,jI x.n]
def offD (x:OffV):D:=.agg [mkS x.t,mkS x.z,mkS x.k]
def coolC (x:CoolV):List D:=[mkS x.o.t,mkS x.o.z,mkS x.o.k,jI x.u]
def podC (p:PodV):List D:=[mkS p.name,mkS p.app,jI p.n0,jI p.n1,jI p.prio,.sl 4 false (p.reqs.map reqD),.sl 3 false (p.tols.map tolD),.sl 3 false (p.spr.map sprD),.sl 2 false (p.near.map labD),.sl 2 false (p.apart.map labD),jI p.since,mkS p.on]
def poolC (p:PoolV):List D:=[mkS p.name,jI p.weight,jI p.l0,jI p.l1,.sl 4 false (p.reqs.map reqD),.sl 2 false (p.taints.map labD),jI p.gen,jI p.expire,jI p.budget,jI p.merge]
def y12Y (c:ClaimV):List D:=[mkS c.name,mkS c.pool,jI c.gen,mkS c.off.t,mkS c.off.z,mkS c.off.k,jI c.price,jI c.c0,jI c.c1,.sl 3 false (c.opts.map offD),jI c.tries,mkS c.id,jI c.phase,jI c.born,.bool c.marked]
def cmdC (c:CmdV):List D:=[jI c.cause,.sl 1 false (c.nodes.map mkS),jI c.stp,jI c.til,mkS c.fresh,mkS c.pool,.sl 3 false (c.opts.map offD),.bool c.made]
def coolD (x:CoolV):D:=.agg (coolC x)
def podD (p:PodV):D:=.agg (podC p)
def poolD (p:PoolV):D:=.agg (poolC p)
def y5Y (c:ClaimV):D:=.agg (y12Y c)
def cmdD (c:CmdV):D:=.agg (cmdC c)
def amtE (n:Int):Int:=if n<0 then 11 else if 1125899906842624<n then 10 else 0
def amtsE (a b:Int):Int:=if amtE a=0 then amtE b else amtE a
noncomputable def nmB (o:OffV):Bool:=nameB o.t&&(nameB o.z&&nameB o.k)
def btw (n lo hi:Int):Bool:=decide (lo<=n)&&decide (n<=hi)
noncomputable def noneB (s:Str):Bool:=decide (s=[])||nameB s
theorem yesY {n:Nat} (h:n<=reachBytes):n<=140737488355328:=by
 have:reachBytes=140737488351232:=by decide
 omega
theorem yuY {d:D} (h:FitL .str d):∃ s,d=mkS s/\SL s:=by
 simp only [FitL] at h
 obtain ⟨s,rfl,hs⟩:=h
 exact ⟨s,rfl,yesY hs⟩
theorem yoY {d:D} (h:FitL (.int .i64) d):∃ n,d=jI n/\FI n:=by
 simp only [FitL] at h
 obtain ⟨n,rfl,hw⟩:=h
 have e1:IntKind.i64.min=-9223372036854775808:=rfl
 have e2:IntKind.i64.max=9223372036854775807:=rfl
 simp [Lit.wf,e1,e2] at hw
 exact ⟨n,rfl,by unfold FI;omega⟩
theorem y7kY {d:D} (h:FitL .bool d):∃ b,d=.bool b:=by
 simpa only [FitL] using h
theorem y3lY {α:Type} (F:α->Prop) (f:α->D) {sz bytes:Nat} {ag:Bool} {ls:List Lf} (hb:16<=bytes) (he:∀ x cs,mkD ag cs=some x->FitLs ls cs->∃ a,x=f a/\F a) {d:D} (h:FitL (.sl sz bytes ag ls) d) :
 ∃ l:List α,d=.sl sz false (l.map f)/\FLs F l:=by
 simp only [FitL] at h
 obtain ⟨xs,rfl,hlen,hx⟩:=h
 have:∀ xs:List D,(∀ x∈xs,∃ cs,mkD ag cs=some x/\FitLs ls cs)->∃ l:List α,xs=l.map f/\∀ s∈l,F s:=by
  intro xs
  induction xs with
  | nil=>exact fun _=>⟨[],rfl,by simp⟩
  | cons x xs ih =>
    intro h
    obtain ⟨l,rfl,hl⟩:=ih fun y hy=>h y (by simp [hy])
    obtain ⟨cs,h1,h2⟩:=h x (by simp)
    obtain ⟨a,rfl,ha⟩:=he x cs h1 h2
    exact ⟨a::l,rfl,fun y hy=>by
     rcases List.mem_cons.1 hy with rfl|hy
     ·exact ha
     ·exact hl y hy⟩
 obtain ⟨l,rfl,hl⟩:=this xs hx
 refine ⟨l,rfl,⟨?_,hl⟩⟩
 have h1:=yesY hlen
 simp only [List.length_map] at h1
 have h2:l.length*16<=l.length*bytes:=Nat.mul_le_mul_left _ hb
 omega
theorem y6Y {l:Lf} {r:List Lf} {ds:List D} (h:FitLs (l::r) ds):∃ d r',ds=d::r'/\FitL l d/\FitLs r r':=by
 simpa only [FitLs] using h
theorem y1tY {ds:List D} (h:FitLs [] ds):ds=[]:=by simpa only [FitLs] using h
theorem ya5Y {d:D} (h:FitL (.sl 1 16 false [.str]) d):∃ l,d=.sl 1 false (l.map mkS)/\FL l:=by
 obtain ⟨l,h1,h2⟩:=y3lY SL mkS (by omega) (fun x cs hm hc=>by
  obtain ⟨d,_,rfl,h1,h2⟩:=y6Y hc
  obtain rfl:=y1tY h2
  obtain ⟨s,rfl,hs⟩:=yuY h1
  simp only [mkD,Option.some.injEq] at hm
  exact ⟨s,hm.symm,hs⟩) h
 exact ⟨l,h1,⟨h2.len,h2.all⟩⟩
abbrev reqLs:List Lf:=[.str,.int .i64,.sl 1 16 false [.str],.int .i64]
theorem yetY {d:D} (h:FitL (.sl 4 56 true reqLs) d):∃ l,d=.sl 4 false (l.map reqD)/\FLs FR l :=
 y3lY FR reqD (by omega) (fun x cs hm hc=>by
  obtain ⟨_,_,rfl,a,hc⟩:=y6Y hc
  obtain ⟨_,_,rfl,b,hc⟩:=y6Y hc
  obtain ⟨_,_,rfl,c,hc⟩:=y6Y hc
  obtain ⟨_,_,rfl,e,hc⟩:=y6Y hc
  obtain rfl:=y1tY hc
  obtain ⟨k,rfl,hk⟩:=yuY a
  obtain ⟨o,rfl,ho⟩:=yoY b
  obtain ⟨l,rfl,hl⟩:=ya5Y c
  obtain ⟨n,rfl,hn⟩:=yoY e
  simp only [mkD,Option.some.injEq] at hm
  exact ⟨⟨k,o,l,n⟩,hm.symm,hk,hl,ho,hn⟩) h
theorem yl4Y {d:D} (h:FitL (.sl 3 40 true [.str,.str,.bool]) d):∃ l,d=.sl 3 false (l.map tolD)/\FLs FTol l :=
 y3lY FTol tolD (by omega) (fun x cs hm hc=>by
  obtain ⟨_,_,rfl,a,hc⟩:=y6Y hc
  obtain ⟨_,_,rfl,b,hc⟩:=y6Y hc
  obtain ⟨_,_,rfl,c,hc⟩:=y6Y hc
  obtain rfl:=y1tY hc
  obtain ⟨k,rfl,hk⟩:=yuY a
  obtain ⟨v,rfl,hv⟩:=yuY b
  obtain ⟨y,rfl⟩:=y7kY c
  simp only [mkD,Option.some.injEq] at hm
  exact ⟨⟨k,v,y⟩,hm.symm,hk,hv⟩) h
theorem yl5Y {d:D} (h:FitL (.sl 3 40 true [.str,.str,.int .i64]) d):∃ l,d=.sl 3 false (l.map sprD)/\FLs FSpr l :=
 y3lY FSpr sprD (by omega) (fun x cs hm hc=>by
  obtain ⟨_,_,rfl,a,hc⟩:=y6Y hc
  obtain ⟨_,_,rfl,b,hc⟩:=y6Y hc
  obtain ⟨_,_,rfl,c,hc⟩:=y6Y hc
  obtain rfl:=y1tY hc
  obtain ⟨k,rfl,hk⟩:=yuY a
  obtain ⟨v,rfl,hv⟩:=yuY b
  obtain ⟨n,rfl,hn⟩:=yoY c
  simp only [mkD,Option.some.injEq] at hm
  exact ⟨⟨k,v,n⟩,hm.symm,hk,hv,hn⟩) h
theorem y7lY {d:D} (h:FitL (.sl 2 32 true [.str,.str]) d):∃ l,d=.sl 2 false (l.map labD)/\FLs FLab l :=
 y3lY FLab labD (by omega) (fun x cs hm hc=>by
  obtain ⟨_,_,rfl,a,hc⟩:=y6Y hc
  obtain ⟨_,_,rfl,b,hc⟩:=y6Y hc
  obtain rfl:=y1tY hc
  obtain ⟨k,rfl,hk⟩:=yuY a
  obtain ⟨v,rfl,hv⟩:=yuY b
  simp only [mkD,Option.some.injEq] at hm
  exact ⟨⟨k,v⟩,hm.symm,hk,hv⟩) h
theorem yeuY {d:D} (h:FitL (.sl 3 48 true [.str,.str,.str]) d):∃ l,d=.sl 3 false (l.map offD)/\FLs FO l :=
 y3lY FO offD (by omega) (fun x cs hm hc=>by
  obtain ⟨_,_,rfl,a,hc⟩:=y6Y hc
  obtain ⟨_,_,rfl,b,hc⟩:=y6Y hc
  obtain ⟨_,_,rfl,c,hc⟩:=y6Y hc
  obtain rfl:=y1tY hc
  obtain ⟨k,rfl,hk⟩:=yuY a
  obtain ⟨v,rfl,hv⟩:=yuY b
  obtain ⟨n,rfl,hn⟩:=yuY c
  simp only [mkD,Option.some.injEq] at hm
  exact ⟨⟨k,v,n⟩,hm.symm,hk,hv,hn⟩) h
abbrev podLs:List Lf:=[.str,.str,.int .i64,.int .i64,.int .i64,.sl 4 56 true reqLs,.sl 3 40 true [.str,.str,.bool],.sl 3 40 true [.str,.str,.int .i64],.sl 2 32 true [.str,.str],.sl 2 32 true [.str,.str],.int .i64,.str]
abbrev poolLs:List Lf:=[.str,.int .i64,.int .i64,.int .i64,.sl 4 56 true reqLs,.sl 2 32 true [.str,.str],.int .i64,.int .i64,.int .i64,.int .i64]
abbrev claimLs:List Lf:=[.str,.str,.int .i64,.str,.str,.str,.int .i64,.int .i64,.int .i64,.sl 3 48 true [.str,.str,.str],.int .i64,.str,.int .i64,.int .i64,.bool]
abbrev cmdLs:List Lf:=[.int .i64,.sl 1 16 false [.str],.int .i64,.int .i64,.str,.str,.sl 3 48 true [.str,.str,.str],.bool]
abbrev coolLs:List Lf:=[.str,.str,.str,.int .i64]
theorem yevY {cs:List D} (h:FitLs podLs cs):∃ p,cs=podC p/\FPod p:=by
 obtain ⟨_,_,rfl,a1,h⟩:=y6Y h
 obtain ⟨_,_,rfl,a2,h⟩:=y6Y h
 obtain ⟨_,_,rfl,a3,h⟩:=y6Y h
 obtain ⟨_,_,rfl,a4,h⟩:=y6Y h
 obtain ⟨_,_,rfl,a5,h⟩:=y6Y h
 obtain ⟨_,_,rfl,a6,h⟩:=y6Y h
 obtain ⟨_,_,rfl,a7,h⟩:=y6Y h
 obtain ⟨_,_,rfl,a8,h⟩:=y6Y h
 obtain ⟨_,_,rfl,a9,h⟩:=y6Y h
 obtain ⟨_,_,rfl,a10,h⟩:=y6Y h
 obtain ⟨_,_,rfl,a11,h⟩:=y6Y h
 obtain ⟨_,_,rfl,a12,h⟩:=y6Y h
 obtain rfl:=y1tY h
 obtain ⟨b1,rfl,c1⟩:=yuY a1
 obtain ⟨b2,rfl,c2⟩:=yuY a2
 obtain ⟨b3,rfl,c3⟩:=yoY a3
 obtain ⟨b4,rfl,c4⟩:=yoY a4
 obtain ⟨b5,rfl,c5⟩:=yoY a5
 obtain ⟨b6,rfl,c6⟩:=yetY a6
 obtain ⟨b7,rfl,c7⟩:=yl4Y a7
 obtain ⟨b8,rfl,c8⟩:=yl5Y a8
 obtain ⟨b9,rfl,c9⟩:=y7lY a9
 obtain ⟨b10,rfl,c10⟩:=y7lY a10
 obtain ⟨b11,rfl,c11⟩:=yoY a11
 obtain ⟨b12,rfl,c12⟩:=yuY a12
 exact ⟨⟨b1,b2,b3,b4,b5,b6,b7,b8,b9,b10,b11,b12⟩,rfl,c1,c2,c3,c4,c5,c6,c7,c8,c9,c10,c11,c12⟩
theorem yl6Y {cs:List D} (h:FitLs poolLs cs):∃ p,cs=poolC p/\FPool p:=by
 obtain ⟨_,_,rfl,a1,h⟩:=y6Y h
 obtain ⟨_,_,rfl,a2,h⟩:=y6Y h
 obtain ⟨_,_,rfl,a3,h⟩:=y6Y h
 obtain ⟨_,_,rfl,a4,h⟩:=y6Y h
 obtain ⟨_,_,rfl,a5,h⟩:=y6Y h
 obtain ⟨_,_,rfl,a6,h⟩:=y6Y h
 obtain ⟨_,_,rfl,a7,h⟩:=y6Y h
 obtain ⟨_,_,rfl,a8,h⟩:=y6Y h
 obtain ⟨_,_,rfl,a9,h⟩:=y6Y h
 obtain ⟨_,_,rfl,a10,h⟩:=y6Y h
 obtain rfl:=y1tY h
 obtain ⟨b1,rfl,c1⟩:=yuY a1
 obtain ⟨b2,rfl,c2⟩:=yoY a2
 obtain ⟨b3,rfl,c3⟩:=yoY a3
 obtain ⟨b4,rfl,c4⟩:=yoY a4
 obtain ⟨b5,rfl,c5⟩:=yetY a5
 obtain ⟨b6,rfl,c6⟩:=y7lY a6
 obtain ⟨b7,rfl,c7⟩:=yoY a7
 obtain ⟨b8,rfl,c8⟩:=yoY a8
 obtain ⟨b9,rfl,c9⟩:=yoY a9
 obtain ⟨b10,rfl,c10⟩:=yoY a10
 exact ⟨⟨b1,b2,b3,b4,b5,b6,b7,b8,b9,b10⟩,rfl,c1,c2,c3,c4,c5,c6,c7,c8,c9,c10⟩
theorem yl7Y {cs:List D} (h:FitLs claimLs cs):∃ c,cs=y12Y c/\FClaim c:=by
 obtain ⟨_,_,rfl,a1,h⟩:=y6Y h
 obtain ⟨_,_,rfl,a2,h⟩:=y6Y h
 obtain ⟨_,_,rfl,a3,h⟩:=y6Y h
 obtain ⟨_,_,rfl,a4,h⟩:=y6Y h
 obtain ⟨_,_,rfl,a5,h⟩:=y6Y h
 obtain ⟨_,_,rfl,a6,h⟩:=y6Y h
 obtain ⟨_,_,rfl,a7,h⟩:=y6Y h
 obtain ⟨_,_,rfl,a8,h⟩:=y6Y h
 obtain ⟨_,_,rfl,a9,h⟩:=y6Y h
 obtain ⟨_,_,rfl,a10,h⟩:=y6Y h
 obtain ⟨_,_,rfl,a11,h⟩:=y6Y h
 obtain ⟨_,_,rfl,a12,h⟩:=y6Y h
 obtain ⟨_,_,rfl,a13,h⟩:=y6Y h
 obtain ⟨_,_,rfl,a14,h⟩:=y6Y h
 obtain ⟨_,_,rfl,a15,h⟩:=y6Y h
 obtain rfl:=y1tY h
 obtain ⟨b1,rfl,c1⟩:=yuY a1
 obtain ⟨b2,rfl,c2⟩:=yuY a2
 obtain ⟨b3,rfl,c3⟩:=yoY a3
 obtain ⟨b4,rfl,c4⟩:=yuY a4
 obtain ⟨b5,rfl,c5⟩:=yuY a5
 obtain ⟨b6,rfl,c6⟩:=yuY a6
 obtain ⟨b7,rfl,c7⟩:=yoY a7
 obtain ⟨b8,rfl,c8⟩:=yoY a8
 obtain ⟨b9,rfl,c9⟩:=yoY a9
 obtain ⟨b10,rfl,c10⟩:=yeuY a10
 obtain ⟨b11,rfl,c11⟩:=yoY a11
 obtain ⟨b12,rfl,c12⟩:=yuY a12
 obtain ⟨b13,rfl,c13⟩:=yoY a13
 obtain ⟨b14,rfl,c14⟩:=yoY a14
 obtain ⟨b15,rfl⟩:=y7kY a15
 exact ⟨⟨b1,b2,b3,⟨b4,b5,b6⟩,b7,b8,b9,b10,b11,b12,b13,b14,b15⟩,rfl,c1,c2,c3,⟨c4,c5,c6⟩,c7,c8,c9,c10,c11,c12,c13,c14⟩
theorem yl8Y {cs:List D} (h:FitLs cmdLs cs):∃ c,cs=cmdC c/\FCmd c:=by
 obtain ⟨_,_,rfl,a1,h⟩:=y6Y h
 obtain ⟨_,_,rfl,a2,h⟩:=y6Y h
 obtain ⟨_,_,rfl,a3,h⟩:=y6Y h
 obtain ⟨_,_,rfl,a4,h⟩:=y6Y h
 obtain ⟨_,_,rfl,a5,h⟩:=y6Y h
 obtain ⟨_,_,rfl,a6,h⟩:=y6Y h
 obtain ⟨_,_,rfl,a7,h⟩:=y6Y h
 obtain ⟨_,_,rfl,a8,h⟩:=y6Y h
 obtain rfl:=y1tY h
 obtain ⟨b1,rfl,c1⟩:=yoY a1
 obtain ⟨b2,rfl,c2⟩:=ya5Y a2
 obtain ⟨b3,rfl,c3⟩:=yoY a3
 obtain ⟨b4,rfl,c4⟩:=yoY a4
 obtain ⟨b5,rfl,c5⟩:=yuY a5
 obtain ⟨b6,rfl,c6⟩:=yuY a6
 obtain ⟨b7,rfl,c7⟩:=yeuY a7
 obtain ⟨b8,rfl⟩:=y7kY a8
 exact ⟨⟨b1,b2,b3,b4,b5,b6,b7,b8⟩,rfl,c1,c2,c3,c4,c5,c6,c7⟩
theorem yl9Y {cs:List D} (h:FitLs coolLs cs):∃ c,cs=coolC c/\FCool c:=by
 obtain ⟨_,_,rfl,a1,h⟩:=y6Y h
 obtain ⟨_,_,rfl,a2,h⟩:=y6Y h
 obtain ⟨_,_,rfl,a3,h⟩:=y6Y h
 obtain ⟨_,_,rfl,a4,h⟩:=y6Y h
 obtain rfl:=y1tY h
 obtain ⟨b1,rfl,c1⟩:=yuY a1
 obtain ⟨b2,rfl,c2⟩:=yuY a2
 obtain ⟨b3,rfl,c3⟩:=yuY a3
 obtain ⟨b4,rfl,c4⟩:=yoY a4
 exact ⟨⟨⟨b1,b2,b3⟩,b4⟩,rfl,⟨c1,c2,c3⟩,c4⟩
def idxI {α:Type} (p:α->Bool) (l:List α):Int:=match l.findIdx? p with|some k=>(k:Int)|none=>-1
theorem y32Y {α:Type} {p:α->Bool} {l:List α} (h:∀ y∈l,p y=false):idxI p l=-1:=by
 unfold idxI
 rw [List.findIdx?_eq_none_iff.2 (by simpa using h)]
theorem y33Y {α:Type} {p:α->Bool} {l:List α} {k:Nat} {y:α} (hy:l[k]?=some y) (hp:p y=true) (h0:∀ (j:Nat) z,j<k->l[j]?=some z->p z=false):idxI p l=k:=by
 unfold idxI
 obtain ⟨hk,he⟩:=List.getElem?_eq_some_iff.1 hy
 rw [List.findIdx?_eq_some_iff_getElem.2 ⟨hk,by rw [he];exact hp,fun j hj=>by
  have:=h0 j l[j] hj (List.getElem?_eq_getElem (by omega))
  simp [this]⟩]
theorem y3mY {α:Type} (p:α->Bool) (l:List α):0<=idxI p l↔l.any p=true:=by
 unfold idxI
 cases h:l.findIdx? p with
 | none =>
   have:=List.findIdx?_eq_none_iff.1 h
   simp
   simpa using this
 | some k =>
   obtain ⟨hk,hp,_⟩:=List.findIdx?_eq_some_iff_getElem.1 h
   simp
   exact ⟨_,List.getElem_mem hk,hp⟩
theorem y1mY {α:Type} {p:α->Bool} {l:List α} {k:Nat} {y:α} (h:∀ (j:Nat) z,j<k->l[j]?=some z->p z=false) (hy:l[k]?=some y) (hp:p y=false):∀ (j:Nat) z,j<k+1->l[j]?=some z->p z=false:=fun j z hj hz=>by
 rcases Nat.lt_succ_iff_lt_or_eq.1 hj with h1|rfl
 ·exact h j z h1 hz
 ·rw [hy] at hz;simp only [Option.some.injEq] at hz;subst hz;exact hp
theorem o_eqc {O:Ops} (hO:O=Ops.std) (neg:Bool) (ts:List (Nat × EqT)) (xs ys:List D):O .eqc neg ts xs ys=(((ylY ts xs ys).getD false) != neg):=by subst hO;rfl
theorem ylaY (a b:Str):((⟨⟨a⟩⟩:ByteArray) == ⟨⟨b⟩⟩)=decide (a=b):=by
 show ((⟨a⟩:Array UInt8) == ⟨b⟩)=decide (a=b)
 rw [Bool.eq_iff_iff]
 simp
theorem y7mY (a b:Str):y13Y .str (some (mkS a)) (some (mkS b))=some (decide (a=b)):=by
 show some ((⟨⟨a⟩⟩:ByteArray) == ⟨⟨b⟩⟩)=_
 rw [ylaY]
theorem yewY {O:Ops} (hO:O=Ops.std) {t:Bool} {x y:OffV} (h:t=O .eqc false [(0,.str),(1,.str),(2,.str)] [mkS x.t,mkS x.z,mkS x.k] [mkS y.t,mkS y.z,mkS y.k]):t=decide (x=y):=by
 rw [o_eqc hO] at h
 rw [h]
 obtain ⟨a,b,c⟩:=x
 obtain ⟨a',b',c'⟩:=y
 simp [ylY,y7mY]
theorem yexY {O:Ops} (hO:O=Ops.std) {t:Bool} {x y:TolV} (h:t=O .eqc false [(0,.str),(1,.str),(2,.bool)] [mkS x.k,mkS x.v,.bool x.y] [mkS y.k,mkS y.v,.bool y.y]):t=decide (x=y):=by
 rw [o_eqc hO] at h
 rw [h]
 obtain ⟨a,b,c⟩:=x
 obtain ⟨a',b',c'⟩:=y
 have hb:y13Y .bool (some (.bool c)) (some (.bool c'))=some (decide (c=c')):=by cases c<;>cases c'<;>rfl
 simp [ylY,y7mY,hb]
theorem y5bY {α:Type} {p:α->Bool} {l:List α} {k:Nat} (h:∀ (j:Nat) z,j<k->l[j]?=some z->p z=false):(l.take k).any p=false:=by
 rw [List.any_eq_false]
 intro x hx
 obtain ⟨j,hj⟩:=List.mem_iff_getElem?.1 hx
 rw [List.getElem?_take] at hj
 split at hj
 ·rw [h j x ‹_› hj];simp
 ·simp at hj
theorem y5cY {α:Type} {p:α->Bool} {l:List α} {k j:Nat} {z:α} (hj:j<k) (hz:l[j]?=some z) (hp:p z=true):(l.take k).any p=true:=by
 rw [List.any_eq_true]
 exact ⟨z,List.mem_iff_getElem?.2 ⟨j,by rw [List.getElem?_take,if_pos hj];exact hz⟩,hp⟩
theorem yeyY {α:Type} [DecidableEq α] (a b:α):decide (a=b)=decide (b=a):=decide_eq_decide.2 eq_comm
noncomputable def cmpS (a b:Str):Int:=if a<b then -1 else if a=b then 0 else 1
noncomputable def ltO (x y:OffV):Bool:=if x.t≠y.t then decide (x.t<y.t) else if x.z≠y.z then decide (x.z<y.z) else decide (x.k<y.k)
noncomputable def cmpO (x y:OffV):Int:=y3Y [cmpS x.t y.t,cmpS x.z y.z,cmpS x.k y.k]
theorem ylbY (x y:OffV):cmpO x y<0↔ltO x y=true:=by
 unfold cmpO ltO
 simp only [ycY,y59Y]
 unfold cmpS
 by_cases h1:x.t=y.t
 ·by_cases h2:x.z=y.z
  ·by_cases h3:x.k<y.k
   ·simp [h1,h2,h3,List.lt_irrefl]
   ·by_cases h4:x.k=y.k<;>simp [h1,h2,h3,h4,List.lt_irrefl]
  ·by_cases h3:x.z<y.z<;>simp [h1,h2,h3,List.lt_irrefl]
 ·by_cases h3:x.t<y.t<;>simp [h1,h3]
def tooE (most:Nat) (n:Nat) (e:Int):Int:=if most<n then 3 else e
noncomputable def reqsE (most:Nat) (l:List ReqV):Int:=tooE most l.length (scanE (atE ysY l) l.length)
def upE {α:Type} (f:α->List α->Int) (l:List α) (i:Nat):Int:=match l[i]? with|some x=>f x (l.take i)|none=>0
theorem y14Y {α:Type} {f:α->List α->Int} {l:List α} {i:Nat} {x:α} (h:l[i]?=some x):upE f l i=f x (l.take i):=by unfold upE;rw [h]
noncomputable def tolE (t:TolV) (l:List TolV):Int:=if nameB t.k then (if (if t.y then decide (t.v=[]) else yiY t.v) then (if l.any fun y=>decide (t=y) then 6 else 0) else 20) else 7
noncomputable def tolsE (l:List TolV):Int:=tooE 4 l.length (scanE (upE tolE l) l.length)
noncomputable def tntE (t:LabV) (l:List LabV):Int:=if nameB t.k then (if yiY t.v then (if l.any fun y=>decide (y.k=t.k) then 6 else 0) else 20) else 7
noncomputable def tntsE (l:List LabV):Int:=tooE 4 l.length (scanE (upE tntE l) l.length)
noncomputable def offE (o:OffV) (l:List OffV):Int:=if nmB o then (if l.any fun y=>decide (o=y) then 6 else 0) else 7
noncomputable def offsE (l:List OffV):Int:=tooE 72 l.length (scanE (upE offE l) l.length)
def zoneS:Str:=[122,111,110,101]
def hostS:Str:=[104,111,115,116]
noncomputable def termE (k a:Str):Int:=if decide (k=zoneS)||decide (k=hostS) then (if nameB a then 0 else 7) else 1
noncomputable def y16Y (l:List LabV):Int:=scanE (atE (fun x=>termE x.k x.v) l) l.length
noncomputable def sprE (x:SprV):Int:=if termE x.k x.a=0 then (if btw x.n 1 16 then 0 else 1) else termE x.k x.a
noncomputable def sprsE (l:List SprV):Int:=scanE (atE sprE l) l.length
noncomputable def allTE (s:List SprV) (n a:List LabV):Int:=if 3<s.length∨3<n.length∨3<a.length then 3 else y3Y [sprsE s,y16Y n,y16Y a]
theorem y34Y {α:Type} {l:List α} {k:Nat} {p:α} (hk:0<k) (h:l[k-1]?=some p):(l.take k).getLast?=some p:=by
 rw [List.getLast?_eq_getElem?,List.length_take]
 have:=(List.getElem?_eq_some_iff.1 h).1
 rw [show min k l.length-1=k-1 by omega,List.getElem?_take,if_pos (by omega)]
 exact h
noncomputable def podE (p:PodV):Int:=y3Y [wantI (nameB p.name&&nameB p.app) 7,amtsE p.n0 p.n1,wantI (btw p.prio (-1000) 1000) 1,reqsE 8 p.reqs,tolsE p.tols,allTE p.spr p.near p.apart,wantI (btw p.since 0 1099511627776) 1,wantI (noneB p.on) 7]
noncomputable def poolE (p:PoolV):Int:=y3Y [wantI (nameB p.name) 7,wantI (btw p.weight 0 100) 1,amtsE p.l0 p.l1,reqsE 8 p.reqs,tntsE p.taints,wantI (btw p.gen 0 1099511627776&&(btw p.expire 0 1073741824&&(btw p.budget 0 16&&btw p.merge 0 2))) 1]
noncomputable def y19Y (c:ClaimV):Int:=y3Y [wantI (nameB c.name&&(nameB c.pool&&nmB c.off)) 7,amtE c.price,amtsE c.c0 c.c1,offsE c.opts,wantI (btw c.tries 1 32) 1,wantI (decide ((c.id.length:Int)<=16)) 2,wantI (btw c.phase 1 4&&(btw c.gen 0 1099511627776&&btw c.born 0 1099511627776)) 1]
noncomputable def nodeE (x:Str) (ah:List Str):Int:=if nameB x then (match ah.getLast? with|some y=>if decide (y<x) then 0 else 6|none=>0) else 7
noncomputable def cmdE (c:CmdV):Int:=y3Y [wantI (btw c.cause 1 4&&btw c.stp 1 3) 1,wantI (decide (c.nodes.length<=4)) 3,wantI (decide (0<c.nodes.length)) 1,scanE (upE nodeE c.nodes) c.nodes.length,wantI (btw c.til 0 1099511627776) 1,wantI (noneB c.fresh&&noneB c.pool) 7,offsE c.opts]
theorem ylcY (a b:List Int):y3Y (a++b)=if y3Y a=0 then y3Y b else y3Y a:=by
 induction a with
 | nil=>simp
 | cons x r ih =>
   rw [List.cons_append,ycY,ycY,ih]
   by_cases h:x=0
   ·simp [h]
   ·simp [h]
def stepE (g:Nat->Int) (e0 e:Int) (k:Nat):Prop:=(k=0/\e=e0)∨(0<k/\e0=0/\e=g (k-1)/\∀ j,j<k-1->g j=0)
theorem yldY {g:Nat->Int} {e0:Int}:stepE g e0 e0 0:=.inl ⟨rfl,rfl⟩
theorem yleY {g:Nat->Int} {e0 e e':Int} {k:Nat} (h:stepE g e0 e k) (h0:e=0) (h1:e'=g k):stepE g e0 e' (k+1):=by
 rcases h with ⟨rfl,rfl⟩|⟨h2,h3,h4,h5⟩
 ·exact .inr ⟨by omega,h0,by simpa using h1,fun j hj=>absurd hj (by omega)⟩
 ·refine .inr ⟨by omega,h3,by simpa using h1,fun j hj=>?_⟩
  rcases (by omega:j<k-1∨j=k-1) with h6|rfl
  ·exact h5 j h6
  ·rw [←h4,h0]
theorem yezY {g:Nat->Int} {e0 e:Int} {k n:Nat} {l:List Int} (h:stepE g e0 e k) (h0:e≠0) (hk:k<=n):(if e0=0 then y3Y (scanE g n::l) else e0)=e:=by
 rcases h with ⟨rfl,rfl⟩|⟨h2,h3,h4,h5⟩
 ·rw [if_neg h0]
 ·rw [if_pos h3,show scanE g n=e from yfY (k:=k-1) (by omega) h5 h4 h0,ycY,if_neg h0]
theorem ylfY {g:Nat->Int} {e0 e:Int} {n:Nat} {l:List Int} (h:stepE g e0 e n):(if e0=0 then y3Y (scanE g n::l) else e0)=y3Y (e::l):=by
 by_cases h0:e=0
 ·rcases h with ⟨rfl,rfl⟩|⟨h2,h3,h4,h5⟩
  ·rw [if_pos h0,h0];rfl
  ·rw [if_pos h3,h0,ywY fun j hj=>by
    rcases (by omega:j<n-1∨j=n-1) with h6|rfl
    ·exact h5 j h6
    ·rw [←h4,h0]]
 ·rw [yezY h h0 (Nat.le_refl _),ycY,if_neg h0]
theorem ylgY (x:LabV):y16Y [x]=termE x.k x.v:=by
 unfold y16Y scanE
 simp [atE,ycY]
 by_cases h:termE x.k x.v=0<;>simp [h]
structure OfgV where
 z:Str
 k:Str
 p:Int
 o:Bool
 deriving DecidableEq
structure TypeV where
 name:Str
 c0:Int
 c1:Int
 v0:Int
 v1:Int
 labs:List LabV
 offs:List OfgV
 deriving DecidableEq
structure InstV where
 id:Str
 tok:Str
 off:OffV
 st:Int
 rdy:Int
structure SnapV where
 now:Int
 idle:Int
 most:Int
 hold:Int
 late:Int
 cool:Int
 types:List TypeV
 pods:List PodV
 pools:List PoolV
 claims:List ClaimV
 cmds:List CmdV
 cools:List CoolV
 insts:List InstV
 notes:List Str
def ofgC (x:OfgV):List D:=[mkS x.z,mkS x.k,jI x.p,.bool x.o]
def ofgD (x:OfgV):D:=.agg (ofgC x)
def typeC (x:TypeV):List D:=[mkS x.name,jI x.c0,jI x.c1,jI x.v0,jI x.v1,.sl 2 false (x.labs.map labD),.sl 4 false (x.offs.map ofgD)]
def typeD (x:TypeV):D:=.agg (typeC x)
def instC (x:InstV):List D:=[mkS x.id,mkS x.tok,mkS x.off.t,mkS x.off.z,mkS x.off.k,jI x.st,jI x.rdy]
def instD (x:InstV):D:=.agg (instC x)
def snapC (s:SnapV):List D:=[jI s.now,jI s.idle,jI s.most,jI s.hold,jI s.late,jI s.cool,.sl 7 false (s.types.map typeD),.sl 12 false (s.pods.map podD),.sl 10 false (s.pools.map poolD),.sl 15 false (s.claims.map y5Y),.sl 8 false (s.cmds.map cmdD),.sl 4 false (s.cools.map coolD),.sl 7 false (s.insts.map instD),.sl 1 false (s.notes.map mkS)]
def snapD (s:SnapV):D:=.agg (snapC s)
structure FOfg (x:OfgV):Prop where
 z:SL x.z
 k:SL x.k
 p:FI x.p
structure FType (x:TypeV):Prop where
 name:SL x.name
 c0:FI x.c0
 c1:FI x.c1
 v0:FI x.v0
 v1:FI x.v1
 labs:FLs FLab x.labs
 offs:FLs FOfg x.offs
structure FInst (x:InstV):Prop where
 id:SL x.id
 tok:SL x.tok
 off:FO x.off
 st:FI x.st
 rdy:FI x.rdy
structure FSnap (s:SnapV):Prop where
 now:FI s.now
 idle:FI s.idle
 most:FI s.most
 hold:FI s.hold
 late:FI s.late
 cool:FI s.cool
 types:FLs FType s.types
 pods:FLs FPod s.pods
 pools:FLs FPool s.pools
 claims:FLs FClaim s.claims
 cmds:FLs FCmd s.cmds
 cools:FLs FCool s.cools
 insts:FLs FInst s.insts
 notes:FLs SL s.notes
def fiveL:List Str:=[zoneS,[116,121,112,101],[107,105,110,100],[112,111,111,108],hostS]
noncomputable def clabE (x:LabV) (ah:List LabV):Int:=if nameB x.k then (if decide (x.k∈fiveL) then 1 else if yiY x.v then (if ah.any (fun y=>decide (y.k=x.k)) then 6 else 0) else 20) else 7
noncomputable def y22Y (l:List LabV):Int:=tooE 4 l.length (scanE (upE clabE l) l.length)
noncomputable def ofgE (x:OfgV) (ah:List OfgV):Int:=if nameB x.z&&nameB x.k then (if amtE x.p=0 then (if ah.any (fun y=>decide (y.z=x.z)&&decide (y.k=x.k)) then 6 else 0) else amtE x.p) else 7
noncomputable def ofgsE (l:List OfgV):Int:=tooE 6 l.length (scanE (upE ofgE l) l.length)
def fitsB (a0 a1 b0 b1:Int):Bool:=decide (amtsE a0 a1=0)&&decide (amtsE b0 b1=0)&&decide (a0<=b0)&&decide (a1<=b1)
noncomputable def typE (t:TypeV):Int:=y3Y [wantI (nameB t.name) 7,amtsE t.c0 t.c1,amtsE t.v0 t.v1,wantI (fitsB t.v0 t.v1 t.c0 t.c1) 1,y22Y t.labs,ofgsE t.offs]
noncomputable def ctypE (t:TypeV) (ah:List TypeV):Int:=if typE t=0 then (if ah.any (fun y=>decide (y.name=t.name)) then 6 else 0) else typE t
noncomputable def catE (l:List TypeV):Int:=tooE 12 l.length (scanE (upE ctypE l) l.length)
def findT (l:List TypeV) (o:OffV):Option (TypeV × OfgV) :=
 l.findSome? fun t=>(t.offs.find? fun x=>decide (t.name=o.t)&&(decide (x.z=o.z)&&decide (x.k=o.k))).map fun x=>(t,x)
noncomputable def findC (l:List TypeV) (o:OffV):Option (TypeV × OfgV):=if catE l=0 then findT l o else none
def subE (a0 a1 b0 b1:Int):Int × Int × Int :=
 if amtsE a0 a1≠0 then (0,0,amtsE a0 a1) else if amtsE b0 b1≠0 then (0,0,amtsE b0 b1) else if b0<=a0/\b1<=a1 then (a0-b0,a1-b1,0) else (0,0,11)
noncomputable def hasO (l:List TypeV) (o:OffV):Int × Int:=match findC l o with|some (t,_)=>(t.c0-t.v0,t.c1-t.v1)|none=>(0,0)
noncomputable def isO (l:List TypeV) (o:OffV):Bool:=(findC l o).isSome
noncomputable def yqY (l:List TypeV) (os:List OffV):Bool:=os.all (isO l)
def timeB (n:Int):Bool:=btw n 0 1099511627776
def spanB (n:Int):Bool:=btw n 0 1073741824
def rizE {α:Type} (κ:α->Str) (x:α) (ah:List α):Int:=match ah.getLast? with|some y=>if decide (κ y<κ x) then 0 else 6|none=>0
noncomputable def y35Y (p:PoolV) (ah:List PoolV):Int:=if poolE p=0 then rizE (·.name) p ah else poolE p
def y1nY (s:SnapV) (n:Str):Bool:=s.pools.any fun p=>decide (p.name=n)
def y1aY (s:SnapV) (n:Str):Bool:=s.claims.any fun c=>decide (c.name=n)
noncomputable def y36Y (s:SnapV) (c:ClaimV) (ah:List ClaimV):Int :=
 if y19Y c=0 then y3Y [rizE (·.name) c ah,wantI (y1nY s c.pool&&(isO s.types c.off&&yqY s.types c.opts)) 5,wantI (decide (c.c0=(hasO s.types c.off).1)&&decide (c.c1=(hasO s.types c.off).2)) 1] else y19Y c
noncomputable def vpodE (s:SnapV) (p:PodV) (ah:List PodV):Int :=
 if podE p=0 then y3Y [rizE (·.name) p ah,wantI (decide (p.on=[])||y1aY s p.on) 5,wantI (decide (p.since<=s.now)) 1] else podE p
noncomputable def vcmdE (s:SnapV) (c:CmdV):Int:=if cmdE c=0 then wantI ((decide (c.pool=[])||y1nY s c.pool)&&yqY s.types c.opts) 5 else cmdE c
noncomputable def y67Y (s:SnapV) (c:CoolV) (ah:List CoolV):Int :=
 if isO s.types c.o then (match ah.getLast? with|some y=>if ltO y.o c.o then (if timeB c.u then 0 else 1) else 6|none=>if timeB c.u then 0 else 1) else 5
noncomputable def y68Y (s:SnapV) (x:InstV) (ah:List InstV):Int :=
 if decide (x.id=[])||decide (x.tok=[])||!btw x.st 1 3||!timeB x.rdy then 1
 else if ah.any fun y=>decide (y.id=x.id)||decide (y.tok=x.tok) then 6 else if isO s.types x.off then 0 else 5
noncomputable def y2eY (s:SnapV):Int:=scanE (upE y35Y s.pools) s.pools.length
noncomputable def y1oY (s:SnapV):Int:=scanE (upE (y36Y s) s.claims) s.claims.length
noncomputable def podsE (s:SnapV):Int:=scanE (upE (vpodE s) s.pods) s.pods.length
noncomputable def cmdsE (s:SnapV):Int:=scanE (atE (vcmdE s) s.cmds) s.cmds.length
noncomputable def y23Y (s:SnapV):Int:=scanE (upE (y67Y s) s.cools) s.cools.length
noncomputable def y24Y (s:SnapV):Int:=scanE (upE (y68Y s) s.insts) s.insts.length
def numsB (s:SnapV):Bool:=timeB s.now&&spanB s.idle&&spanB s.most&&spanB s.hold&&spanB s.late&&spanB s.cool
def y4eY (s:SnapV):Bool:=decide (s.pods.length<=24)&&decide (s.pools.length<=4)&&decide (s.claims.length<=16)&&decide (s.cmds.length<=1)&&decide (s.cools.length<=72)&&decide (s.insts.length<=64)&&decide (s.notes.length<=32)
noncomputable def snapE (s:SnapV):Int:=y3Y [wantI (numsB s) 1,catE s.types,wantI (y4eY s) 3,y2eY s,y1oY s,podsE s,cmdsE s,y23Y s,y24Y s]
abbrev ofgLs:List Lf:=[.str,.str,.int .i64,.bool]
abbrev typeLs:List Lf:=[.str,.int .i64,.int .i64,.int .i64,.int .i64,.sl 2 32 true [.str,.str],.sl 4 48 true ofgLs]
abbrev instLs:List Lf:=[.str,.str,.str,.str,.str,.int .i64,.int .i64]
abbrev snapLs:List Lf:=[.int .i64,.int .i64,.int .i64,.int .i64,.int .i64,.int .i64,.sl 7 96 true typeLs,.sl 12 200 true podLs,.sl 10 120 true poolLs,.sl 15 184 true claimLs,.sl 8 112 true cmdLs,.sl 4 56 true coolLs,.sl 7 96 true instLs,.sl 1 16 false [.str]]
theorem ylhY {d:D} (h:FitL (.sl 4 48 true ofgLs) d):∃ l,d=.sl 4 false (l.map ofgD)/\FLs FOfg l :=
 y3lY FOfg ofgD (by omega) (fun x cs hm hc=>by
  obtain ⟨_,_,rfl,a,hc⟩:=y6Y hc
  obtain ⟨_,_,rfl,b,hc⟩:=y6Y hc
  obtain ⟨_,_,rfl,c,hc⟩:=y6Y hc
  obtain ⟨_,_,rfl,e,hc⟩:=y6Y hc
  obtain rfl:=y1tY hc
  obtain ⟨z,rfl,hz⟩:=yuY a
  obtain ⟨k,rfl,hk⟩:=yuY b
  obtain ⟨p,rfl,hp⟩:=yoY c
  obtain ⟨o,rfl⟩:=y7kY e
  simp only [mkD,Option.some.injEq] at hm
  exact ⟨⟨z,k,p,o⟩,hm.symm,hz,hk,hp⟩) h
theorem yliY {cs:List D} (h:FitLs typeLs cs):∃ t,cs=typeC t/\FType t:=by
 obtain ⟨_,_,rfl,a1,h⟩:=y6Y h
 obtain ⟨_,_,rfl,a2,h⟩:=y6Y h
 obtain ⟨_,_,rfl,a3,h⟩:=y6Y h
 obtain ⟨_,_,rfl,a4,h⟩:=y6Y h
 obtain ⟨_,_,rfl,a5,h⟩:=y6Y h
 obtain ⟨_,_,rfl,a6,h⟩:=y6Y h
 obtain ⟨_,_,rfl,a7,h⟩:=y6Y h
 obtain rfl:=y1tY h
 obtain ⟨b1,rfl,c1⟩:=yuY a1
 obtain ⟨b2,rfl,c2⟩:=yoY a2
 obtain ⟨b3,rfl,c3⟩:=yoY a3
 obtain ⟨b4,rfl,c4⟩:=yoY a4
 obtain ⟨b5,rfl,c5⟩:=yoY a5
 obtain ⟨b6,rfl,c6⟩:=y7lY a6
 obtain ⟨b7,rfl,c7⟩:=ylhY a7
 exact ⟨⟨b1,b2,b3,b4,b5,b6,b7⟩,rfl,c1,c2,c3,c4,c5,c6,c7⟩
theorem yljY {cs:List D} (h:FitLs instLs cs):∃ t,cs=instC t/\FInst t:=by
 obtain ⟨_,_,rfl,a1,h⟩:=y6Y h
 obtain ⟨_,_,rfl,a2,h⟩:=y6Y h
 obtain ⟨_,_,rfl,a3,h⟩:=y6Y h
 obtain ⟨_,_,rfl,a4,h⟩:=y6Y h
 obtain ⟨_,_,rfl,a5,h⟩:=y6Y h
 obtain ⟨_,_,rfl,a6,h⟩:=y6Y h
 obtain ⟨_,_,rfl,a7,h⟩:=y6Y h
 obtain rfl:=y1tY h
 obtain ⟨b1,rfl,c1⟩:=yuY a1
 obtain ⟨b2,rfl,c2⟩:=yuY a2
 obtain ⟨b3,rfl,c3⟩:=yuY a3
 obtain ⟨b4,rfl,c4⟩:=yuY a4
 obtain ⟨b5,rfl,c5⟩:=yuY a5
 obtain ⟨b6,rfl,c6⟩:=yoY a6
 obtain ⟨b7,rfl,c7⟩:=yoY a7
 exact ⟨⟨b1,b2,⟨b3,b4,b5⟩,b6,b7⟩,rfl,c1,c2,⟨c3,c4,c5⟩,c6,c7⟩
theorem y4fY {α:Type} {F:α->Prop} {f:α->List D} {ls:List Lf} (he:∀ cs,FitLs ls cs->∃ a,cs=f a/\F a) {sz bytes:Nat} (hb:16<=bytes) {d:D} (h:FitL (.sl sz bytes true ls) d):∃ l:List α,d=.sl sz false (l.map fun a=>.agg (f a))/\FLs F l :=
 y3lY F (fun a=>.agg (f a)) hb (fun x cs hm hc=>by
  obtain ⟨a,rfl,ha⟩:=he cs hc
  simp only [mkD,Option.some.injEq] at hm
  exact ⟨a,hm.symm,ha⟩) h
theorem ylkY {cs:List D} (h:FitLs snapLs cs):∃ s,cs=snapC s/\FSnap s:=by
 obtain ⟨_,_,rfl,a1,h⟩:=y6Y h
 obtain ⟨_,_,rfl,a2,h⟩:=y6Y h
 obtain ⟨_,_,rfl,a3,h⟩:=y6Y h
 obtain ⟨_,_,rfl,a4,h⟩:=y6Y h
 obtain ⟨_,_,rfl,a5,h⟩:=y6Y h
 obtain ⟨_,_,rfl,a6,h⟩:=y6Y h
 obtain ⟨_,_,rfl,a7,h⟩:=y6Y h
 obtain ⟨_,_,rfl,a8,h⟩:=y6Y h
 obtain ⟨_,_,rfl,a9,h⟩:=y6Y h
 obtain ⟨_,_,rfl,a10,h⟩:=y6Y h
 obtain ⟨_,_,rfl,a11,h⟩:=y6Y h
 obtain ⟨_,_,rfl,a12,h⟩:=y6Y h
 obtain ⟨_,_,rfl,a13,h⟩:=y6Y h
 obtain ⟨_,_,rfl,a14,h⟩:=y6Y h
 obtain rfl:=y1tY h
 obtain ⟨b1,rfl,c1⟩:=yoY a1
 obtain ⟨b2,rfl,c2⟩:=yoY a2
 obtain ⟨b3,rfl,c3⟩:=yoY a3
 obtain ⟨b4,rfl,c4⟩:=yoY a4
 obtain ⟨b5,rfl,c5⟩:=yoY a5
 obtain ⟨b6,rfl,c6⟩:=yoY a6
 obtain ⟨b7,rfl,c7⟩:=y4fY (fun cs=>yliY) (by omega) a7
 obtain ⟨b8,rfl,c8⟩:=y4fY (fun cs=>yevY) (by omega) a8
 obtain ⟨b9,rfl,c9⟩:=y4fY (fun cs=>yl6Y) (by omega) a9
 obtain ⟨b10,rfl,c10⟩:=y4fY (fun cs=>yl7Y) (by omega) a10
 obtain ⟨b11,rfl,c11⟩:=y4fY (fun cs=>yl8Y) (by omega) a11
 obtain ⟨b12,rfl,c12⟩:=y4fY (fun cs=>yl9Y) (by omega) a12
 obtain ⟨b13,rfl,c13⟩:=y4fY (fun cs=>yljY) (by omega) a13
 obtain ⟨b14,rfl,c14⟩:=ya5Y a14
 exact ⟨⟨b1,b2,b3,b4,b5,b6,b7,b8,b9,b10,b11,b12,b13,b14⟩,rfl,c1,c2,c3,c4,c5,c6,c7,c8,c9,c10,c11,c12,c13,⟨c14.len,c14.all⟩⟩
theorem y5dY {α:Type} {f:α->List D} (h:∀ a,CleanL (f a)) (a:α):Clean (.agg (f a)):=by
 obtain ⟨h1,h2⟩:=h a
 exact ⟨by simp [closed,h1],by simp [strip,h2]⟩
theorem y17Y {sz:Nat} {xs:List D} (h:CleanL xs):Clean (.sl sz false xs):=⟨by simp [closed,h.c],by simp [strip,h.s]⟩
theorem y9Y {x:D} {xs:List D} (h:Clean x) (k:CleanL xs):CleanL (x::xs):=⟨by simp [closedL,h.c,k.c],by simp [stripL,h.s,k.s]⟩
theorem y3nY:CleanL []:=⟨rfl,rfl⟩
theorem yrY (n:Int):Clean (jI n):=⟨rfl,rfl⟩
theorem yf0Y (b:Bool):Clean (.bool b):=⟨rfl,rfl⟩
theorem yllY (r:ReqV):Clean (reqD r):=y5dY (f:=fun r:ReqV=>[mkS r.key,jI r.op,.sl 1 false (r.l.map mkS),jI r.n]) (fun r=>y9Y (yhY _) (y9Y (yrY _) (y9Y (y17Y (y8Y yhY rfl)) (y9Y (yrY _) y3nY)))) r
theorem yeY (l:List LabV):CleanL (l.map labD):=y8Y (fun _=>⟨rfl,rfl⟩) rfl
theorem y2fY (l:List TolV):CleanL (l.map tolD):=y8Y (fun _=>⟨rfl,rfl⟩) rfl
theorem y2bY (l:List SprV):CleanL (l.map sprD):=y8Y (fun _=>⟨rfl,rfl⟩) rfl
theorem y11Y (l:List OffV):CleanL (l.map offD):=y8Y (fun _=>⟨rfl,rfl⟩) rfl
theorem y1kY (l:List OfgV):CleanL (l.map ofgD):=y8Y (fun _=>⟨rfl,rfl⟩) rfl
theorem y1bY (l:List ReqV):CleanL (l.map reqD):=y8Y yllY rfl
theorem y69Y (l:List Str):CleanL (l.map mkS):=y8Y yhY rfl
theorem y2gY (l:List TypeV):CleanL (l.map typeD):=y8Y (y5dY (f:=typeC) fun t=>y9Y (yhY _) (y9Y (yrY _) (y9Y (yrY _) (y9Y (yrY _) (y9Y (yrY _) (y9Y (y17Y (yeY _)) (y9Y (y17Y (y1kY _)) y3nY))))))) rfl
theorem yf1Y (l:List PodV):CleanL (l.map podD):=y8Y (y5dY (f:=podC) fun t=>y9Y (yhY _) (y9Y (yhY _) (y9Y (yrY _) (y9Y (yrY _) (y9Y (yrY _) (y9Y (y17Y (y1bY _)) (y9Y (y17Y (y2fY _)) (y9Y (y17Y (y2bY _)) (y9Y (y17Y (yeY _)) (y9Y (y17Y (yeY _)) (y9Y (yrY _) (y9Y (yhY _) y3nY)))))))))))) rfl
theorem ya6Y (l:List PoolV):CleanL (l.map poolD):=y8Y (y5dY (f:=poolC) fun t=>y9Y (yhY _) (y9Y (yrY _) (y9Y (yrY _) (y9Y (yrY _) (y9Y (y17Y (y1bY _)) (y9Y (y17Y (yeY _)) (y9Y (yrY _) (y9Y (yrY _) (y9Y (yrY _) (y9Y (yrY _) y3nY)))))))))) rfl
theorem ya7Y (l:List ClaimV):CleanL (l.map y5Y):=y8Y (y5dY (f:=y12Y) fun t=>y9Y (yhY _) (y9Y (yhY _) (y9Y (yrY _) (y9Y (yhY _) (y9Y (yhY _) (y9Y (yhY _) (y9Y (yrY _) (y9Y (yrY _) (y9Y (yrY _) (y9Y (y17Y (y11Y _)) (y9Y (yrY _) (y9Y (yhY _) (y9Y (yrY _) (y9Y (yrY _) (y9Y (yf0Y _) y3nY))))))))))))))) rfl
theorem yf2Y (l:List CmdV):CleanL (l.map cmdD):=y8Y (y5dY (f:=cmdC) fun t=>y9Y (yrY _) (y9Y (y17Y (y69Y _)) (y9Y (yrY _) (y9Y (yrY _) (y9Y (yhY _) (y9Y (yhY _) (y9Y (y17Y (y11Y _)) (y9Y (yf0Y _) y3nY)))))))) rfl
theorem yf3Y (l:List CoolV):CleanL (l.map coolD):=y8Y (fun _=>⟨rfl,rfl⟩) rfl
theorem ya8Y (l:List InstV):CleanL (l.map instD):=y8Y (fun _=>⟨rfl,rfl⟩) rfl
abbrev sB (s:SnapV) (ty po pl cl cm co is no:List D):List D:=[jI s.now,jI s.idle,jI s.most,jI s.hold,jI s.late,jI s.cool,.sl 7 false ty,.sl 12 false po,.sl 10 false pl,.sl 15 false cl,.sl 8 false cm,.sl 4 false co,.sl 7 false is,.sl 1 false no]
structure Cells (s:SnapV) (ty po pl cl cm co is no:List D):Prop where
 ty:ty=s.types.map typeD
 po:po=s.pods.map podD
 pl:pl=s.pools.map poolD
 cl:cl=s.claims.map y5Y
 cm:cm=s.cmds.map cmdD
 co:co=s.cools.map coolD
 is:is=s.insts.map instD
 no:no=s.notes.map mkS
theorem yxY (s:SnapV):∃ ty po pl cl cm co is no,Cells s ty po pl cl cm co is no/\snapD s=.agg (sB s ty po pl cl cm co is no)
 /\ CleanL ty/\CleanL po/\CleanL pl/\CleanL cl/\CleanL cm/\CleanL co/\CleanL is/\CleanL no :=
 ⟨_,_,_,_,_,_,_,_,⟨rfl,rfl,rfl,rfl,rfl,rfl,rfl,rfl⟩,rfl,y2gY _,yf1Y _,ya6Y _,ya7Y _,yf2Y _,yf3Y _,ya8Y _,y69Y _⟩
end Go.Proofs.AM
