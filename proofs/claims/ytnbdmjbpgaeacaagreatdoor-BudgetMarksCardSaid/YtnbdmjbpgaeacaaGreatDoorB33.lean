/- Part 33 of the lemmas: APVg, APVh, APVi, ApPXc, ApPXd, PZi, PZj. -/
import Derived.Test.YtnbdmjbpgaeacaaGreatDoorB13
import Derived.Test.YtnbdmjbpgaeacaaGreatDoorB08
import Derived.Test.YtnbdmjbpgaeacaaGreatDoorB11
import Derived.Test.YtnbdmjbpgaeacaaGreatDoorB23
import Derived.Test.YtnbdmjbpgaeacaaGreatDoorB16
import Derived.Test.YtnbdmjbpgaeacaaGreatDoorB06
set_option maxRecDepth 100000
set_option maxHeartbeats 8000000
set_option linter.all false
namespace Go.Proofs.AM
open Go Go.Lib
theorem yo6Y {c:UInt8} {r:Str}:NameP (c::r)↔r.length<=15/\small c/\∀ x∈r,okc x:=by
 unfold NameP
 constructor
 ·rintro ⟨h1,h2,h3⟩
  refine ⟨by simpa using h2,(h3 0 c rfl).2 rfl,fun x hx=>?_⟩
  obtain ⟨j,hj⟩:=List.getElem?_of_mem hx
  exact (h3 (j+1) x (by simpa using hj)).1
 ·rintro ⟨h1,h2,h3⟩
  refine ⟨by simp,by simpa using h1,fun i x hx=>?_⟩
  cases i with
  | zero=>simp at hx;subst hx;exact ⟨.inl h2,fun _=>h2⟩
  | succ i=>exact ⟨h3 x (List.mem_of_getElem? (by simpa using hx)),by simp⟩
theorem y3eY (c:UInt8) (r:Str):nameB (c::r)=(decide (r.length<=15)&&decide (small c)&&r.all fun x=>decide (okc x)):=by
 rw [Bool.eq_iff_iff]
 unfold nameB
 simp only [decide_eq_true_eq,Bool.and_eq_true,List.all_eq_true]
 rw [yo6Y,and_assoc]
def zoneT:Str:=[122,111,110,101]
def genS:Str:=[103,101,110]
theorem yo7Y {s:Str} (h:nameB s=true):ygY s=true:=by rw [ycuY,h];rfl
theorem CheckP.val {s:SetV} (h:CheckP s) {z:Str} (hz:z∈s.l):ygY z=true:=by
 obtain ⟨j,hj⟩:=List.getElem?_of_mem hz
 exact h.ord.2.1 j z hj
theorem CheckP.inr {s:SetV} (h:CheckP s) (hu:s.u=true) {z:Str} (hz:z∈s.l):∃ n,numS z=some n/\s.lo<n/\n<s.hi:=by
 obtain ⟨j,hj⟩:=List.getElem?_of_mem hz
 exact (h.u hu).2.2.2.2 j z hj
theorem Rises.filter {l:List Str} (h:Rises l) (p:Str->Bool):Rises (l.filter p):=List.Pairwise.filter _ h
open Classical in
structure GoodK (l:List KeyV):Prop where
 nd:(l.map (·.k)).Nodup
 ck:∀ x∈l,CheckP x.s
def l1:ReqV:=⟨zoneT,1,[[97],[98],[99]],0⟩
def l2:ReqV:=⟨zoneT,2,[[98]],0⟩
theorem yo8Y (n:Nat):reqsE n []=0:=by
 unfold reqsE tooE
 rw [if_neg (by simp),scan_at]
 simp
def g5:LabV:=⟨genS,[53]⟩
def tA:Str:=[97]
def tP:Str:=[112]
def tS:Str:=[115]
def tL:Str:=[108]
def tOd:Str:=[111,100]
def tSpot:Str:=[115,112,111,116]
def tC1:Str:=[99,49]
def tC2:Str:=[99,50]
theorem n_A:nameB tA=true:=by unfold tA;rw [y3eY];decide
theorem n_P:nameB tP=true:=by unfold tP;rw [y3eY];decide
theorem n_S:nameB tS=true:=by unfold tS;rw [y3eY];decide
theorem n_L:nameB tL=true:=by unfold tL;rw [y3eY];decide
theorem n_Od:nameB tOd=true:=by unfold tOd;rw [y3eY];decide
theorem yo9Y:nameB tSpot=true:=by unfold tSpot;rw [y3eY];decide
theorem n_C1:nameB tC1=true:=by unfold tC1;rw [y3eY];decide
theorem n_C2:nameB tC2=true:=by unfold tC2;rw [y3eY];decide
theorem up1 {α:Type} {f:α->List α->Int} {x:α} (h:f x []=0):scanE (upE f [x]) [x].length=0:=by
 show y3Y [f x []]=0
 rw [h];rfl
theorem up2 {α:Type} {f:α->List α->Int} {x y:α} (h:f x []=0) (h2:f y [x]=0):scanE (upE f [x,y]) [x,y].length=0:=by
 show y3Y [f x [],f y [x]]=0
 rw [h,h2];rfl
theorem yegY {x:OfgV} (h1:nameB x.z=true) (h2:nameB x.k=true) (h3:amtE x.p=0):ofgE x []=0:=by simp [ofgE,h1,h2,h3]
theorem yoaY {x y:OfgV} (h1:nameB x.z=true) (h2:nameB x.k=true) (h3:amtE x.p=0) (h4:¬(y.z=x.z/\y.k=x.k)):ofgE x [y]=0:=by
 have:(decide (y.z=x.z)&&decide (y.k=x.k))=false:=by simpa using h4
 simp [ofgE,h1,h2,h3,this]
theorem yehY {t:TypeV} (h1:nameB t.name=true) (h2:amtsE t.c0 t.c1=0) (h3:amtsE t.v0 t.v1=0) (h4:fitsB t.v0 t.v1 t.c0 t.c1=true) (h5:y1wY t.labs=0) (h6:ofgsE t.offs=0):typE t=0:=by
 unfold typE
 rw [h1,h2,h3,h4,h5,h6]
 rfl
def nodeV (name zone:Str):ClaimV:=⟨name,tP,1,⟨tS,zone,tOd⟩,100,2000,4096,[⟨tS,zone,tOd⟩],1,name,3,0,false⟩
theorem yobY {o:OffV} (h:nmB o=true):offsE [o]=0:=by
 unfold offsE tooE
 rw [if_neg (by simp),up1 (by simp [offE,h])]
theorem nm_of {o:OffV} (h1:nameB o.t=true) (h2:nameB o.z=true) (h3:nameB o.k=true):nmB o=true:=by unfold nmB;rw [h1,h2,h3];rfl
theorem yocY {c:ClaimV} (h1:nameB c.name=true) (h2:nameB c.pool=true) (h3:nmB c.off=true) (h4:amtE c.price=0) (h5:amtsE c.c0 c.c1=0) (h6:offsE c.opts=0) (h7:btw c.tries 1 32=true) (h8:c.id.length<=16) (h9:(btw c.phase 1 4&&(btw c.gen 0 1099511627776&&btw c.born 0 1099511627776))=true):y16Y c=0:=by
 unfold y16Y
 have:decide ((c.id.length:Int)<=16)=true:=by simpa using by omega
 rw [h1,h2,h3,h4,h5,h6,h7,h9,this]
 rfl
theorem yodY {s:Str} (h:nameB s=true):s.length<=16:=yiaY (yo7Y h)
theorem yeiY {name zone:Str} (h1:nameB name=true) (h2:nameB zone=true):y16Y (nodeV name zone)=0 :=
 yocY h1 n_P (nm_of n_S h2 n_Od) rfl rfl (yobY (nm_of n_S h2 n_Od)) rfl (yodY h1) rfl
theorem yoeY {p:PoolV} (h1:nameB p.name=true) (h2:btw p.weight 0 100=true) (h3:amtsE p.l0 p.l1=0) (h4:reqsE 8 p.reqs=0) (h5:tntsE p.taints=0) (h6:(btw p.gen 0 1099511627776&&(btw p.expire 0 1073741824&&(btw p.budget 0 16&&btw p.merge 0 2)))=true):poolE p=0:=by
 unfold poolE
 rw [h1,h2,h3,h4,h5,h6]
 rfl
theorem yofY {s:SnapV} (h1:numsB s=true) (h2:catE s.types=0) (h3:y2rY s=true) (h4:y28Y s=0) (h5:y1fY s=0) (h6:podsE s=0) (h7:s.cmds=[]) (h8:s.cools=[]) (h9:s.insts=[]):snapE s=0:=by
 unfold snapE cmdsE y1xY y1yY
 rw [h1,h2,h3,h4,h5,h6,h7,h8,h9]
 rfl
theorem yejY {s:SnapV} {c:ClaimV} {ah:List ClaimV} (h1:y16Y c=0) (h2:rizE (·.name) c ah=0) (h3:yzY s c.pool=true) (h4:isO s.types c.off=true) (h5:ypY s.types c.opts=true) (h6:hasO s.types c.off=(c.c0,c.c1)):y2qY s c ah=0:=by
 unfold y2qY
 rw [if_pos h1,h2,h3,h4,h5,h6]
 simp [wantI,ycY]
theorem yogY {p:PoolV} {ah:List PoolV} (h1:poolE p=0) (h2:rizE (·.name) p ah=0):y30Y p ah=0:=by
 unfold y30Y
 rw [if_pos h1,h2]
theorem yekY {l:List TypeV} (h:catE l=0) (o:OffV):findC l o=findT l o:=by unfold findC;rw [if_pos h]
theorem yohY {l:List TypeV} (h:catE l=0) {o:OffV} (h2:(findT l o).isSome=true):isO l o=true:=by unfold isO;rw [yekY h];exact h2
theorem yelY {l:List TypeV} {o:OffV} (h:isO l o=true):ypY l [o]=true:=by unfold ypY;simp [h]
def typeL:TypeV:=⟨tL,8000,16384,0,0,[],[⟨tA,tOd,300,true⟩]⟩
def typeT:TypeV:=⟨tS,2000,4096,0,0,[],[⟨tA,tOd,100,true⟩,⟨tA,tSpot,40,true⟩]⟩
def poolN (b:Int):PoolV:=⟨tP,1,100000,1073741824,[],[],1,0,b,2⟩
theorem typ_L:typE typeL=0:=yehY n_L (by decide) (by decide) (by decide) rfl (by unfold ofgsE tooE;rw [if_neg (by decide)];exact up1 (yegY n_A n_Od (by decide)))
theorem typ_T:typE typeT=0:=yehY n_S (by decide) (by decide) (by decide) rfl (by unfold ofgsE tooE;rw [if_neg (by decide)];exact up2 (yegY n_A n_Od (by decide)) (yoaY n_A yo9Y (by decide) (by decide)))
theorem y9aY:catE [typeL,typeT]=0:=by
 unfold catE tooE
 rw [if_neg (by decide)]
 refine up2 ?_ ?_
 ·unfold ctypE;rw [if_pos typ_L];rfl
 ·unfold ctypE;rw [if_pos typ_T];rfl
theorem yoiY {b:Int} (h:btw b 0 16=true):poolE (poolN b)=0:=yoeY n_P rfl rfl (yo8Y 8) rfl (by unfold poolN;simp only [h];rfl)
def budS (b:Int) (m:Bool):SnapV:=⟨9,5,20,10,60,30,[typeL,typeT],[],[poolN b],[nodeV tC1 tA,{ nodeV tC2 tA with marked:=m }],[],[],[],[]⟩
theorem off_base:isO [typeL,typeT] ⟨tS,tA,tOd⟩=true/\hasO [typeL,typeT] ⟨tS,tA,tOd⟩=(2000,4096):=⟨yohY y9aY rfl,by unfold hasO;rw [yekY y9aY];rfl⟩
theorem yemY (m:Bool):snapE (budS 1 m)=0:=by
 refine yofY rfl y9aY (by cases m<;>rfl) ?_ ?_ rfl rfl rfl rfl
 ·exact up1 (yogY (yoiY (by decide)) rfl)
 ·refine up2 (yejY (yeiY n_C1 n_A) rfl rfl off_base.1 (yelY off_base.1) off_base.2) (yejY (by cases m<;>exact yeiY n_C2 n_A) rfl rfl off_base.1 (yelY off_base.1) off_base.2)
theorem y70Y (m:Bool):y1dY (budS 1 m) [tC1]=0/\y1dY (budS 1 m) [tC2]=0/\y1dY (budS 1 m) [tC1,tC2]=0:=by cases m<;>exact ⟨rfl,rfl,rfl⟩
theorem yojY:mayE (budS 1 false) [tC1]=(true,0)/\mayE (budS 1 false) [tC1,tC2]=(false,0)/\mayE (budS 1 true) [tC1]=(false,0)/\mayE (budS 1 true) [tC2]=(true,0)/\yiY (budS 1 true) tP=(1,0):=by
 unfold mayE yiY
 rw [yemY,yemY,(y70Y false).1,(y70Y false).2.2,(y70Y true).1,(y70Y true).2.1]
 exact ⟨rfl,rfl,rfl,rfl,rfl⟩
theorem names_zero {s:SnapV} {l:List Str}:y1dY s l=0↔(∀ x∈l,y14Y s x=true)/\l.Nodup:=by
 have one:∀ x ah,y31Y s x ah=0↔y14Y s x=true/\x∉ah:=fun x ah=>by
  unfold y31Y
  cases y14Y s x with
  | false=>simp
  | true =>
    by_cases h:x∈ah
    ·have:ah.any (fun y=>decide (x=y))=true:=List.any_eq_true.2 ⟨x,h,by simp⟩
     simp [this,h]
    ·have:ah.any (fun y=>decide (x=y))=false:=by
      rw [List.any_eq_false]
      intro y hy
      simp only [decide_eq_true_eq]
      rintro rfl
      exact h hy
     simp [this,h]
 unfold y1dY
 rw [scan_up]
 constructor
 ·intro h
  refine ⟨fun x hx=>?_,?_⟩
  ·obtain ⟨i,hi⟩:=List.mem_iff_getElem?.1 hx
   exact ((one _ _).1 (h i x hi)).1
  ·unfold List.Nodup
   rw [List.pairwise_iff_getElem]
   intro i j hi hj hij e
   have h2:=((one _ _).1 (h j _ (List.getElem?_eq_getElem hj))).2
   refine h2 (List.mem_iff_getElem?.2 ⟨i,?_⟩)
   rw [List.getElem?_take,if_pos hij,List.getElem?_eq_getElem hi,e]
 ·rintro ⟨h1,h2⟩ i x hi
  refine (one _ _).2 ⟨h1 x (List.mem_of_getElem? hi),fun hm=>?_⟩
  obtain ⟨j,hj⟩:=List.mem_iff_getElem?.1 hm
  rw [List.getElem?_take] at hj
  split at hj
  ·obtain ⟨h3,h4⟩:=List.getElem?_eq_some_iff.1 hi
   obtain ⟨h5,h6⟩:=List.getElem?_eq_some_iff.1 hj
   unfold List.Nodup at h2
   exact (List.pairwise_iff_getElem.1 h2) j i h5 h3 ‹_› (by rw [h4,h6])
  ·simp at hj
theorem yokY {s:SnapV} {l:List Str} (h1:snapE s=0) (h2:y1dY s l=0):mayE s l=(!s.pools.any (overB s l),0):=by
 unfold mayE
 rw [if_neg (by simp [h1]),if_neg (by simp [h2])]
theorem yolY {s:SnapV} {l:List Str} (h:(mayE s l).2=0):snapE s=0/\y1dY s l=0:=by
 unfold mayE at h
 split at h
 ·exact absurd h ‹_›
 ·split at h
  ·exact absurd h ‹_›
  ·exact ⟨by omega,by omega⟩
theorem yenY {s:SnapV}:mayE s []=(decide (snapE s=0),snapE s):=by
 by_cases h:snapE s=0
 ·rw [yokY h rfl,h]
  have:s.pools.any (overB s [])=false:=by
   rw [List.any_eq_false]
   intro p _
   unfold overB y40Y
   simp
  rw [this]
  rfl
 ·unfold mayE
  rw [if_pos h]
  simp [h]
theorem yomY {s:SnapV} (h:snapE s=0) {p:PoolV} (hp:p∈s.pools):yiY s p.name=(goN s [] p.name,0):=by
 have hip:yzY s p.name=true:=List.any_eq_true.2 ⟨p,hp,by simp⟩
 unfold yiY
 rw [if_neg (by simp [h]),hip,if_pos rfl]
theorem yonY {s:SnapV} {n:Str} (h:(yiY s n).2≠0):(yiY s n).1=0:=by
 unfold yiY at h ⊢
 split
 ·rfl
 ·split
  ·exfalso;simp_all
  ·rfl
def bD (b:Bool):D:=.bool b
def goL (more:List Str) (l:List ClaimV):List (Str × Int):=l.foldl (fun m c=>if goesB more c then putA c.pool ((getA c.pool m).getD 0+1) m else m) []
theorem yooY (more:List Str) (l:List ClaimV) (c:ClaimV):goL more (l++[c])=if goesB more c then putA c.pool ((getA c.pool (goL more l)).getD 0+1) (goL more l) else goL more l:=by
 unfold goL
 rw [List.foldl_append]
 rfl
theorem yopY (s:SnapV) (more:List Str) (l:List ClaimV) (p:Str):0<=(getA p (goL more l)).getD 0/\(getA p (goL more l)).getD 0<=l.length:=by
 have h:=y91Y { s with claims:=l } more p
 have e:goM { s with claims:=l } more=goL more l:=rfl
 rw [e] at h
 rw [h]
 unfold goN
 have:=List.length_filter_le (fun c:ClaimV=>decide (c.pool=p)&&goesB more c) l
 simp only
 omega
def y2lY (s:SnapV) (x:Str):Str:=((s.claims.find? fun c=>decide (c.name=x)).getD ⟨[],[],0,⟨[],[],[]⟩,0,0,0,[],0,[],0,0,false⟩).pool
def askL (s:SnapV) (l:List Str):List (Str × Bool):=l.foldl (fun m x=>putA (y2lY s x) true m) []
theorem yoqY (s:SnapV) (l:List Str) (x:Str):askL s (l++[x])=putA (y2lY s x) true (askL s l):=by
 unfold askL
 rw [List.foldl_append]
 rfl
theorem yorY (s:SnapV) (p:Str) (l:List Str):(getA p (askL s l)).getD false=l.any fun x=>decide (y2lY s x=p):=by
 have key:∀ (l:List Str) (m:List (Str × Bool)),(getA p (l.foldl (fun m x=>putA (y2lY s x) true m) m)).getD false=((getA p m).getD false||l.any fun x=>decide (y2lY s x=p)):=by
  intro l
  induction l with
  | nil=>intro m;simp
  | cons x r ih =>
    intro m
    rw [List.foldl_cons,ih,y6vY]
    by_cases h:p=y2lY s x
    ·subst h;simp
    ·have h2:¬y2lY s x=p:=fun e=>h e.symm
     simp [h,h2]
 have:=key l []
 unfold askL
 rw [this]
 simp [getA]
theorem yosY {s:SnapV} (ok:OkSnap s) {l:List Str} (hn:y1dY s l=0) (p:Str):(getA p (askL s l)).getD false=y40Y s l p:=by
 rw [yorY]
 obtain ⟨h1,_⟩:=names_zero.1 hn
 have hof:∀ c∈s.claims,y2lY s c.name=c.pool:=fun c hc=>by
  have hf:s.claims.find? (fun y=>decide (y.name=c.name))=some c:=ym1Y ok hc
  unfold y2lY
  rw [hf]
  rfl
 unfold y40Y
 rw [Bool.eq_iff_iff]
 simp only [List.any_eq_true,Bool.and_eq_true,decide_eq_true_eq]
 constructor
 ·rintro ⟨x,hx,hp⟩
  have hi:=h1 x hx
  unfold y14Y at hi
  obtain ⟨c,hc,he⟩:=List.any_eq_true.1 hi
  clear hi
  simp only [decide_eq_true_eq] at he
  subst he
  exact ⟨c,hc,by rw [←hof c hc];exact hp,hx⟩
 ·rintro ⟨c,hc,hp,hx⟩
  exact ⟨c.name,hx,by rw [hof c hc];exact hp⟩
end Go.Proofs.AM
