/- Part 32 of the lemmas: APVg, APVh, APVi, ApPXc, ApPXd, PZi. -/
import Derived.Test.YtnbdmjbpgaeacaaGreatDoorM13
import Derived.Test.YtnbdmjbpgaeacaaGreatDoorM08
import Derived.Test.YtnbdmjbpgaeacaaGreatDoorM11
import Derived.Test.YtnbdmjbpgaeacaaGreatDoorM23
import Derived.Test.YtnbdmjbpgaeacaaGreatDoorM16
import Derived.Test.YtnbdmjbpgaeacaaGreatDoorM06
set_option maxRecDepth 100000
set_option maxHeartbeats 8000000
set_option linter.all false
namespace Go.Proofs.AM
open Go Go.Lib
theorem yp0Y {c:UInt8} {r:Str}:NameP (c::r)↔r.length<=15/\small c/\∀ x∈r,okc x:=by
 unfold NameP
 constructor
 ·rintro ⟨h1,h2,h3⟩
  refine ⟨by simpa using h2,(h3 0 c rfl).2 rfl,fun x hx=>?_⟩
  obtain ⟨j,hj⟩:=List.getElem?_of_mem hx
  exact (h3 (j+1) x (by simpa using hj)).1
 ·rintro ⟨h1,h2,h3⟩
  refine ⟨by simp,by simpa using h1,fun i x hx=>?_⟩
  cases i with
  | zero=>simp at hx;subst hx;exact ⟨.inl h2,fun _=>h2⟩
  | succ i=>exact ⟨h3 x (List.mem_of_getElem? (by simpa using hx)),by simp⟩
theorem y2pY (c:UInt8) (r:Str):nameB (c::r)=(decide (r.length<=15)&&decide (small c)&&r.all fun x=>decide (okc x)):=by
 rw [Bool.eq_iff_iff]
 unfold nameB
 simp only [decide_eq_true_eq,Bool.and_eq_true,List.all_eq_true]
 rw [yp0Y,and_assoc]
def zoneT:Str:=[122,111,110,101]
def genS:Str:=[103,101,110]
theorem yp1Y {s:Str} (h:nameB s=true):yoY s=true:=by rw [ydaY,h];rfl
theorem CheckP.val {s:SetV} (h:CheckP s) {z:Str} (hz:z∈s.l):yoY z=true:=by
 obtain ⟨j,hj⟩:=List.getElem?_of_mem hz
 exact h.ord.2.1 j z hj
theorem CheckP.inr {s:SetV} (h:CheckP s) (hu:s.u=true) {z:Str} (hz:z∈s.l):∃ n,numS z=some n/\s.lo<n/\n<s.hi:=by
 obtain ⟨j,hj⟩:=List.getElem?_of_mem hz
 exact (h.u hu).2.2.2.2 j z hj
theorem Rises.filter {l:List Str} (h:Rises l) (p:Str->Bool):Rises (l.filter p):=List.Pairwise.filter _ h
open Classical in
structure GoodK (l:List KeyV):Prop where
 nd:(l.map (·.k)).Nodup
 ck:∀ x∈l,CheckP x.s
def l1:ReqV:=⟨zoneT,1,[[97],[98],[99]],0⟩
def l2:ReqV:=⟨zoneT,2,[[98]],0⟩
theorem y79Y (n:Nat):reqsE n []=0:=by
 unfold reqsE tooE
 rw [if_neg (by simp),scan_at]
 simp
def g5:LabV:=⟨genS,[53]⟩
def tA:Str:=[97]
def tB:Str:=[98]
def tP:Str:=[112]
def tS:Str:=[115]
def tOd:Str:=[111,100]
def tC1:Str:=[99,49]
def tC2:Str:=[99,50]
def tC3:Str:=[99,51]
def tX:Str:=[120]
def tY:Str:=[121]
def tM:Str:=[109]
def tQ:Str:=[113]
theorem n_A:nameB tA=true:=by unfold tA;rw [y2pY];decide
theorem n_B:nameB tB=true:=by unfold tB;rw [y2pY];decide
theorem n_P:nameB tP=true:=by unfold tP;rw [y2pY];decide
theorem n_S:nameB tS=true:=by unfold tS;rw [y2pY];decide
theorem n_Od:nameB tOd=true:=by unfold tOd;rw [y2pY];decide
theorem n_C1:nameB tC1=true:=by unfold tC1;rw [y2pY];decide
theorem n_C2:nameB tC2=true:=by unfold tC2;rw [y2pY];decide
theorem n_C3:nameB tC3=true:=by unfold tC3;rw [y2pY];decide
theorem n_X:nameB tX=true:=by unfold tX;rw [y2pY];decide
theorem n_Y:nameB tY=true:=by unfold tY;rw [y2pY];decide
theorem n_M:nameB tM=true:=by unfold tM;rw [y2pY];decide
theorem n_Q:nameB tQ=true:=by unfold tQ;rw [y2pY];decide
theorem up1 {α:Type} {f:α->List α->Int} {x:α} (h:f x []=0):scanE (upE f [x]) [x].length=0:=by
 show y3Y [f x []]=0
 rw [h];rfl
theorem up2 {α:Type} {f:α->List α->Int} {x y:α} (h:f x []=0) (h2:f y [x]=0):scanE (upE f [x,y]) [x,y].length=0:=by
 show y3Y [f x [],f y [x]]=0
 rw [h,h2];rfl
theorem up3 {α:Type} {f:α->List α->Int} {x y z:α} (h:f x []=0) (h2:f y [x]=0) (h3:f z [x,y]=0):scanE (upE f [x,y,z]) [x,y,z].length=0:=by
 show y3Y [f x [],f y [x],f z [x,y]]=0
 rw [h,h2,h3];rfl
theorem yp2Y {x:OfgV} (h1:nameB x.z=true) (h2:nameB x.k=true) (h3:amtE x.p=0):ofgE x []=0:=by simp [ofgE,h1,h2,h3]
theorem yp3Y {x y:OfgV} (h1:nameB x.z=true) (h2:nameB x.k=true) (h3:amtE x.p=0) (h4:¬(y.z=x.z/\y.k=x.k)):ofgE x [y]=0:=by
 have:(decide (y.z=x.z)&&decide (y.k=x.k))=false:=by simpa using h4
 simp [ofgE,h1,h2,h3,this]
theorem yp4Y {t:TypeV} (h1:nameB t.name=true) (h2:amtsE t.c0 t.c1=0) (h3:amtsE t.v0 t.v1=0) (h4:fitsB t.v0 t.v1 t.c0 t.c1=true) (h5:y23Y t.labs=0) (h6:ofgsE t.offs=0):typE t=0:=by
 unfold typE
 rw [h1,h2,h3,h4,h5,h6]
 rfl
def nodeV (name zone:Str):ClaimV:=⟨name,tP,1,⟨tS,zone,tOd⟩,100,2000,4096,[⟨tS,zone,tOd⟩],1,name,3,0,false⟩
theorem yp5Y {o:OffV} (h:nmB o=true):offsE [o]=0:=by
 unfold offsE tooE
 rw [if_neg (by simp),up1 (by simp [offE,h])]
theorem nm_of {o:OffV} (h1:nameB o.t=true) (h2:nameB o.z=true) (h3:nameB o.k=true):nmB o=true:=by unfold nmB;rw [h1,h2,h3];rfl
theorem yp6Y {c:ClaimV} (h1:nameB c.name=true) (h2:nameB c.pool=true) (h3:nmB c.off=true) (h4:amtE c.price=0) (h5:amtsE c.c0 c.c1=0) (h6:offsE c.opts=0) (h7:btw c.tries 1 32=true) (h8:c.id.length<=16) (h9:(btw c.phase 1 4&&(btw c.gen 0 1099511627776&&btw c.born 0 1099511627776))=true):y1lY c=0:=by
 unfold y1lY
 have:decide ((c.id.length:Int)<=16)=true:=by simpa using by omega
 rw [h1,h2,h3,h4,h5,h6,h7,h9,this]
 rfl
theorem yp7Y {s:Str} (h:nameB s=true):s.length<=16:=yifY (yp1Y h)
theorem y9lY {name zone:Str} (h1:nameB name=true) (h2:nameB zone=true):y1lY (nodeV name zone)=0 :=
 yp6Y h1 n_P (nm_of n_S h2 n_Od) rfl rfl (yp5Y (nm_of n_S h2 n_Od)) rfl (yp7Y h1) rfl
theorem yp8Y {p:PoolV} (h1:nameB p.name=true) (h2:btw p.weight 0 100=true) (h3:amtsE p.l0 p.l1=0) (h4:reqsE 8 p.reqs=0) (h5:tntsE p.taints=0) (h6:(btw p.gen 0 1099511627776&&(btw p.expire 0 1073741824&&(btw p.budget 0 16&&btw p.merge 0 2)))=true):poolE p=0:=by
 unfold poolE
 rw [h1,h2,h3,h4,h5,h6]
 rfl
theorem y9mY {p:PodV} (h1:nameB p.name=true) (h2:nameB p.app=true) (h3:amtsE p.n0 p.n1=0) (h4:btw p.prio (-1000) 1000=true) (h5:reqsE 8 p.reqs=0) (h6:tolsE p.tols=0) (h7:allTE p.spr p.near p.apart=0) (h8:btw p.since 0 1099511627776=true) (h9:noneB p.on=true):podE p=0:=by
 unfold podE
 rw [h1,h2,h3,h4,h5,h6,h7,h8,h9]
 rfl
theorem yp9Y {s:SnapV} (h1:numsB s=true) (h2:catE s.types=0) (h3:y54Y s=true) (h4:y2jY s=0) (h5:y1vY s=0) (h6:podsE s=0) (h7:s.cmds=[]) (h8:s.cools=[]) (h9:s.insts=[]):snapE s=0:=by
 unfold snapE cmdsE y24Y y25Y
 rw [h1,h2,h3,h4,h5,h6,h7,h8,h9]
 rfl
theorem y9nY {s:SnapV} {c:ClaimV} {ah:List ClaimV} (h1:y1lY c=0) (h2:rizE (·.name) c ah=0) (h3:y1uY s c.pool=true) (h4:isO s.types c.off=true) (h5:yzY s.types c.opts=true) (h6:hasO s.types c.off=(c.c0,c.c1)):y3aY s c ah=0:=by
 unfold y3aY
 rw [if_pos h1,h2,h3,h4,h5,h6]
 simp [wantI,yeY]
theorem ypaY {s:SnapV} {p:PodV} {ah:List PodV} (h1:podE p=0) (h2:rizE (·.name) p ah=0) (h3:p.on=[]∨y1dY s p.on=true) (h4:p.since<=s.now):vpodE s p ah=0:=by
 unfold vpodE
 have:(decide (p.on=[])||y1dY s p.on)=true:=by
  rcases h3 with h|h<;>simp [h]
 rw [if_pos h1,h2,this,decide_eq_true h4]
 rfl
theorem ypbY {p:PoolV} {ah:List PoolV} (h1:poolE p=0) (h2:rizE (·.name) p ah=0):y39Y p ah=0:=by
 unfold y39Y
 rw [if_pos h1,h2]
theorem y9oY {l:List TypeV} (h:catE l=0) (o:OffV):findC l o=findT l o:=by unfold findC;rw [if_pos h]
theorem yeuY {l:List TypeV} (h:catE l=0) {o:OffV} (h2:(findT l o).isSome=true):isO l o=true:=by unfold isO;rw [y9oY h];exact h2
theorem y9pY {l:List TypeV} {o:OffV} (h:isO l o=true):yzY l [o]=true:=by unfold yzY;simp [h]
def typeZ:TypeV:=⟨tS,2000,4096,0,0,[],[⟨tA,tOd,100,true⟩,⟨tB,tOd,100,true⟩]⟩
def poolZ:PoolV:=⟨tP,0,9000,9000,[],[],1,0,0,0⟩
def podX (name app on:Str):PodV:=⟨name,app,0,0,0,[],[],[],[],[],0,on⟩
theorem cat_z:catE [typeZ]=0:=by
 unfold catE tooE
 rw [if_neg (by decide)]
 refine up1 ?_
 unfold ctypE
 rw [if_pos (yp4Y n_S (by decide) (by decide) (by decide) rfl (by unfold ofgsE tooE;rw [if_neg (by decide)];exact up2 (yp2Y n_A n_Od (by decide)) (yp3Y n_B n_Od (by decide) (by decide))))]
 rfl
theorem off_za:isO [typeZ] ⟨tS,tA,tOd⟩=true/\hasO [typeZ] ⟨tS,tA,tOd⟩=(2000,4096):=⟨yeuY cat_z rfl,by unfold hasO;rw [y9oY cat_z];rfl⟩
theorem off_zb:isO [typeZ] ⟨tS,tB,tOd⟩=true/\hasO [typeZ] ⟨tS,tB,tOd⟩=(2000,4096):=⟨yeuY cat_z rfl,by unfold hasO;rw [y9oY cat_z];rfl⟩
theorem ypcY:poolE poolZ=0:=yp8Y n_P (by decide) (by decide) (y79Y 8) rfl (by decide)
theorem ypdY {s:Str} (h:nameB s=true):noneB s=true:=by unfold noneB;rw [h];simp
theorem pod_x {name app on:Str} (h1:nameB name=true) (h2:nameB app=true) (h3:noneB on=true):podE (podX name app on)=0:=y9mY h1 h2 rfl rfl (y79Y 8) rfl rfl rfl h3
def nearS:SnapV:=⟨0,0,0,0,0,0,[typeZ],[podX tM tX tC1],[poolZ],[nodeV tC1 tA,nodeV tC2 tA,nodeV tC3 tB],[],[],[],[]⟩
theorem ypeY:snapE nearS=0:=by
 refine yp9Y (by decide) cat_z (by decide) (up1 (ypbY ypcY rfl)) ?_ ?_ rfl rfl rfl
 ·exact up3 (y9nY (y9lY n_C1 n_A) rfl rfl off_za.1 (y9pY off_za.1) off_za.2) (y9nY (y9lY n_C2 n_A) rfl rfl off_za.1 (y9pY off_za.1) off_za.2) (y9nY (y9lY n_C3 n_B) rfl rfl off_zb.1 (y9pY off_zb.1) off_zb.2)
 ·exact up1 (ypaY (pod_x n_M n_X (ypdY n_C1)) rfl (.inr rfl) (by decide))
def podNear:PodV:={ podX tQ tY [] with near:=[⟨zoneS,tX⟩] }
def podApart:PodV:={ podX tQ tY [] with apart:=[⟨zoneS,tX⟩] }
theorem yevY:termE zoneS tX=0:=by unfold termE;rw [n_X];rfl
theorem y9qY:podE podNear=0:=y9mY n_Q n_Y rfl rfl (y79Y 8) rfl (by
 unfold allTE
 rw [if_neg (by decide)]
 have:y1fY podNear.near=0:=by
  show y3Y [termE zoneS tX]=0
  rw [yevY];rfl
 rw [this]
 rfl) (by decide) rfl
theorem y9rY:podE podApart=0:=y9mY n_Q n_Y rfl rfl (y79Y 8) rfl (by
 unfold allTE
 rw [if_neg (by decide)]
 have:y1fY podApart.apart=0:=by
  show y3Y [termE zoneS tX]=0
  rw [yevY];rfl
 rw [this]
 rfl) (by decide) rfl
theorem ypfY:nearE nearS podNear tC1=(true,0)/\nearE nearS podNear tC2=(true,0)/\nearE nearS podNear tC3=(false,0)/\yfY nearS podApart tC1=(false,0)/\yfY nearS podApart tC2=(false,0)/\yfY nearS podApart tC3=(true,0):=by
 have b:∀ p c,podE p=0->y1dY nearS c=true->yhY nearS p c=0:=fun p c h1 h2=>begin_parts.2 ⟨ypeY,h1,h2⟩
 unfold nearE yfY
 rw [b _ _ y9qY rfl,b _ _ y9qY rfl,b _ _ y9qY rfl,b _ _ y9rY rfl,b _ _ y9rY rfl,b _ _ y9rY rfl]
 exact ⟨rfl,rfl,rfl,rfl,rfl,rfl⟩
end Go.Proofs.AM
