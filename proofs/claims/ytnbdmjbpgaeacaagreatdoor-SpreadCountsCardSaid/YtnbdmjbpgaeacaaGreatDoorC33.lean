/- Part 33 of the lemmas: APVg, APVh, APVi, ApPXc, ApPXd, PZi, PZj, PZk, AHa, AHb, AHc, PZl, AHd. -/
import Derived.Test.YtnbdmjbpgaeacaaGreatDoorC13
import Derived.Test.YtnbdmjbpgaeacaaGreatDoorC08
import Derived.Test.YtnbdmjbpgaeacaaGreatDoorC11
import Derived.Test.YtnbdmjbpgaeacaaGreatDoorC23
import Derived.Test.YtnbdmjbpgaeacaaGreatDoorC16
import Derived.Test.YtnbdmjbpgaeacaaGreatDoorC29
import Derived.Test.YtnbdmjbpgaeacaaGreatDoorC32
import Derived.Test.YtnbdmjbpgaeacaaGreatDoorC06
set_option maxRecDepth 100000
set_option maxHeartbeats 8000000
set_option linter.all false
namespace Go.Proofs.AM
open Go Go.Lib
theorem ypoY {c:UInt8} {r:Str}:NameP (c::r)↔r.length<=15/\small c/\∀ x∈r,okc x:=by
 unfold NameP
 constructor
 ·rintro ⟨h1,h2,h3⟩
  refine ⟨by simpa using h2,(h3 0 c rfl).2 rfl,fun x hx=>?_⟩
  obtain ⟨j,hj⟩:=List.getElem?_of_mem hx
  exact (h3 (j+1) x (by simpa using hj)).1
 ·rintro ⟨h1,h2,h3⟩
  refine ⟨by simp,by simpa using h1,fun i x hx=>?_⟩
  cases i with
  | zero=>simp at hx;subst hx;exact ⟨.inl h2,fun _=>h2⟩
  | succ i=>exact ⟨h3 x (List.mem_of_getElem? (by simpa using hx)),by simp⟩
theorem y2qY (c:UInt8) (r:Str):nameB (c::r)=(decide (r.length<=15)&&decide (small c)&&r.all fun x=>decide (okc x)):=by
 rw [Bool.eq_iff_iff]
 unfold nameB
 simp only [decide_eq_true_eq,Bool.and_eq_true,List.all_eq_true]
 rw [ypoY,and_assoc]
def zoneT:Str:=[122,111,110,101]
def genS:Str:=[103,101,110]
theorem yppY {s:Str} (h:nameB s=true):yiY s=true:=by rw [ye3Y,h];rfl
theorem CheckP.val {s:SetV} (h:CheckP s) {z:Str} (hz:z∈s.l):yiY z=true:=by
 obtain ⟨j,hj⟩:=List.getElem?_of_mem hz
 exact h.ord.2.1 j z hj
theorem CheckP.inr {s:SetV} (h:CheckP s) (hu:s.u=true) {z:Str} (hz:z∈s.l):∃ n,numS z=some n/\s.lo<n/\n<s.hi:=by
 obtain ⟨j,hj⟩:=List.getElem?_of_mem hz
 exact (h.u hu).2.2.2.2 j z hj
theorem Rises.filter {l:List Str} (h:Rises l) (p:Str->Bool):Rises (l.filter p):=List.Pairwise.filter _ h
open Classical in
structure GoodK (l:List KeyV):Prop where
 nd:(l.map (·.k)).Nodup
 ck:∀ x∈l,CheckP x.s
def l1:ReqV:=⟨zoneT,1,[[97],[98],[99]],0⟩
def l2:ReqV:=⟨zoneT,2,[[98]],0⟩
def l4:ReqV:=⟨zoneT,1,[[97]],0⟩
theorem yaqY (n:Nat):reqsE n []=0:=by
 unfold reqsE tooE
 rw [if_neg (by simp),scan_at]
 simp
def g5:LabV:=⟨genS,[53]⟩
def tA:Str:=[97]
def tB:Str:=[98]
def tP:Str:=[112]
def tS:Str:=[115]
def tOd:Str:=[111,100]
def tC1:Str:=[99,49]
def tC2:Str:=[99,50]
def tX:Str:=[120]
def tM:Str:=[109]
def tN:Str:=[110]
def tQ:Str:=[113]
theorem n_A:nameB tA=true:=by unfold tA;rw [y2qY];decide
theorem n_B:nameB tB=true:=by unfold tB;rw [y2qY];decide
theorem n_P:nameB tP=true:=by unfold tP;rw [y2qY];decide
theorem n_S:nameB tS=true:=by unfold tS;rw [y2qY];decide
theorem n_Od:nameB tOd=true:=by unfold tOd;rw [y2qY];decide
theorem n_C1:nameB tC1=true:=by unfold tC1;rw [y2qY];decide
theorem n_C2:nameB tC2=true:=by unfold tC2;rw [y2qY];decide
theorem n_X:nameB tX=true:=by unfold tX;rw [y2qY];decide
theorem n_M:nameB tM=true:=by unfold tM;rw [y2qY];decide
theorem n_N:nameB tN=true:=by unfold tN;rw [y2qY];decide
theorem n_Q:nameB tQ=true:=by unfold tQ;rw [y2qY];decide
theorem up1 {α:Type} {f:α->List α->Int} {x:α} (h:f x []=0):scanE (upE f [x]) [x].length=0:=by
 show y3Y [f x []]=0
 rw [h];rfl
theorem up2 {α:Type} {f:α->List α->Int} {x y:α} (h:f x []=0) (h2:f y [x]=0):scanE (upE f [x,y]) [x,y].length=0:=by
 show y3Y [f x [],f y [x]]=0
 rw [h,h2];rfl
theorem ypqY {x:OfgV} (h1:nameB x.z=true) (h2:nameB x.k=true) (h3:amtE x.p=0):ofgE x []=0:=by simp [ofgE,h1,h2,h3]
theorem yprY {x y:OfgV} (h1:nameB x.z=true) (h2:nameB x.k=true) (h3:amtE x.p=0) (h4:¬(y.z=x.z/\y.k=x.k)):ofgE x [y]=0:=by
 have:(decide (y.z=x.z)&&decide (y.k=x.k))=false:=by simpa using h4
 simp [ofgE,h1,h2,h3,this]
theorem ypsY {t:TypeV} (h1:nameB t.name=true) (h2:amtsE t.c0 t.c1=0) (h3:amtsE t.v0 t.v1=0) (h4:fitsB t.v0 t.v1 t.c0 t.c1=true) (h5:y22Y t.labs=0) (h6:ofgsE t.offs=0):typE t=0:=by
 unfold typE
 rw [h1,h2,h3,h4,h5,h6]
 rfl
def nodeV (name zone:Str):ClaimV:=⟨name,tP,1,⟨tS,zone,tOd⟩,100,2000,4096,[⟨tS,zone,tOd⟩],1,name,3,0,false⟩
theorem yptY {o:OffV} (h:nmB o=true):offsE [o]=0:=by
 unfold offsE tooE
 rw [if_neg (by simp),up1 (by simp [offE,h])]
theorem nm_of {o:OffV} (h1:nameB o.t=true) (h2:nameB o.z=true) (h3:nameB o.k=true):nmB o=true:=by unfold nmB;rw [h1,h2,h3];rfl
theorem ypuY {c:ClaimV} (h1:nameB c.name=true) (h2:nameB c.pool=true) (h3:nmB c.off=true) (h4:amtE c.price=0) (h5:amtsE c.c0 c.c1=0) (h6:offsE c.opts=0) (h7:btw c.tries 1 32=true) (h8:c.id.length<=16) (h9:(btw c.phase 1 4&&(btw c.gen 0 1099511627776&&btw c.born 0 1099511627776))=true):y19Y c=0:=by
 unfold y19Y
 have:decide ((c.id.length:Int)<=16)=true:=by simpa using by omega
 rw [h1,h2,h3,h4,h5,h6,h7,h9,this]
 rfl
theorem ypvY {s:Str} (h:nameB s=true):s.length<=16:=yjqY (yppY h)
theorem yftY {name zone:Str} (h1:nameB name=true) (h2:nameB zone=true):y19Y (nodeV name zone)=0 :=
 ypuY h1 n_P (nm_of n_S h2 n_Od) rfl rfl (yptY (nm_of n_S h2 n_Od)) rfl (ypvY h1) rfl
theorem ypwY {p:PoolV} (h1:nameB p.name=true) (h2:btw p.weight 0 100=true) (h3:amtsE p.l0 p.l1=0) (h4:reqsE 8 p.reqs=0) (h5:tntsE p.taints=0) (h6:(btw p.gen 0 1099511627776&&(btw p.expire 0 1073741824&&(btw p.budget 0 16&&btw p.merge 0 2)))=true):poolE p=0:=by
 unfold poolE
 rw [h1,h2,h3,h4,h5,h6]
 rfl
theorem yfuY {p:PodV} (h1:nameB p.name=true) (h2:nameB p.app=true) (h3:amtsE p.n0 p.n1=0) (h4:btw p.prio (-1000) 1000=true) (h5:reqsE 8 p.reqs=0) (h6:tolsE p.tols=0) (h7:allTE p.spr p.near p.apart=0) (h8:btw p.since 0 1099511627776=true) (h9:noneB p.on=true):podE p=0:=by
 unfold podE
 rw [h1,h2,h3,h4,h5,h6,h7,h8,h9]
 rfl
theorem ypxY {s:SnapV} (h1:numsB s=true) (h2:catE s.types=0) (h3:y4eY s=true) (h4:y2eY s=0) (h5:y1oY s=0) (h6:podsE s=0) (h7:s.cmds=[]) (h8:s.cools=[]) (h9:s.insts=[]):snapE s=0:=by
 unfold snapE cmdsE y23Y y24Y
 rw [h1,h2,h3,h4,h5,h6,h7,h8,h9]
 rfl
theorem yfvY {s:SnapV} {c:ClaimV} {ah:List ClaimV} (h1:y19Y c=0) (h2:rizE (·.name) c ah=0) (h3:y1nY s c.pool=true) (h4:isO s.types c.off=true) (h5:yqY s.types c.opts=true) (h6:hasO s.types c.off=(c.c0,c.c1)):y36Y s c ah=0:=by
 unfold y36Y
 rw [if_pos h1,h2,h3,h4,h5,h6]
 simp [wantI,ycY]
theorem yfwY {s:SnapV} {p:PodV} {ah:List PodV} (h1:podE p=0) (h2:rizE (·.name) p ah=0) (h3:p.on=[]∨y1aY s p.on=true) (h4:p.since<=s.now):vpodE s p ah=0:=by
 unfold vpodE
 have:(decide (p.on=[])||y1aY s p.on)=true:=by
  rcases h3 with h|h<;>simp [h]
 rw [if_pos h1,h2,this,decide_eq_true h4]
 rfl
theorem ypyY {p:PoolV} {ah:List PoolV} (h1:poolE p=0) (h2:rizE (·.name) p ah=0):y35Y p ah=0:=by
 unfold y35Y
 rw [if_pos h1,h2]
theorem yarY {l:List TypeV} (h:catE l=0) (o:OffV):findC l o=findT l o:=by unfold findC;rw [if_pos h]
theorem yfxY {l:List TypeV} (h:catE l=0) {o:OffV} (h2:(findT l o).isSome=true):isO l o=true:=by unfold isO;rw [yarY h];exact h2
theorem yfyY {l:List TypeV} {o:OffV} (h:isO l o=true):yqY l [o]=true:=by unfold yqY;simp [h]
def typeZ:TypeV:=⟨tS,2000,4096,0,0,[],[⟨tA,tOd,100,true⟩,⟨tB,tOd,100,true⟩]⟩
def poolZ:PoolV:=⟨tP,0,9000,9000,[],[],1,0,0,0⟩
def podX (name app on:Str):PodV:=⟨name,app,0,0,0,[],[],[],[],[],0,on⟩
theorem cat_z:catE [typeZ]=0:=by
 unfold catE tooE
 rw [if_neg (by decide)]
 refine up1 ?_
 unfold ctypE
 rw [if_pos (ypsY n_S (by decide) (by decide) (by decide) rfl (by unfold ofgsE tooE;rw [if_neg (by decide)];exact up2 (ypqY n_A n_Od (by decide)) (yprY n_B n_Od (by decide) (by decide))))]
 rfl
theorem off_za:isO [typeZ] ⟨tS,tA,tOd⟩=true/\hasO [typeZ] ⟨tS,tA,tOd⟩=(2000,4096):=⟨yfxY cat_z rfl,by unfold hasO;rw [yarY cat_z];rfl⟩
theorem off_zb:isO [typeZ] ⟨tS,tB,tOd⟩=true/\hasO [typeZ] ⟨tS,tB,tOd⟩=(2000,4096):=⟨yfxY cat_z rfl,by unfold hasO;rw [yarY cat_z];rfl⟩
theorem ypzY:poolE poolZ=0:=ypwY n_P (by decide) (by decide) (yaqY 8) rfl (by decide)
theorem yfzY {s:Str} (h:nameB s=true):noneB s=true:=by unfold noneB;rw [h];simp
theorem pod_x {name app on:Str} (h1:nameB name=true) (h2:nameB app=true) (h3:noneB on=true):podE (podX name app on)=0:=yfuY h1 h2 rfl rfl (yaqY 8) rfl rfl rfl h3
def sprS:SnapV:=⟨0,0,0,0,0,0,[typeZ],[podX tM tX tC1,podX tN tX tC1],[poolZ],[nodeV tC1 tA,nodeV tC2 tB],[],[],[],[]⟩
theorem yg0Y:snapE sprS=0:=by
 refine ypxY (by decide) cat_z (by decide) (up1 (ypyY ypzY rfl)) ?_ ?_ rfl rfl rfl
 ·exact up2 (yfvY (yftY n_C1 n_A) rfl rfl off_za.1 (yfyY off_za.1) off_za.2) (yfvY (yftY n_C2 n_B) rfl rfl off_zb.1 (yfyY off_zb.1) off_zb.2)
 ·exact up2 (yfwY (pod_x n_M n_X (yfzY n_C1)) rfl (.inr rfl) (by decide)) (yfwY (pod_x n_N n_X (yfzY n_C1)) rfl (.inr rfl) (by decide))
def y2vY (n:Int):PodV:={ podX tQ tX [] with spr:=[⟨zoneS,tX,n⟩] }
theorem yq0Y:termE zoneS tX=0:=by unfold termE;rw [n_X];rfl
theorem yasY {n:Int} (h:btw n 1 16=true):podE (y2vY n)=0:=yfuY n_Q n_X rfl rfl (yaqY 8) rfl (by
 unfold allTE
 rw [if_neg (by simp [y2vY,podX])]
 have:sprsE (y2vY n).spr=0:=by
  show y3Y [sprE ⟨zoneS,tX,n⟩]=0
  have:sprE ⟨zoneS,tX,n⟩=0:=by
   unfold sprE
   simp only [yq0Y,h,if_true]
  rw [this];rfl
 rw [this]
 rfl) rfl rfl
theorem yq1Y:sfitE sprS (y2vY 1) tC1=(false,0)/\sfitE sprS (y2vY 1) tC2=(true,0)/\sfitE sprS (y2vY 3) tC1=(true,0)/\domsE sprS zoneS tX tM tC1=([⟨zoneS,tA,1⟩,⟨zoneS,tB,0⟩],0):=by
 have b:∀ p c,podE p=0->y1aY sprS c=true->y1pY sprS p c=0:=fun p c h1 h2=>begin_parts.2 ⟨yg0Y,h1,h2⟩
 unfold sfitE domsE
 rw [b _ _ (yasY (by decide)) rfl,b _ _ (yasY (by decide)) rfl,b _ _ (yasY (by decide)) rfl,yg0Y]
 exact ⟨rfl,rfl,rfl,rfl⟩
theorem y38Y {α:Type} {motive:List α->Prop} (nil:motive []) (snoc:∀ l x,motive l->motive (l++[x])) (l:List α):motive l:=by
 suffices h:∀ r:List α,motive r.reverse by simpa using h l.reverse
 intro r
 induction r with
 | nil=>simpa using nil
 | cons x r ih=>simpa using snoc _ x ih
def kT:Bool × List (Nat × EqT):=(true,[(0,.str),(1,.str),(2,.int .i64)])
def keyD (key v:Str):D:=domD ⟨key,v,0⟩
theorem y6jY (key a b:Str):keyEq kT (keyD key a) (keyD key b)=some (decide (a=b)):=by
 unfold keyEq
 have h:y13Y (.int .i64) (some (jI 0)) (some (jI 0))=some true:=rfl
 simp [kT,keyD,domD,y27Y,D.cells,ylY,y7mY,h]
theorem yg1Y (key v:Str):Clean (keyD key v):=⟨rfl,rfl⟩
def cntL (s:SnapV) (key app but:Str) (l:List PodV):List (Str × Int) :=
 l.foldl (fun m p=>match ygY s p.on with|some c=>if decide (p.app=app)&&!decide (p.name=but) then putA (domOf key c) ((getA (domOf key c) m).getD 0+1) m else m|none=>m) []
theorem yg2Y (s:SnapV) (key app but:Str) (l:List PodV) (p:PodV):cntL s key app but (l++[p]) =
 match ygY s p.on with|some c=>if decide (p.app=app)&&!decide (p.name=but) then putA (domOf key c) ((getA (domOf key c) (cntL s key app but l)).getD 0+1) (cntL s key app but l) else cntL s key app but l|none=>cntL s key app but l:=by
 unfold cntL
 rw [List.foldl_append]
 rfl
theorem yg3Y (s:SnapV) (key app but v:Str) (l:List PodV):(getA v (cntL s key app but l)).getD 0=((l.filter (inDom s key app but v)).length:Int):=by
 induction l using y38Y with
 | nil=>rfl
 | snoc l p ih =>
   rw [yg2Y,List.filter_append,List.length_append]
   have hone:List.filter (inDom s key app but v) [p]=if inDom s key app but v p then [p] else []:=by cases h:inDom s key app but v p<;>simp [h]
   rw [hone]
   have hd:inDom s key app but v p=(match ygY s p.on with|some c=>decide (p.app=app)&&(!decide (p.name=but)&&decide (domOf key c=v))|none=>false):=rfl
   rw [hd]
   clear hone hd
   cases hc:ygY s p.on with
   | none=>simpa using ih
   | some c =>
     simp only
     by_cases h1:p.app=app
     ·by_cases h2:p.name=but
      ·simp [h1,h2,ih]
      ·by_cases h3:domOf key c=v
       ·subst h3
        simp [h1,h2,y7pY,ih]
       ·have h4:¬v=domOf key c:=fun e=>h3 e.symm
        simp [h1,h2,h3,y7pY,h4,ih]
     ·simp [h1,ih]
theorem yq2Y (s:SnapV) (key app but v:Str) (l:List PodV):0<=(getA v (cntL s key app but l)).getD 0/\(getA v (cntL s key app but l)).getD 0<=l.length:=by
 rw [yg3Y]
 have:=List.length_filter_le (inDom s key app but v) l
 omega
def y2wY (l:List Str):List Str:=l.foldl insS []
theorem y7wY (l:List Str) (x:Str):y2wY (l++[x])=insS (y2wY l) x:=by unfold y2wY;rw [List.foldl_append];rfl
theorem yq3Y (l:List Str):(y2wY l).Nodup:=by
 induction l using y38Y with
 | nil=>exact List.nodup_nil
 | snoc l x ih=>rw [y7wY];exact ye8Y ih
theorem yq4Y {l:List Str} {z:Str}:z∈y2wY l↔z∈l:=by
 induction l using y38Y with
 | nil=>simp [y2wY]
 | snoc l x ih=>rw [y7wY,y9wY,ih];simp
theorem yq5Y (l:List Str):(y2wY l).length<=l.length:=by
 induction l using y38Y with
 | nil=>simp [y2wY]
 | snoc l x ih=>rw [y7wY];have:=ye9Y (y2wY l) x;simp;omega
def cameL (key claim:Str) (l:List ClaimV):List Str:=y2wY ((l.filter (y25Y claim)).map (domOf key))
theorem yq6Y (key claim:Str) (l:List ClaimV) (c:ClaimV):cameL key claim (l++[c])=if y25Y claim c then insS (cameL key claim l) (domOf key c) else cameL key claim l:=by
 unfold cameL
 rw [List.filter_append]
 cases h:y25Y claim c
 ·simp [h]
 ·simp only [List.filter_cons,h,if_true,List.filter_nil,List.map_append,List.map_cons,List.map_nil]
  rw [y7wY]
theorem yg4Y (key claim:Str) (l:List ClaimV):(cameL key claim l).length<=l.length:=by
 unfold cameL
 have h1:=yq5Y ((l.filter (y25Y claim)).map (domOf key))
 have h2:=List.length_filter_le (y25Y claim) l
 rw [List.length_map] at h1
 omega
theorem yq7Y (s:SnapV) (key claim:Str):(cameL key claim s.claims).Perm (domV s key claim):=by
 refine (List.perm_ext_iff_of_nodup (yq3Y _) (y4cY _).nodup).2 fun z=>?_
 rw [yq4Y,y3jY]
def seenB (v:Bool):D:=.bool v
def seenL (l:List Str):List (Str × Bool):=l.map fun v=>(v,true)
theorem yq8Y (l:List Str) (v:Str):getA v (seenL l)=if v∈l then some true else none:=by
 unfold seenL getA
 induction l with
 | nil=>rfl
 | cons x r ih =>
   simp only [List.map_cons,List.find?_cons]
   by_cases h:x=v
   ·subst h;simp
   ·have h2:¬v=x:=fun e=>h e.symm
    simp only [h,decide_false,List.mem_cons,h2,false_or]
    exact ih
theorem yq9Y {l:List Str} {v:Str} (h:v∉l):putA v true (seenL l)=seenL (l++[v]):=by
 induction l with
 | nil=>rfl
 | cons x r ih =>
   have h1:¬x=v:=fun e=>h (by simp [e])
   have ih':=ih fun hm=>h (by simp [hm])
   unfold seenL at ih' ⊢
   simp only [List.map_cons,putA,if_neg h1,List.cons_append]
   rw [ih']
def domM (s:SnapV) (key app but:Str) (v:Str):DomV:=⟨key,v,y1cY s key app but v⟩
theorem y3qY (s:SnapV) (key app but claim:Str):domsL s key app but claim=(domV s key claim).map (domM s key app but):=rfl
theorem y39Y (l:List DomV):CleanL (l.map domD):=y8Y (fun _=>⟨rfl,rfl⟩) rfl
def OrdV (l:List DomV):Prop:=l.Pairwise fun a b=>a.v<b.v
theorem yqaY (s:SnapV) (key app but claim:Str):OrdV (domsL s key app but claim):=by
 unfold OrdV
 rw [y3qY,List.pairwise_map]
 exact y4cY _
theorem yg5Y (s:SnapV) (key app but claim:Str):((cameL key claim s.claims).map (domM s key app but)).Perm (domsL s key app but claim):=by
 rw [y3qY]
 exact (yq7Y s key claim).map _
theorem y6kY (s:SnapV) (key app but claim:Str):(domsL s key app but claim).length<=s.claims.length:=by
 rw [←(yg5Y s key app but claim).length_eq,List.length_map]
 exact yg4Y _ _ _
def putsL (key claim:Str) (l:List ClaimV):List Str:=ydY ((l.filter (y25Y claim)).map (domOf key))
theorem yqbY (key claim:Str) (l:List ClaimV) (c:ClaimV):putsL key claim (l++[c])=if y25Y claim c then putS (domOf key c) (putsL key claim l) else putsL key claim l:=by
 unfold putsL
 rw [List.filter_append]
 cases h:y25Y claim c
 ·simp [h]
 ·simp only [List.filter_cons,h,if_true,List.filter_nil,List.map_append,List.map_cons,List.map_nil]
  unfold ydY
  rw [List.foldl_append]
  rfl
theorem yqcY (key claim:Str) (l:List ClaimV):(putsL key claim l).length<=l.length:=by
 unfold putsL
 have h1:=y7fY ((l.filter (y25Y claim)).map (domOf key))
 have h2:=List.length_filter_le (y25Y claim) l
 rw [List.length_map] at h1
 omega
end Go.Proofs.AM
namespace Go.Proofs.AM
open Go Go.Lib Cd
theorem yqdY (R:Ans) (y:ClaimV) (n:Str):AnsF R c127 [y5Y y,.vptr (.agg [mkS n]) 0] (.bool (decide (y.name=n))):=by
 obtain ⟨r,hr⟩:∃ r,r=decide (y.name=n):=⟨_,rfl⟩
 rw [←hr]
 obtain ⟨u,hu⟩:∃ u,u=y5Y y:=⟨_,rfl⟩
 rw [←hu]
 obtain ⟨ynm,ypo,yge,⟨yot,yoz,yok⟩,ypr,yc0,yc1,yos,ytr,yid,yph,ybo,yma⟩:=y
 simp only [y5Y,y12Y] at hr hu
 obtain ⟨xyos,hxyos⟩:∃ xs,xs=yos.map offD:=⟨_,rfl⟩
 have cxyos:CleanL xyos:=by rw [hxyos];exact y11Y _
 simp only [←hxyos] at hr hu
 subst hu
 refine y2Y ⟨rfl,by decide⟩ fun O hO V hV=>?_
 subst hV
 conv=>cbv
 repeat' (rintro (_|_) h<;>(first|replace h:=ci hO h|replace h:=cs hO h)<;>(dsimp only [CmpI,CmpS] at h)<;>(conv=>cbv))
 all_goals (rw [hr];simp_all)
theorem yqeY (R:Ans) (s:SnapV) (n:Str) (hl:s.claims.length<4611686018427387904) (h50:R.v 50 [.sl 15 false (s.claims.map y5Y),.fn 127 [] [.vptr (.agg [mkS n]) 0]] (jI (idxI (fun y:ClaimV=>decide (y.name=n)) s.claims))):AnsF R c79 [snapD s,mkS n] (.tup [y5Y ((ygY s n).getD zeroC),.bool (ygY s n).isSome]):=by
 obtain ⟨ix,hix⟩:∃ w,w=idxI (fun y:ClaimV=>decide (y.name=n)) s.claims:=⟨_,rfl⟩
 obtain ⟨rd,hrd⟩:∃ r,r=D.tup [y5Y ((ygY s n).getD zeroC),.bool (ygY s n).isSome]:=⟨_,rfl⟩
 rw [←hrd]
 rw [←hix] at h50
 have g1:ix<0->rd=D.tup [.agg [mkS [],mkS [],jI 0,mkS [],mkS [],mkS [],jI 0,jI 0,jI 0,.sl 3 false [],jI 0,mkS [],jI 0,jI 0,.bool false],.bool false]:=fun h=>by
  rcases yfoY (fun y:ClaimV=>decide (y.name=n)) s.claims with ⟨_,h4⟩|⟨k,y,_,h4,_⟩
  ·have hc:ygY s n=none:=h4
   rw [hrd,hc]
   rfl
  ·omega
 have g2:0<=ix->∃ (k:Nat) (y:ClaimV),k<s.claims.length/\ix=k/\s.claims[k]?=some y/\rd=D.tup [y5Y y,.bool true]:=fun h=>by
  rcases yfoY (fun y:ClaimV=>decide (y.name=n)) s.claims with ⟨h4,_⟩|⟨k,y,h3,h4,h5,h6⟩
  ·omega
  ·have hcl:ygY s n=some y:=h6
   exact ⟨k,y,h3,by rw [hix,h4],h5,by rw [hrd,hcl];rfl⟩
 clear hrd hix
 obtain ⟨ty,po,pl,cl,cm,co,is,no,hce,hsn,cty,cpo,cpl,ccl,ccm,cco,cis,cno⟩:=yxY s
 rw [hsn]
 rw [←hce.cl] at h50
 have hxs:=hce.cl
 have hg:0<=ix->∃ y:ClaimV,atX cl ix (y5Y y)/\ix<s.claims.length/\rd=D.tup [y5Y y,.bool true]:=fun h=>by
  obtain ⟨k,y,e1,e2,e3,e4⟩:=g2 h
  exact ⟨y,y7Y e3 hxs e2,by omega,e4⟩
 clear g2 hce hsn hxs
 refine y2Y ⟨rfl,by decide⟩ fun O hO V hV=>?_
 subst hV
 conv=>cbv
 repeat' (first|(refine And.intro (by first|assumption|exact ⟨by omega⟩|exact ⟨rfl,rfl⟩|exact ⟨rfl⟩|exact ⟨rfl,rfl⟩) ?_)|(intro (g:Nat);(conv=>cbv)))
 refine ⟨_,h50,?_⟩
 conv=>cbv
 rintro (_|_) h3<;>replace h3:=ci hO h3<;>dsimp only [CmpI] at h3<;>(conv=>cbv)
 case true =>
  have hfin:=g1 h3
  conv at hfin=>rhs;cbv
  repeat' (refine And.intro ⟨rfl,rfl⟩ ?_)
  exact hfin.symm
 obtain ⟨y,hat,hlt,hfin⟩:=hg (by omega)
 clear hg g1
 obtain ⟨ynm,ypo,yge,⟨yot,yoz,yok⟩,ypr,yc0,yc1,yos,ytr,yid,yph,ybo,yma⟩:=y
 simp only [y5Y,y12Y] at hat hfin
 obtain ⟨xyos,hxyos⟩:∃ xs,xs=yos.map offD:=⟨_,rfl⟩
 have cxyos:CleanL xyos:=by rw [hxyos];exact y11Y _
 simp only [←hxyos] at hat hfin
 refine ⟨_,hat,?_⟩
 conv=>cbv
 repeat' (first|(refine And.intro (by first|assumption|exact ⟨by omega⟩|exact ⟨rfl,rfl⟩|exact ⟨rfl⟩|exact ⟨rfl,rfl⟩) ?_)|(intro (g:Nat);(conv=>cbv)))
 exact hfin.symm
theorem yqfY (R:Ans) (key:Str) (c:ClaimV):AnsF R c83 [mkS key,y5Y c] (keyD key (domOf key c)):=by
 obtain ⟨rd,hrd⟩:∃ r,r=keyD key (domOf key c):=⟨_,rfl⟩
 rw [←hrd]
 have g1:key=zoneS->rd=.agg [mkS key,mkS c.off.z,jI 0]:=fun h=>by rw [hrd];unfold domOf;rw [if_pos h];rfl
 have g2:¬key=zoneS->rd=.agg [mkS key,mkS c.name,jI 0]:=fun h=>by rw [hrd];unfold domOf;rw [if_neg h];rfl
 unfold zoneS at g1 g2
 clear hrd
 obtain ⟨ynm,ypo,yge,⟨yot,yoz,yok⟩,ypr,yc0,yc1,yos,ytr,yid,yph,ybo,yma⟩:=c
 simp only [y5Y,y12Y] at g1 g2 ⊢
 obtain ⟨xyos,hxyos⟩:∃ xs,xs=yos.map offD:=⟨_,rfl⟩
 have cxyos:CleanL xyos:=by rw [hxyos];exact y11Y _
 simp only [←hxyos] at g1 g2 ⊢
 refine y2Y ⟨rfl,by decide⟩ fun O hO V hV=>?_
 subst hV
 conv=>cbv
 rintro (_|_) h3<;>replace h3:=cs hO h3<;>dsimp only [CmpS] at h3<;>(conv=>cbv)
 case true =>
  have hfin:=g1 h3
  repeat' (first|(refine And.intro (by first|assumption|exact ⟨by omega⟩|exact ⟨rfl,rfl⟩|exact ⟨rfl⟩|exact ⟨rfl,rfl⟩) ?_)|(intro (g:Nat);(conv=>cbv)))
  exact hfin.symm
 have hfin:=g2 h3
 repeat' (first|(refine And.intro (by first|assumption|exact ⟨by omega⟩|exact ⟨rfl,rfl⟩|exact ⟨rfl⟩|exact ⟨rfl,rfl⟩) ?_)|(intro (g:Nat);(conv=>cbv)))
 exact hfin.symm
theorem yqgY (R:Ans) (s:SnapV) (hl:s.pods.length<4611686018427387904) (key app but:Str) (h79:∀ n,R.v 79 [snapD s,mkS n] (.tup [y5Y ((ygY s n).getD zeroC),.bool (ygY s n).isSome])) (h83:∀ c,R.v 83 [mkS key,y5Y c] (keyD key (domOf key c))):AnsF R c128 [snapD s,mkS key,mkS app,mkS but] (.mapv ((cntL s key app but s.pods).map (entA (keyD key) iD))):=by
 obtain ⟨rs,hrs⟩:∃ r,r=(cntL s key app but s.pods).map (entA (keyD key) iD):=⟨_,rfl⟩
 have crs:CleanL rs:=by rw [hrs];exact yadY (keyD key) iD (yg1Y key) (fun v=>⟨rfl,rfl⟩) _
 rw [←hrs]
 have hbd:=fun v=>yq2Y s key app but v
 have hsn0:=yg2Y s key app but
 obtain ⟨CN,hCN⟩:∃ C,C=cntL s key app but:=⟨_,rfl⟩
 rw [←hCN] at hrs hsn0
 simp only [←hCN] at hbd
 obtain ⟨CO,hCO⟩:∃ C,C=ygY s:=⟨_,rfl⟩
 rw [←hCO] at h79 hsn0
 have h0:CN []=[]:=by rw [hCN];rfl
 clear hCN hCO
 obtain ⟨ty,po,pl,cl,cm,co,is,no,hce,hsn,cty,cpo,cpl,ccl,ccm,cco,cis,cno⟩:=yxY s
 rw [hsn] at h79 ⊢
 have hxs:=hce.po
 obtain ⟨l,hl0⟩:∃ l,l=s.pods:=⟨_,rfl⟩
 rw [←hl0] at hl hrs hxs
 clear hce hsn hl0
 refine y2Y ⟨rfl,by decide⟩ fun O hO V hV=>?_
 subst hV
 have hlen:O .len po=l.length:=by rw [o_len hO,hxs];simp
 conv=>cbv
 repeat' (first|(refine And.intro (by first|assumption|exact ⟨by omega⟩|exact ⟨by rw [hlen];omega⟩|exact ⟨rfl,rfl⟩|exact ⟨rfl⟩|exact ⟨rfl,rfl⟩) ?_)|(intro (g:Nat);(conv=>cbv)))
 refine y4Y (fun n d=>∃ (i:Int) (k:Nat) (c:Int) (es:List D),d=⟨[(1,mkS key),(2,mkS app),(3,mkS but),(4,.ptr 4 1 0),(9,.mapr 14 1),(16,.sl 12 false po),(17,jI (O .len po)),(18,jI i)],[(4,⟨1,.rw,.var,(sB s ty po pl cl cm co is no)⟩),(14,⟨1,.rw,.map,jI c::es⟩)],false⟩/\i=k/\k<=l.length/\n=l.length-k/\es=(CN (l.take k)).map (entA (keyD key) iD)) ⟨_,_,⟨_,0,_,[],rfl,rfl,by omega,rfl,by rw [List.take_zero,h0];rfl⟩,⟨⟨rfl,rfl,rfl,rfl,rfl,rfl,rfl,rfl,trivial⟩,⟨rfl,rfl,trivial⟩,rfl⟩⟩ ?_
 rintro J up n d ⟨i,k,c,es,rfl,hi,hk,rfl,hes⟩
 conv=>cbv
 rintro (_|_) h1<;>(conv=>cbv)
 ·replace h1:=f_lss hO h1
  rw [hlen] at h1
  rw [List.take_of_length_le (by omega),←hrs] at hes
  rw [hes]
  exact ⟨crs,by first|trivial|rfl⟩
 replace h1:=t_lss hO h1
 rw [hlen] at h1
 obtain ⟨y,hy⟩:∃ y,l[k]?=some y:=⟨_,List.getElem?_eq_getElem (by omega)⟩
 have hat:atX po i (podD y):=y7Y hy hxs hi
 have hk1:=h79 y.on
 obtain ⟨cx,hcx⟩:∃ cx,cx=(CO y.on).getD zeroC:=⟨_,rfl⟩
 obtain ⟨q,hq⟩:∃ q,q=(CO y.on).isSome:=⟨_,rfl⟩
 have hk83:=h83 cx
 rw [←hcx,←hq] at hk1
 obtain ⟨v,hv⟩:∃ v,v=domOf key cx:=⟨_,rfl⟩
 rw [←hv] at hk83
 have hlt:=List.length_take_le k l
 have hub:=hbd v (l.take k)
 have hsn2:=hsn0 (l.take k) y
 have htk:l.take (k+1)=l.take k++[y]:=by rw [List.take_add_one,hy];rfl
 obtain ⟨M,hM⟩:∃ M,M=CN (l.take k):=⟨_,rfl⟩
 rw [←hM] at hes hub hsn2
 obtain ⟨u,hu⟩:∃ u,u=(getA v M).getD 0:=⟨_,rfl⟩
 rw [←hu] at hub
 rw [←htk] at hsn2
 have hgo:CN (l.take (k+1))=if q&&(decide (y.app=app)&&!decide (y.name=but)) then putA v (u+1) M else M:=by
  rw [hsn2]
  cases hc:CO y.on with
  | none=>rw [hc] at hq;rw [hq];rfl
  | some c0 =>
    rw [hc] at hq hcx
    simp only [Option.getD_some] at hcx
    subst hcx
    rw [hq,hu,hv]
    rfl
 have hn:(q&&(decide (y.app=app)&&!decide (y.name=but)))=false->es=(CN (l.take (k+1))).map (entA (keyD key) iD):=fun h=>by rw [hgo,h,hes];rfl
 have hp:(q&&(decide (y.app=app)&&!decide (y.name=but)))=true->(putA v (u+1) M).map (entA (keyD key) iD)=(CN (l.take (k+1))).map (entA (keyD key) iD):=fun h=>by rw [hgo,h];rfl
 have hlk:=y6dY kT (keyD key) iD (y6jY key) v M
 have hput:=y7oY kT (keyD key) iD (y6jY key) v (u+1) M
 rw [←hes] at hlk hput
 simp only [kT,keyD,domD] at hlk hput hk83
 clear hgo hsn2 htk hM hy h79 h83 hbd hsn0 hcx hq hv
 obtain ⟨es3,hes3⟩:∃ e,e=(putA v (u+1) M).map (entA (keyD key) iD):=⟨_,rfl⟩
 rw [←hes3] at hp hput
 clear hes3
 obtain ⟨ynm,yap,yn0,yn1,ypr,yrs,yts,yss,yns,yas,ysi,yon⟩:=y
 simp only [podD,podC] at hat hk1 hn hp
 obtain ⟨xyrs,hxyrs⟩:∃ xs,xs=yrs.map reqD:=⟨_,rfl⟩
 have cxyrs:CleanL xyrs:=by rw [hxyrs];exact y1bY _
 simp only [←hxyrs] at hat hk1 hn hp
 obtain ⟨xyts,hxyts⟩:∃ xs,xs=yts.map tolD:=⟨_,rfl⟩
 have cxyts:CleanL xyts:=by rw [hxyts];exact y2fY _
 simp only [←hxyts] at hat hk1 hn hp
 obtain ⟨xyss,hxyss⟩:∃ xs,xs=yss.map sprD:=⟨_,rfl⟩
 have cxyss:CleanL xyss:=by rw [hxyss];exact y2bY _
 simp only [←hxyss] at hat hk1 hn hp
 obtain ⟨xyns,hxyns⟩:∃ xs,xs=yns.map labD:=⟨_,rfl⟩
 have cxyns:CleanL xyns:=by rw [hxyns];exact yeY _
 simp only [←hxyns] at hat hk1 hn hp
 obtain ⟨xyas,hxyas⟩:∃ xs,xs=yas.map labD:=⟨_,rfl⟩
 have cxyas:CleanL xyas:=by rw [hxyas];exact yeY _
 simp only [←hxyas] at hat hk1 hn hp
 obtain ⟨znm,zpo,zge,⟨zot,zoz,zok⟩,zpr,zc0,zc1,zos,ztr,zid,zph,zbo,zma⟩:=cx
 simp only [y5Y,y12Y] at hk1 hk83
 obtain ⟨xzos,hxzos⟩:∃ xs,xs=zos.map offD:=⟨_,rfl⟩
 have cxzos:CleanL xzos:=by rw [hxzos];exact y11Y _
 simp only [←hxzos] at hk1 hk83
 refine ⟨_,hat,?_⟩
 conv=>cbv
 repeat' (first|(refine And.intro (by first|assumption|exact ⟨by omega⟩|exact ⟨by rw [hlen];omega⟩|exact ⟨rfl,rfl⟩|exact ⟨rfl⟩|exact ⟨rfl,rfl⟩) ?_)|(intro (g:Nat);(conv=>cbv)))
 refine ⟨_,hk1,?_⟩
 conv=>cbv
 repeat' (first|(refine And.intro (by first|assumption|exact ⟨by omega⟩|exact ⟨by rw [hlen];omega⟩|exact ⟨rfl,rfl⟩|exact ⟨rfl⟩|exact ⟨rfl,rfl⟩) ?_)|(intro (g:Nat);(conv=>cbv)))
 cases q<;>(conv=>cbv)
 case false=>exact ⟨_,_,up _ _ ⟨_,k+1,_,_,rfl,by rw [y0Y hO (by omega) (by omega)];omega,by omega,rfl,hn rfl⟩,⟨⟨rfl,rfl,rfl,rfl,rfl,rfl,rfl,rfl,trivial⟩,⟨rfl,rfl,trivial⟩,rfl⟩,by omega⟩
 repeat' (first|(refine And.intro (by first|assumption|exact ⟨by omega⟩|exact ⟨by rw [hlen];omega⟩|exact ⟨rfl,rfl⟩|exact ⟨rfl⟩|exact ⟨rfl,rfl⟩) ?_)|(intro (g:Nat);(conv=>cbv)))
 rintro (_|_) a1<;>replace a1:=cs hO a1<;>dsimp only [CmpS] at a1<;>(conv=>cbv)
 case false=>exact ⟨_,_,up _ _ ⟨_,k+1,_,_,rfl,by rw [y0Y hO (by omega) (by omega)];omega,by omega,rfl,hn (by simp [a1])⟩,⟨⟨rfl,rfl,rfl,rfl,rfl,rfl,rfl,rfl,trivial⟩,⟨rfl,rfl,trivial⟩,rfl⟩,by omega⟩
 repeat' (first|(refine And.intro (by first|assumption|exact ⟨by omega⟩|exact ⟨by rw [hlen];omega⟩|exact ⟨rfl,rfl⟩|exact ⟨rfl⟩|exact ⟨rfl,rfl⟩) ?_)|(intro (g:Nat);(conv=>cbv)))
 rintro (_|_) a2<;>replace a2:=cs hO a2<;>dsimp only [CmpS] at a2<;>(conv=>cbv)
 case false=>exact ⟨_,_,up _ _ ⟨_,k+1,_,_,rfl,by rw [y0Y hO (by omega) (by omega)];omega,by omega,rfl,hn (by simp [a1,a2])⟩,⟨⟨rfl,rfl,rfl,rfl,rfl,rfl,rfl,rfl,trivial⟩,⟨rfl,rfl,trivial⟩,rfl⟩,by omega⟩
 repeat' (first|(refine And.intro (by first|assumption|exact ⟨by omega⟩|exact ⟨by rw [hlen];omega⟩|exact ⟨rfl,rfl⟩|exact ⟨rfl⟩|exact ⟨rfl,rfl⟩) ?_)|(intro (g:Nat);(conv=>cbv)))
 refine ⟨_,hk83,?_⟩
 conv=>cbv
 repeat' (first|(refine And.intro (by first|assumption|exact ⟨by omega⟩|exact ⟨by rw [hlen];omega⟩|exact ⟨rfl,rfl⟩|exact ⟨rfl⟩|exact ⟨rfl,rfl⟩) ?_)|(intro (g:Nat);(conv=>cbv)))
 have hput2:mputD (true,[(0,.str),(1,.str),(2,.int .i64)]) (.agg [mkS key,mkS v,jI 0]) (jI (O .iop .add .i64 u 1)) es=some es3:=by rw [y0Y hO (by omega) (by omega)];exact hput
 cases hgt:getA v M with
 | none =>
   rw [hgt] at hlk hu
   replace hu:u=0:=hu
   subst hu
   refine ⟨_,hlk,?_⟩
   conv=>cbv
   refine ⟨_,hput2,fun c3=>?_⟩
   conv=>cbv
   exact ⟨_,_,up _ _ ⟨_,k+1,_,_,rfl,by rw [y0Y hO (by omega) (by omega)];omega,by omega,rfl,hp (by simp [a1,a2])⟩,⟨⟨rfl,rfl,rfl,rfl,rfl,rfl,rfl,rfl,trivial⟩,⟨rfl,rfl,trivial⟩,rfl⟩,by omega⟩
 | some u2 =>
   rw [hgt] at hlk hu
   replace hu:u=u2:=hu
   subst hu
   refine ⟨_,hlk,?_⟩
   conv=>cbv
   refine ⟨_,hput2,fun c3=>?_⟩
   conv=>cbv
   exact ⟨_,_,up _ _ ⟨_,k+1,_,_,rfl,by rw [y0Y hO (by omega) (by omega)];omega,by omega,rfl,hp (by simp [a1,a2])⟩,⟨⟨rfl,rfl,rfl,rfl,rfl,rfl,rfl,rfl,trivial⟩,⟨rfl,rfl,trivial⟩,rfl⟩,by omega⟩
theorem yqhY (R:Ans) (s:SnapV) (hl:s.claims.length<=1024) (key app but:Str) (c:ClaimV) (h128:R.v 128 [snapD s,mkS key,mkS app,mkS but] (.mapv ((cntL s key app but s.pods).map (entA (keyD key) iD)))) (h83:∀ c,R.v 83 [mkS key,y5Y c] (keyD key (domOf key c)))
 (h129:∀ (g:Nat) (a out:List DomV),a.Perm out->OrdV out->a.length<=1024->SCall R 500 129 [.own 66 g,.fn 130 [] []] [(66,⟨g,.rw,.arr 3 75,a.map domD⟩)] (fun r kn=>r=.tup []/\kn=[(66,⟨g,.rw,.arr 3 75,out.map domD⟩)])) :
 AnsF R c80 [snapD s,mkS key,mkS app,mkS but,y5Y c] (.sl 3 false ((domsL s key app but c.name).map domD)):=by
 have hperm:=yg5Y s key app but c.name
 have hord:=yqaY s key app but c.name
 obtain ⟨out,hout⟩:∃ o,o=domsL s key app but c.name:=⟨_,rfl⟩
 rw [←hout] at hperm hord ⊢
 obtain ⟨rs,hrs⟩:∃ r,r=out.map domD:=⟨_,rfl⟩
 have crs:CleanL rs:=by rw [hrs];exact y39Y _
 rw [←hrs]
 clear hout
 obtain ⟨DM,hDM⟩:∃ f,f=domM s key app but:=⟨_,rfl⟩
 rw [←hDM] at hperm
 have hcn:∀ v,(getA v (cntL s key app but s.pods)).getD 0=(DM v).n:=fun v=>by rw [yg3Y,hDM];rfl
 have hdm:∀ v,domD (DM v)=.agg [mkS key,mkS v,jI (DM v).n]:=fun v=>by rw [hDM];rfl
 obtain ⟨CN,hCN⟩:∃ C,C=cntL s key app but s.pods:=⟨_,rfl⟩
 rw [←hCN] at h128
 simp only [←hCN] at hcn
 have hlk2:=fun v=>y6dY kT (keyD key) iD (y6jY key) v CN
 obtain ⟨ct,hcs⟩:∃ ct,ct=CN.map (entA (keyD key) iD):=⟨_,rfl⟩
 have ccs:CleanL ct:=by rw [hcs];exact yadY (keyD key) iD (yg1Y key) (fun v=>⟨rfl,rfl⟩) _
 rw [←hcs] at h128
 simp only [←hcs] at hlk2
 simp only [kT,keyD,domD] at hlk2
 have hsn0:=yq6Y key c.name
 have hln0:=yg4Y key c.name
 have h0:cameL key c.name []=[]:=rfl
 clear hDM hCN hcs
 obtain ⟨ty,po,pl,cl,cm,co,is,no,hce,hsn,cty,cpo,cpl,ccl,ccm,cco,cis,cno⟩:=yxY s
 rw [hsn] at h128 ⊢
 have hxs:=hce.cl
 obtain ⟨l,hl0⟩:∃ l,l=s.claims:=⟨_,rfl⟩
 rw [←hl0] at hl hxs hperm
 clear hce hsn hl0
 have hcl:y5Y c=.agg [mkS c.name,mkS c.pool,jI c.gen,mkS c.off.t,mkS c.off.z,mkS c.off.k,jI c.price,jI c.c0,jI c.c1,.sl 3 false (c.opts.map offD),jI c.tries,mkS c.id,jI c.phase,jI c.born,.bool c.marked]:=rfl
 rw [hcl]
 clear hcl
 obtain ⟨knm,kpo,kge,⟨kot,koz,kok⟩,kpr,kc0,kc1,kos,ktr,kid,kph,kbo,kma⟩:=c
 simp only at hperm hsn0 hln0 h0 ⊢
 obtain ⟨xkos,hxkos⟩:∃ xs,xs=kos.map offD:=⟨_,rfl⟩
 rw [←hxkos]
 clear hxkos
 obtain ⟨CM,hCM⟩:∃ C,C=cameL key knm:=⟨_,rfl⟩
 rw [←hCM] at hperm hsn0 h0
 simp only [←hCM] at hln0
 clear hCM
 refine y2Y ⟨rfl,by decide⟩ fun O hO V hV=>?_
 subst hV
 have hlen:O .len cl=l.length:=by rw [o_len hO,hxs];simp
 conv=>cbv
 repeat' (first|(refine And.intro (by first|assumption|exact ⟨by omega⟩|exact ⟨by rw [hlen];omega⟩|exact ⟨rfl,rfl⟩|exact ⟨rfl⟩|exact ⟨rfl,rfl⟩) ?_)|(intro (g:Nat);(conv=>cbv)))
 refine ⟨_,h128,?_⟩
 conv=>cbv
 repeat' (first|(refine And.intro (by first|assumption|exact ⟨by omega⟩|exact ⟨by rw [hlen];omega⟩|exact ⟨rfl,rfl⟩|exact ⟨rfl⟩|exact ⟨rfl,rfl⟩) ?_)|(intro (g:Nat);(conv=>cbv)))
 refine y4Y (fun n d=>∃ (i:Int) (k gg:Nat) (c0:Int) (es ys:List D),d=⟨[(1,mkS key),(9,.ptr 9 1 0),(11,.mapv ct),(12,.mapr 22 1),(13,.own 66 gg),(24,.sl 15 false cl),(25,jI (O .len cl)),(26,jI i)],[(9,⟨1,.rw,.var,[mkS knm,mkS kpo,jI kge,mkS kot,mkS koz,mkS kok,jI kpr,jI kc0,jI kc1,.sl 3 false xkos,jI ktr,mkS kid,jI kph,jI kbo,.bool kma]⟩),(22,⟨1,.rw,.map,jI c0::es⟩),(66,⟨gg,.rw,.arr 3 75,ys⟩)],false⟩/\i=k/\k<=l.length/\n=l.length-k/\es=(seenL (CM (l.take k))).map (entA (keyD key) seenB)/\ys=((CM (l.take k)).map DM).map domD) ⟨_,_,⟨_,0,_,_,[],[],rfl,rfl,by omega,rfl,by rw [List.take_zero,h0];rfl,by rw [List.take_zero,h0];rfl⟩,⟨⟨rfl,rfl,rfl,rfl,rfl,rfl,rfl,rfl,trivial⟩,⟨rfl,rfl,rfl,trivial⟩,rfl⟩⟩ ?_
 rintro J up n d ⟨i,k,gg,c0,es,ys,rfl,hi,hk,rfl,hes,hys⟩
 conv=>cbv
 rintro (_|_) h1<;>(conv=>cbv)
 ·replace h1:=f_lss hO h1
  rw [hlen] at h1
  rw [List.take_of_length_le (by omega)] at hys
  have hsh:=h129 gg ((CM l).map DM) out hperm hord (by have:=hln0 l;rw [List.length_map];omega)
  rw [←hys,←hrs] at hsh
  refine yjkY hsh (by decide) ⟨rfl,trivial⟩ ?_
  rintro r86 kn86 ⟨rfl,rfl⟩
  conv=>cbv
  exact ⟨crs,by first|trivial|rfl⟩
 replace h1:=t_lss hO h1
 rw [hlen] at h1
 obtain ⟨y,hy⟩:∃ y,l[k]?=some y:=⟨_,List.getElem?_eq_getElem (by omega)⟩
 have hat:atX cl i (y5Y y):=y7Y hy hxs hi
 have hk83:=h83 y
 obtain ⟨v,hv⟩:∃ v,v=domOf key y:=⟨_,rfl⟩
 rw [←hv] at hk83
 have hlt:=hln0 (l.take k)
 have htl:=List.length_take_le k l
 have hsn2:=hsn0 (l.take k) y
 have htk:l.take (k+1)=l.take k++[y]:=by rw [List.take_add_one,hy];rfl
 obtain ⟨M,hM⟩:∃ M,M=CM (l.take k):=⟨_,rfl⟩
 rw [←hM] at hes hys hlt hsn2
 rw [←htk,←hv] at hsn2
 have hlk:=y6dY kT (keyD key) seenB (y6jY key) v (seenL M)
 have hput:=y7oY kT (keyD key) seenB (y6jY key) v true (seenL M)
 rw [←hes] at hlk hput
 rw [yq8Y] at hlk
 have hct:y25Y knm y=(decide (y.name=knm)||(decide (y.phase=3)&&!y.marked)):=rfl
 obtain ⟨nv,hnv0⟩:∃ n,n=(DM v).n:=⟨_,rfl⟩
 have hnv:=hcn v
 rw [←hnv0] at hnv
 obtain ⟨inM,hinM⟩:∃ b,b=decide (v∈M):=⟨_,rfl⟩
 obtain ⟨es3,hes3⟩:∃ e,e=(putA v true (seenL M)).map (entA (keyD key) seenB):=⟨_,rfl⟩
 rw [←hes3] at hput
 rw [hct] at hsn2
 have hn:inM=true∨(decide (y.name=knm)||(decide (y.phase=3)&&!y.marked))=false->es=(seenL (CM (l.take (k+1)))).map (entA (keyD key) seenB)/\ys=((CM (l.take (k+1))).map DM).map domD:=fun h=>by
  have:CM (l.take (k+1))=M:=by
   rw [hsn2]
   rcases h with h|h
   ·rw [hinM,decide_eq_true_eq] at h
    split
    ·unfold insS;rw [if_pos h]
    ·rfl
   ·rw [h];rfl
  rw [this]
  exact ⟨hes,hys⟩
 have hp:inM=false->(decide (y.name=knm)||(decide (y.phase=3)&&!y.marked))=true->es3=(seenL (CM (l.take (k+1)))).map (entA (keyD key) seenB)/\O .app ys [.agg [mkS key,mkS v,jI nv]]=((CM (l.take (k+1))).map DM).map domD:=fun h h2=>by
  rw [hinM,decide_eq_false_iff_not] at h
  have:CM (l.take (k+1))=M++[v]:=by rw [hsn2,h2];unfold insS;rw [if_neg h];rfl
  rw [this,hes3,yq9Y h,o_app hO,hys,hnv0,←hdm v]
  exact ⟨rfl,by simp⟩
 have hly:O .len ys<=1024:=by rw [o_len hO,hys];simp;omega
 have hly0:0<=O .len ys:=by rw [o_len hO];omega
 have hl1:∀ v:D,O .len [v]=1:=fun v=>by rw [o_len hO];rfl
 have hlkc:=hlk2 v
 have cy:closedL [.agg [mkS key,mkS v,jI nv]]=true:=rfl
 simp only [kT,keyD,domD] at hlk hput hk83
 have hlk':lookD (true,[(0,.str),(1,.str),(2,.int .i64)]) (.agg [mkS key,mkS v,jI 0]) es=some (if inM then some (.bool true) else none):=by
  rw [hlk,hinM]
  by_cases h:v∈M<;>simp [h,seenB]
 clear hlk hes3 hct hsn2 htk hM hy h83 hsn0 hln0 hv hinM hes hys hdm hcn hlk2 hnv0 h0 h129 hperm hord
 obtain ⟨ynm,ypo,yge,⟨yot,yoz,yok⟩,ypr,yc0,yc1,yos,ytr,yid,yph,ybo,yma⟩:=y
 simp only [y5Y,y12Y] at hat hk83 hn hp
 obtain ⟨xyos,hxyos⟩:∃ xs,xs=yos.map offD:=⟨_,rfl⟩
 have cxyos:CleanL xyos:=by rw [hxyos];exact y11Y _
 simp only [←hxyos] at hat hk83 hn hp
 refine ⟨_,hat,?_⟩
 conv=>cbv
 repeat' (first|(refine And.intro (by first|assumption|exact ⟨by omega⟩|exact ⟨by rw [hlen];omega⟩|exact ⟨rfl,rfl⟩|exact ⟨rfl⟩|exact ⟨rfl,rfl⟩) ?_)|(intro (g:Nat);(conv=>cbv)))
 refine ⟨_,hk83,?_⟩
 conv=>cbv
 repeat' (first|(refine And.intro (by first|assumption|exact ⟨by omega⟩|exact ⟨by rw [hlen];omega⟩|exact ⟨rfl,rfl⟩|exact ⟨rfl⟩|exact ⟨rfl,rfl⟩) ?_)|(intro (g:Nat);(conv=>cbv)))
 refine ⟨_,hlk',?_⟩
 cases inM<;>(conv=>cbv)
 case true=>exact ⟨_,_,up _ _ ⟨_,k+1,gg,_,_,_,rfl,by rw [y0Y hO (by omega) (by omega)];omega,by omega,rfl,(hn (Or.inl rfl)).1,(hn (Or.inl rfl)).2⟩,⟨⟨rfl,rfl,rfl,rfl,rfl,rfl,rfl,rfl,trivial⟩,⟨rfl,rfl,rfl,trivial⟩,rfl⟩,by omega⟩
 repeat' (first|(refine And.intro (by first|assumption|exact ⟨by omega⟩|exact ⟨by rw [hlen];omega⟩|exact ⟨rfl,rfl⟩|exact ⟨rfl⟩|exact ⟨rfl,rfl⟩) ?_)|(intro (g:Nat);(conv=>cbv)))
 rintro (_|_) a1<;>replace a1:=cs hO a1<;>dsimp only [CmpS] at a1<;>(conv=>cbv)
 case true =>
  replace a1:ynm=knm:=by first|exact a1|exact Classical.not_not.1 a1
  repeat' (first|(refine And.intro (by first|assumption|exact ⟨by omega⟩|exact ⟨by rw [hlen];omega⟩|exact ⟨rfl,rfl⟩|exact ⟨rfl⟩|exact ⟨rfl,rfl⟩) ?_)|(intro (g:Nat);(conv=>cbv)))
  refine ⟨_,hput,fun c3=>?_⟩
  conv=>cbv
  repeat' (first|(refine And.intro (by first|assumption|exact ⟨by omega⟩|exact ⟨by rw [hlen];omega⟩|exact ⟨rfl,rfl⟩|exact ⟨rfl⟩|exact ⟨rfl,rfl⟩) ?_)|(intro (g:Nat);(conv=>cbv)))
  cases hgt:getA v CN with
  | none =>
    rw [hgt] at hlkc hnv
    replace hnv:nv=0:=hnv.symm
    subst hnv
    refine ⟨_,hlkc,?_⟩
    conv=>cbv
    repeat' (first|(refine And.intro (by first|assumption|exact ⟨by omega⟩|exact ⟨by rw [hlen];omega⟩|exact ⟨rfl,rfl⟩|exact ⟨rfl⟩|exact ⟨rfl,rfl⟩) ?_)|(intro (g:Nat);(conv=>cbv)))
    refine ⟨⟨?_⟩,?_⟩
    ·show (O .len ys+O .len [_])*((40:Nat):Int)<=_
     rw [hl1];omega
    exact ⟨_,_,up _ _ ⟨_,k+1,gg+1,_,_,_,rfl,by rw [y0Y hO (by omega) (by omega)];omega,by omega,rfl,(hp rfl (by simp [a1])).1,(hp rfl (by simp [a1])).2⟩,⟨⟨rfl,rfl,rfl,rfl,rfl,rfl,rfl,rfl,trivial⟩,⟨rfl,rfl,rfl,trivial⟩,rfl⟩,by omega⟩
  | some u2 =>
    rw [hgt] at hlkc hnv
    replace hnv:nv=u2:=hnv.symm
    subst hnv
    refine ⟨_,hlkc,?_⟩
    conv=>cbv
    repeat' (first|(refine And.intro (by first|assumption|exact ⟨by omega⟩|exact ⟨by rw [hlen];omega⟩|exact ⟨rfl,rfl⟩|exact ⟨rfl⟩|exact ⟨rfl,rfl⟩) ?_)|(intro (g:Nat);(conv=>cbv)))
    refine ⟨⟨?_⟩,?_⟩
    ·show (O .len ys+O .len [_])*((40:Nat):Int)<=_
     rw [hl1];omega
    exact ⟨_,_,up _ _ ⟨_,k+1,gg+1,_,_,_,rfl,by rw [y0Y hO (by omega) (by omega)];omega,by omega,rfl,(hp rfl (by simp [a1])).1,(hp rfl (by simp [a1])).2⟩,⟨⟨rfl,rfl,rfl,rfl,rfl,rfl,rfl,rfl,trivial⟩,⟨rfl,rfl,rfl,trivial⟩,rfl⟩,by omega⟩
 rintro (_|_) a2<;>replace a2:=ci hO a2<;>dsimp only [CmpI] at a2<;>(conv=>cbv)
 case false=>exact ⟨_,_,up _ _ ⟨_,k+1,gg,_,_,_,rfl,by rw [y0Y hO (by omega) (by omega)];omega,by omega,rfl,(hn (Or.inr (by simp [a1,a2]))).1,(hn (Or.inr (by simp [a1,a2]))).2⟩,⟨⟨rfl,rfl,rfl,rfl,rfl,rfl,rfl,rfl,trivial⟩,⟨rfl,rfl,rfl,trivial⟩,rfl⟩,by omega⟩
 repeat' (first|(refine And.intro (by first|assumption|exact ⟨by omega⟩|exact ⟨by rw [hlen];omega⟩|exact ⟨rfl,rfl⟩|exact ⟨rfl⟩|exact ⟨rfl,rfl⟩) ?_)|(intro (g:Nat);(conv=>cbv)))
 cases yma<;>(conv=>cbv)
 case true=>exact ⟨_,_,up _ _ ⟨_,k+1,gg,_,_,_,rfl,by rw [y0Y hO (by omega) (by omega)];omega,by omega,rfl,(hn (Or.inr (by simp [a1]))).1,(hn (Or.inr (by simp [a1]))).2⟩,⟨⟨rfl,rfl,rfl,rfl,rfl,rfl,rfl,rfl,trivial⟩,⟨rfl,rfl,rfl,trivial⟩,rfl⟩,by omega⟩
 repeat' (first|(refine And.intro (by first|assumption|exact ⟨by omega⟩|exact ⟨by rw [hlen];omega⟩|exact ⟨rfl,rfl⟩|exact ⟨rfl⟩|exact ⟨rfl,rfl⟩) ?_)|(intro (g:Nat);(conv=>cbv)))
 refine ⟨_,hput,fun c3=>?_⟩
 conv=>cbv
 repeat' (first|(refine And.intro (by first|assumption|exact ⟨by omega⟩|exact ⟨by rw [hlen];omega⟩|exact ⟨rfl,rfl⟩|exact ⟨rfl⟩|exact ⟨rfl,rfl⟩) ?_)|(intro (g:Nat);(conv=>cbv)))
 cases hgt:getA v CN with
 | none =>
   rw [hgt] at hlkc hnv
   replace hnv:nv=0:=hnv.symm
   subst hnv
   refine ⟨_,hlkc,?_⟩
   conv=>cbv
   repeat' (first|(refine And.intro (by first|assumption|exact ⟨by omega⟩|exact ⟨by rw [hlen];omega⟩|exact ⟨rfl,rfl⟩|exact ⟨rfl⟩|exact ⟨rfl,rfl⟩) ?_)|(intro (g:Nat);(conv=>cbv)))
   refine ⟨⟨?_⟩,?_⟩
   ·show (O .len ys+O .len [_])*((40:Nat):Int)<=_
    rw [hl1];omega
   exact ⟨_,_,up _ _ ⟨_,k+1,gg+1,_,_,_,rfl,by rw [y0Y hO (by omega) (by omega)];omega,by omega,rfl,(hp rfl (by simp [a1,a2])).1,(hp rfl (by simp [a1,a2])).2⟩,⟨⟨rfl,rfl,rfl,rfl,rfl,rfl,rfl,rfl,trivial⟩,⟨rfl,rfl,rfl,trivial⟩,rfl⟩,by omega⟩
 | some u2 =>
   rw [hgt] at hlkc hnv
   replace hnv:nv=u2:=hnv.symm
   subst hnv
   refine ⟨_,hlkc,?_⟩
   conv=>cbv
   repeat' (first|(refine And.intro (by first|assumption|exact ⟨by omega⟩|exact ⟨by rw [hlen];omega⟩|exact ⟨rfl,rfl⟩|exact ⟨rfl⟩|exact ⟨rfl,rfl⟩) ?_)|(intro (g:Nat);(conv=>cbv)))
   refine ⟨⟨?_⟩,?_⟩
   ·show (O .len ys+O .len [_])*((40:Nat):Int)<=_
    rw [hl1];omega
   exact ⟨_,_,up _ _ ⟨_,k+1,gg+1,_,_,_,rfl,by rw [y0Y hO (by omega) (by omega)];omega,by omega,rfl,(hp rfl (by simp [a1,a2])).1,(hp rfl (by simp [a1,a2])).2⟩,⟨⟨rfl,rfl,rfl,rfl,rfl,rfl,rfl,rfl,trivial⟩,⟨rfl,rfl,rfl,trivial⟩,rfl⟩,by omega⟩
end Go.Proofs.AM
namespace Go.Proofs.AM
open Go Go.Lib
def ownF (v:Str) (l:List DomV):Int:=l.foldl (fun a d=>if d.v=v then d.n else a) 0
def y1eY (l:List DomV):Int:=l.foldl (fun a d=>if a<0∨d.n<a then d.n else a) (-1)
theorem yatY (v:Str) (l:List DomV) (d:DomV):ownF v (l++[d])=if d.v=v then d.n else ownF v l:=by unfold ownF;rw [List.foldl_append];rfl
theorem y7xY (l:List DomV) (d:DomV):y1eY (l++[d])=if y1eY l<0∨d.n<y1eY l then d.n else y1eY l:=by unfold y1eY;rw [List.foldl_append];rfl
theorem yqiY {v:Str} {n:Int} {l:List DomV} (h:∀ d∈l,d.v=v->d.n=n) (hm:∃ d∈l,d.v=v):ownF v l=n:=by
 induction l using y38Y with
 | nil=>obtain ⟨d,hd,_⟩:=hm;simp at hd
 | snoc l d ih =>
   rw [yatY]
   by_cases hv:d.v=v
   ·rw [if_pos hv];exact h d (by simp) hv
   ·rw [if_neg hv]
    refine ih (fun x hx=>h x (by simp [hx])) ?_
    obtain ⟨x,hx,he⟩:=hm
    rcases List.mem_append.1 hx with hx|hx
    ·exact ⟨x,hx,he⟩
    ·simp only [List.mem_singleton] at hx;subst hx;exact absurd he hv
theorem yqjY {v:Str} {l:List DomV} {b:Int} (hb:0<=b) (h:∀ d∈l,0<=d.n/\d.n<=b):0<=ownF v l/\ownF v l<=b:=by
 induction l using y38Y with
 | nil=>exact ⟨Int.le_refl _,hb⟩
 | snoc l d ih =>
   rw [yatY]
   split
   ·exact h d (by simp)
   ·exact ih fun x hx=>h x (by simp [hx])
theorem yqkY {l:List DomV} {b:Int} (hb:0<=b) (h:∀ d∈l,0<=d.n/\d.n<=b):-1<=y1eY l/\y1eY l<=b:=by
 induction l using y38Y with
 | nil=>exact ⟨Int.le_refl _,by show (-1:Int)<=b;omega⟩
 | snoc l d ih =>
   rw [y7xY]
   have:=h d (by simp)
   split
   ·omega
   ·exact ih fun x hx=>h x (by simp [hx])
theorem yg6Y {l:List DomV} (h:∀ d∈l,0<=d.n):(l=[]/\y1eY l=-1)∨(0<=y1eY l/\(∀ d∈l,y1eY l<=d.n)/\∃ d∈l,d.n=y1eY l):=by
 induction l using y38Y with
 | nil=>exact .inl ⟨rfl,rfl⟩
 | snoc l d ih =>
   right
   rw [y7xY]
   have hd:=h d (by simp)
   rcases ih fun x hx=>h x (by simp [hx]) with ⟨rfl,e⟩|⟨e1,e2,x,hx,e3⟩
   ·rw [e,if_pos (.inl (by omega))]
    exact ⟨hd,by simp,d,by simp,rfl⟩
   ·split
    ·rename_i hc
     have:d.n<y1eY l:=by omega
     refine ⟨hd,fun y hy=>?_,d,by simp,rfl⟩
     rcases List.mem_append.1 hy with hy|hy
     ·have:=e2 y hy;omega
     ·simp only [List.mem_singleton] at hy;subst hy;omega
    ·rename_i hc
     refine ⟨e1,fun y hy=>?_,x,by simp [hx],e3⟩
     rcases List.mem_append.1 hy with hy|hy
     ·exact e2 y hy
     ·simp only [List.mem_singleton] at hy;subst hy;omega
theorem yauY {s:SnapV} {key app but claim:Str} {d:DomV} (h:d∈domsL s key app but claim):d.k=key/\d.n=y1cY s key app but d.v/\d.v∈domV s key claim:=by
 rw [y3qY,List.mem_map] at h
 obtain ⟨v,hv,rfl⟩:=h
 exact ⟨rfl,rfl,hv⟩
theorem yg7Y (s:SnapV) (key app but v:Str):y1cY s key app but v<=s.pods.length:=by
 unfold y1cY
 have:=List.length_filter_le (inDom s key app but v) s.pods
 omega
theorem y6lY {s:SnapV} {key app but claim:Str}:∀ d∈domsL s key app but claim,0<=d.n/\d.n<=(s.pods.length:Int):=fun d hd=>by
 rw [(yauY hd).2.1]
 exact ⟨yagY _ _ _ _ _,yg7Y _ _ _ _ _⟩
theorem yqlY {s:SnapV} {key app but:Str} {c:ClaimV} (hc:c∈s.claims):ownF (domOf key c) (domsL s key app but c.name)=y1cY s key app but (domOf key c):=by
 refine yqiY (fun d hd hv=>by rw [(yauY hd).2.1,hv]) ?_
 refine ⟨domM s key app but (domOf key c),?_,rfl⟩
 rw [y3qY]
 exact List.mem_map.2 ⟨_,y7qY hc,rfl⟩
theorem yg8Y {s:SnapV} {key app but:Str} {c:ClaimV} (hc:c∈s.claims):domsL s key app but c.name≠[]:=by
 intro h
 have:domM s key app but (domOf key c)∈domsL s key app but c.name:=by
  rw [y3qY]
  exact List.mem_map.2 ⟨_,y7qY hc,rfl⟩
 rw [h] at this
 simp at this
theorem yqmY {s:SnapV} {p:PodV} {c:ClaimV} {x:SprV} (hc:c∈s.claims) :
 fit1B s p c x=decide (ownF (domOf x.k c) (domsL s x.k x.a p.name c.name)+(if p.app=x.a then 1 else 0)-y1eY (domsL s x.k x.a p.name c.name)<=x.n):=by
 rw [yqlY hc]
 unfold fit1B
 rcases yg6Y (l:=domsL s x.k x.a p.name c.name) fun d hd=>(y6lY d hd).1 with ⟨h,_⟩|⟨_,h2,d0,hd0,h3⟩
 ·exact absurd h (yg8Y hc)
 rw [Bool.eq_iff_iff,List.all_eq_true]
 simp only [decide_eq_true_eq]
 constructor
 ·intro h
  have:=h d0 hd0
  rw [h3] at this
  exact this
 ·intro h d hd
  have:=h2 d hd
  omega
end Go.Proofs.AM
namespace Go.Proofs.AM
open Go Go.Lib Cd
def domsX (x:List DomV × Int):D:=.tup [.sl 3 false (x.1.map domD),jI x.2]
def sfitX (x:Bool × Int):D:=.tup [.bool x.1,jI x.2]
theorem yqnY (R:Ans) (s:SnapV) (key app but claim:Str) (h45:R.v 45 [snapD s] (jI (snapE s))) (h79:∀ n,R.v 79 [snapD s,mkS n] (.tup [y5Y ((ygY s n).getD zeroC),.bool (ygY s n).isSome])) (h80:snapE s=0->∀ c,c∈s.claims->R.v 80 [snapD s,mkS key,mkS app,mkS but,y5Y c] (.sl 3 false ((domsL s key app but c.name).map domD))):AnsF R c35 [snapD s,mkS key,mkS app,mkS but,mkS claim] (domsX (domsE s key app but claim)):=by
 obtain ⟨rd,hrd⟩:∃ r,r=domsX (domsE s key app but claim):=⟨_,rfl⟩
 rw [←hrd]
 have k:=h79 claim
 skip
 obtain ⟨cx,hcx⟩:∃ cx,cx=(ygY s claim).getD zeroC:=⟨_,rfl⟩
 obtain ⟨q,hq⟩:∃ q,q=(ygY s claim).isSome:=⟨_,rfl⟩
 rw [←hcx,←hq] at k
 have hn:q=true->cx∈s.claims/\cx.name=claim:=fun h=>by
  cases hc:ygY s claim with
  | none=>rw [hc] at hq;rw [hq] at h;exact absurd h (by decide)
  | some c=>rw [hcx,hc];exact y37Y hc
 rw [y6eY] at hq
 have k80:snapE s=0->q=true->R.v 80 [snapD s,mkS key,mkS app,mkS but,y5Y cx] (.sl 3 false ((domsL s key app but claim).map domD)):=fun h0 h1=>by
  have:=h80 h0 cx (hn h1).1
  rw [(hn h1).2] at this
  exact this
 obtain ⟨w,hw⟩:∃ w,w=snapE s:=⟨_,rfl⟩
 unfold domsE at hrd
 rw [←hw,←hq] at hrd
 rw [←hw] at h45 k80
 obtain ⟨xs,hxs⟩:∃ xs,xs=(domsL s key app but claim).map domD:=⟨_,rfl⟩
 have cxs:CleanL xs:=by rw [hxs];exact y39Y _
 rw [←hxs] at k80
 have g1:w≠0->rd=.tup [.sl 3 false [],jI w]:=fun h=>by rw [hrd,if_pos h];rfl
 have g2:w=0->¬key=zoneS->¬key=hostS->rd=.tup [.sl 3 false [],jI 1]:=fun h a b=>by
  have hb:(decide (key=zoneS)||decide (key=hostS))=false:=by simp [a,b]
  rw [hrd,if_neg (fun hh=>hh h),hb];rfl
 have g3:w=0->(key=zoneS∨key=hostS)->q=false->rd=.tup [.sl 3 false [],jI 5]:=fun h a b=>by
  have hb:(decide (key=zoneS)||decide (key=hostS))=true:=by rcases a with a|a<;>simp [a]
  rw [hrd,if_neg (fun hh=>hh h),if_pos hb,b];rfl
 have g4:w=0->(key=zoneS∨key=hostS)->q=true->rd=.tup [.sl 3 false xs,jI 0]:=fun h a b=>by
  have hb:(decide (key=zoneS)||decide (key=hostS))=true:=by rcases a with a|a<;>simp [a]
  rw [hrd,if_neg (fun hh=>hh h),if_pos hb,b,if_pos rfl,hxs];rfl
 unfold zoneS hostS at g2 g3 g4
 clear h79 h80 hrd hcx hq hn hw hxs
 obtain ⟨ty,po,pl,cl,cm,co,is,no,hce,hsn,cty,cpo,cpl,ccl,ccm,cco,cis,cno⟩:=yxY s
 rw [hsn] at h45 k k80 ⊢
 clear hce hsn
 obtain ⟨znm,zpo,zge,⟨zot,zoz,zok⟩,zpr,zc0,zc1,zos,ztr,zid,zph,zbo,zma⟩:=cx
 simp only [y5Y,y12Y] at k k80
 obtain ⟨xzos,hxzos⟩:∃ xs,xs=zos.map offD:=⟨_,rfl⟩
 have cxzos:CleanL xzos:=by rw [hxzos];exact y11Y _
 simp only [←hxzos] at k k80
 refine y2Y ⟨rfl,by decide⟩ fun O hO V hV=>?_
 subst hV
 conv=>cbv
 repeat' (first|(refine And.intro (by first|assumption|exact ⟨by omega⟩|exact ⟨rfl,rfl⟩|exact ⟨rfl⟩|exact ⟨rfl,rfl⟩) ?_)|(intro (g:Nat);(conv=>cbv)))
 refine ⟨_,h45,?_⟩
 conv=>cbv
 repeat' (first|(refine And.intro (by first|assumption|exact ⟨by omega⟩|exact ⟨rfl,rfl⟩|exact ⟨rfl⟩|exact ⟨rfl,rfl⟩) ?_)|(intro (g:Nat);(conv=>cbv)))
 rintro (_|_) h<;>replace h:=ci hO h<;>dsimp only [CmpI] at h<;>(conv=>cbv)
 case true =>
  repeat' (first|(refine And.intro (by first|assumption|exact ⟨by omega⟩|exact ⟨rfl,rfl⟩|exact ⟨rfl⟩|exact ⟨rfl,rfl⟩) ?_)|(intro (g:Nat);(conv=>cbv)))
  exact (g1 h).symm
 replace h:w=0:=by omega
 replace g2:=g2 h
 replace g3:=g3 h
 replace g4:=g4 h
 replace k80:=k80 h
 clear g1
 rintro (_|_) a1<;>replace a1:=cs hO a1<;>dsimp only [CmpS] at a1<;>(conv=>cbv)
 case false =>
  replace a1:key=[122,111,110,101]:=by first|exact a1|exact Classical.not_not.1 a1
  repeat' (first|(refine And.intro (by first|assumption|exact ⟨by omega⟩|exact ⟨rfl,rfl⟩|exact ⟨rfl⟩|exact ⟨rfl,rfl⟩) ?_)|(intro (g:Nat);(conv=>cbv)))
  refine ⟨_,k,?_⟩
  cases q<;>(conv=>cbv)
  case false =>
   repeat' (first|(refine And.intro (by first|assumption|exact ⟨by omega⟩|exact ⟨rfl,rfl⟩|exact ⟨rfl⟩|exact ⟨rfl,rfl⟩) ?_)|(intro (g:Nat);(conv=>cbv)))
   exact (g3 (by simp [a1]) rfl).symm
  repeat' (first|(refine And.intro (by first|assumption|exact ⟨by omega⟩|exact ⟨rfl,rfl⟩|exact ⟨rfl⟩|exact ⟨rfl,rfl⟩) ?_)|(intro (g:Nat);(conv=>cbv)))
  refine ⟨_,k80 rfl,?_⟩
  conv=>cbv
  repeat' (first|(refine And.intro (by first|assumption|exact ⟨by omega⟩|exact ⟨rfl,rfl⟩|exact ⟨rfl⟩|exact ⟨rfl,rfl⟩) ?_)|(intro (g:Nat);(conv=>cbv)))
  exact (g4 (by simp [a1]) rfl).symm
 rintro (_|_) a2<;>replace a2:=cs hO a2<;>dsimp only [CmpS] at a2<;>(conv=>cbv)
 case false =>
  replace a2:key=[104,111,115,116]:=by first|exact a2|exact Classical.not_not.1 a2
  repeat' (first|(refine And.intro (by first|assumption|exact ⟨by omega⟩|exact ⟨rfl,rfl⟩|exact ⟨rfl⟩|exact ⟨rfl,rfl⟩) ?_)|(intro (g:Nat);(conv=>cbv)))
  refine ⟨_,k,?_⟩
  cases q<;>(conv=>cbv)
  case false =>
   repeat' (first|(refine And.intro (by first|assumption|exact ⟨by omega⟩|exact ⟨rfl,rfl⟩|exact ⟨rfl⟩|exact ⟨rfl,rfl⟩) ?_)|(intro (g:Nat);(conv=>cbv)))
   exact (g3 (by simp [a2]) rfl).symm
  repeat' (first|(refine And.intro (by first|assumption|exact ⟨by omega⟩|exact ⟨rfl,rfl⟩|exact ⟨rfl⟩|exact ⟨rfl,rfl⟩) ?_)|(intro (g:Nat);(conv=>cbv)))
  refine ⟨_,k80 rfl,?_⟩
  conv=>cbv
  repeat' (first|(refine And.intro (by first|assumption|exact ⟨by omega⟩|exact ⟨rfl,rfl⟩|exact ⟨rfl⟩|exact ⟨rfl,rfl⟩) ?_)|(intro (g:Nat);(conv=>cbv)))
  exact (g4 (by simp [a2]) rfl).symm
 repeat' (first|(refine And.intro (by first|assumption|exact ⟨by omega⟩|exact ⟨rfl,rfl⟩|exact ⟨rfl⟩|exact ⟨rfl,rfl⟩) ?_)|(intro (g:Nat);(conv=>cbv)))
 exact (g2 a1 a2).symm
theorem yqoY (R:Ans) (s:SnapV) (p:PodV) (claim:Str) (hl:p.spr.length<4611686018427387904) (hpo:s.pods.length<4611686018427387904) (hcl:s.claims.length<4611686018427387904) (h45:R.v 45 [snapD s] (jI (snapE s))) (h82:R.v 82 [podD p] (jI (podE p))) (h79:∀ n,R.v 79 [snapD s,mkS n] (.tup [y5Y ((ygY s n).getD zeroC),.bool (ygY s n).isSome])) (h80:snapE s=0->∀ key app c,R.v 80 [snapD s,mkS key,mkS app,mkS p.name,y5Y c] (.sl 3 false ((domsL s key app p.name c.name).map domD))) (h83:∀ key c,R.v 83 [mkS key,y5Y c] (keyD key (domOf key c))):AnsF R c37 [snapD s,podD p,mkS claim] (sfitX (sfitE s p claim)):=by
 obtain ⟨rd,hrd⟩:∃ r,r=sfitX (sfitE s p claim):=⟨_,rfl⟩
 rw [←hrd]
 have k:=h79 claim
 skip
 obtain ⟨cx,hcx⟩:∃ cx,cx=(ygY s claim).getD zeroC:=⟨_,rfl⟩
 obtain ⟨q,hq⟩:∃ q,q=(ygY s claim).isSome:=⟨_,rfl⟩
 rw [←hcx,←hq] at k
 have hn:q=true->cx∈s.claims/\cx.name=claim:=fun h=>by
  cases hc:ygY s claim with
  | none=>rw [hc] at hq;rw [hq] at h;exact absurd h (by decide)
  | some c=>rw [hcx,hc];exact y37Y hc
 rw [y6eY] at hq
 obtain ⟨w1,hw1⟩:∃ w,w=snapE s:=⟨_,rfl⟩
 obtain ⟨w2,hw2⟩:∃ w,w=podE p:=⟨_,rfl⟩
 unfold sfitE y1pY at hrd
 rw [←hw1,←hw2,←hq,←hcx] at hrd
 rw [←hw1] at h45 h80
 rw [←hw2] at h82
 unfold sfitB at hrd
 obtain ⟨T,hT⟩:∃ T,T=fit1B s p cx:=⟨_,rfl⟩
 rw [←hT] at hrd
 have g1:w1≠0->rd=.tup [.bool false,jI w1]:=fun h=>by rw [hrd];simp [y3Y,h,sfitX]
 have g2:w1=0->w2≠0->rd=.tup [.bool false,jI w2]:=fun h h2=>by rw [hrd];simp [y3Y,h,h2,sfitX]
 have g3:w1=0->w2=0->q=false->rd=.tup [.bool false,jI 5]:=fun h h2 h3=>by rw [hrd];simp [y3Y,wantI,h,h2,h3,sfitX]
 have g4:w1=0->w2=0->q=true->rd=.tup [.bool (p.spr.all T),jI 0]:=fun h h2 h3=>by rw [hrd];simp [y3Y,wantI,h,h2,h3,sfitX]
 have k80:w1=0->q=true->∀ y:SprV,∃ dl:List DomV,R.v 80 [snapD s,mkS y.k,mkS y.a,mkS p.name,y5Y cx] (.sl 3 false (dl.map domD))/\(∀ d∈dl,0<=d.n/\d.n<=(s.pods.length:Int))/\dl.length<4611686018427387904/\T y=decide (ownF (domOf y.k cx) dl+(if p.app=y.a then 1 else 0)-y1eY dl<=y.n):=fun a b y=>by
  refine ⟨_,h80 a y.k y.a cx,y6lY,?_,?_⟩
  ·have:=y6kY s y.k y.a p.name cx.name
   omega
  ·rw [hT,yqmY (hn b).1]
 have k83:=fun key=>h83 key cx
 obtain ⟨dm,hdm⟩:∃ f:Str->Str,f=fun key=>domOf key cx:=⟨_,rfl⟩
 have hdm2:∀ key,domOf key cx=dm key:=fun key=>by rw [hdm]
 simp only [hdm2] at k80 k83
 clear h79 h80 h83 hrd hcx hq hn hw1 hw2 hT hdm hdm2
 simp only [keyD,domD] at k83
 obtain ⟨ty,po,pl,cl,cm,co,is,no,hce,hsn,cty,cpo,cpl,ccl,ccm,cco,cis,cno⟩:=yxY s
 rw [hsn] at h45 k k80 ⊢
 clear hce hsn
 obtain ⟨pnm,pap,pn0,pn1,ppr,prs,pts,pss,pns,pas,psi,pon⟩:=p
 simp only [podD,podC] at h82 k80 g4 hl  ⊢
 obtain ⟨xprs,hxprs⟩:∃ xs,xs=prs.map reqD:=⟨_,rfl⟩
 have cxprs:CleanL xprs:=by rw [hxprs];exact y1bY _
 simp only [←hxprs] at h82 k80 g4 hl  ⊢
 obtain ⟨xpts,hxpts⟩:∃ xs,xs=pts.map tolD:=⟨_,rfl⟩
 have cxpts:CleanL xpts:=by rw [hxpts];exact y2fY _
 simp only [←hxpts] at h82 k80 g4 hl  ⊢
 obtain ⟨xpss,hxpss⟩:∃ xs,xs=pss.map sprD:=⟨_,rfl⟩
 have cxpss:CleanL xpss:=by rw [hxpss];exact y2bY _
 simp only [←hxpss] at h82 k80 g4 hl  ⊢
 obtain ⟨xpns,hxpns⟩:∃ xs,xs=pns.map labD:=⟨_,rfl⟩
 have cxpns:CleanL xpns:=by rw [hxpns];exact yeY _
 simp only [←hxpns] at h82 k80 g4 hl  ⊢
 obtain ⟨xpas,hxpas⟩:∃ xs,xs=pas.map labD:=⟨_,rfl⟩
 have cxpas:CleanL xpas:=by rw [hxpas];exact yeY _
 simp only [←hxpas] at h82 k80 g4 hl  ⊢
 obtain ⟨knm,kpo,kge,⟨kot,koz,kok⟩,kpr,kc0,kc1,kos,ktr,kid,kph,kbo,kma⟩:=cx
 simp only [y5Y,y12Y] at k k80 k83
 obtain ⟨xkos,hxkos⟩:∃ xs,xs=kos.map offD:=⟨_,rfl⟩
 have cxkos:CleanL xkos:=by rw [hxkos];exact y11Y _
 simp only [←hxkos] at k k80 k83
 refine y2Y ⟨rfl,by decide⟩ fun O hO V hV=>?_
 subst hV
 have hlen:O .len xpss=pss.length:=by rw [o_len hO,hxpss];simp
 conv=>cbv
 repeat' (first|(refine And.intro (by first|assumption|exact ⟨by omega⟩|exact ⟨by rw [hlen];omega⟩|exact ⟨rfl,rfl⟩|exact ⟨rfl⟩|exact ⟨rfl,rfl⟩) ?_)|(intro (g:Nat);(conv=>cbv)))
 refine ⟨_,h45,?_⟩
 conv=>cbv
 repeat' (first|(refine And.intro (by first|assumption|exact ⟨by omega⟩|exact ⟨by rw [hlen];omega⟩|exact ⟨rfl,rfl⟩|exact ⟨rfl⟩|exact ⟨rfl,rfl⟩) ?_)|(intro (g:Nat);(conv=>cbv)))
 rintro (_|_) h<;>replace h:=ci hO h<;>dsimp only [CmpI] at h<;>(conv=>cbv)
 case true =>
  repeat' (first|(refine And.intro (by first|assumption|exact ⟨by omega⟩|exact ⟨by rw [hlen];omega⟩|exact ⟨rfl,rfl⟩|exact ⟨rfl⟩|exact ⟨rfl,rfl⟩) ?_)|(intro (g:Nat);(conv=>cbv)))
  exact (g1 h).symm
 replace h:w1=0:=by omega
 replace g2:=g2 h
 replace g3:=g3 h
 replace g4:=g4 h
 replace k80:=k80 h
 clear g1 h45
 repeat' (first|(refine And.intro (by first|assumption|exact ⟨by omega⟩|exact ⟨by rw [hlen];omega⟩|exact ⟨rfl,rfl⟩|exact ⟨rfl⟩|exact ⟨rfl,rfl⟩) ?_)|(intro (g:Nat);(conv=>cbv)))
 refine ⟨_,h82,?_⟩
 conv=>cbv
 repeat' (first|(refine And.intro (by first|assumption|exact ⟨by omega⟩|exact ⟨by rw [hlen];omega⟩|exact ⟨rfl,rfl⟩|exact ⟨rfl⟩|exact ⟨rfl,rfl⟩) ?_)|(intro (g:Nat);(conv=>cbv)))
 rintro (_|_) h2<;>replace h2:=ci hO h2<;>dsimp only [CmpI] at h2<;>(conv=>cbv)
 case true =>
  repeat' (first|(refine And.intro (by first|assumption|exact ⟨by omega⟩|exact ⟨by rw [hlen];omega⟩|exact ⟨rfl,rfl⟩|exact ⟨rfl⟩|exact ⟨rfl,rfl⟩) ?_)|(intro (g:Nat);(conv=>cbv)))
  exact (g2 h2).symm
 replace h2:w2=0:=by omega
 replace g3:=g3 h2
 replace g4:=g4 h2
 clear g2 h82
 repeat' (first|(refine And.intro (by first|assumption|exact ⟨by omega⟩|exact ⟨by rw [hlen];omega⟩|exact ⟨rfl,rfl⟩|exact ⟨rfl⟩|exact ⟨rfl,rfl⟩) ?_)|(intro (g:Nat);(conv=>cbv)))
 refine ⟨_,k,?_⟩
 cases q<;>(conv=>cbv)
 case false =>
  repeat' (first|(refine And.intro (by first|assumption|exact ⟨by omega⟩|exact ⟨by rw [hlen];omega⟩|exact ⟨rfl,rfl⟩|exact ⟨rfl⟩|exact ⟨rfl,rfl⟩) ?_)|(intro (g:Nat);(conv=>cbv)))
  exact (g3 rfl).symm
 replace g4:=g4 rfl
 replace k80:=k80 rfl
 clear g3 k
 repeat' (first|(refine And.intro (by first|assumption|exact ⟨by omega⟩|exact ⟨by rw [hlen];omega⟩|exact ⟨rfl,rfl⟩|exact ⟨rfl⟩|exact ⟨rfl,rfl⟩) ?_)|(intro (g:Nat);(conv=>cbv)))
 refine y4Y (fun n d=>∃ (i:Int) (k:Nat),d=⟨[(3,.ptr 3 1 0),(4,.ptr 4 1 0),(10,.ptr 10 1 0),(37,.sl 3 false xpss),(38,jI (O .len xpss)),(39,jI i)],[(3,⟨1,.rw,.var,(sB s ty po pl cl cm co is no)⟩),(4,⟨1,.rw,.var,[mkS pnm,mkS pap,jI pn0,jI pn1,jI ppr,.sl 4 false xprs,.sl 3 false xpts,.sl 3 false xpss,.sl 2 false xpns,.sl 2 false xpas,jI psi,mkS pon]⟩),(10,⟨1,.rw,.var,[mkS knm,mkS kpo,jI kge,mkS kot,mkS koz,mkS kok,jI kpr,jI kc0,jI kc1,.sl 3 false xkos,jI ktr,mkS kid,jI kph,jI kbo,.bool kma]⟩)],false⟩/\i=k/\k<=pss.length/\n=pss.length-k/\∀ (j:Nat) z,j<k->pss[j]?=some z->T z=true) ⟨_,_,⟨_,0,rfl,rfl,by omega,rfl,by simp⟩,⟨⟨rfl,rfl,rfl,rfl,rfl,rfl,trivial⟩,⟨rfl,rfl,rfl,trivial⟩,rfl⟩⟩ ?_
 rintro J up n d ⟨i,k,rfl,hi,hk,rfl,hno⟩
 conv=>cbv
 rintro (_|_) h1<;>(conv=>cbv)
 ·replace h1:=f_lss hO h1
  rw [hlen] at h1
  have:pss.all T=true:=y6aY fun j z hj hz=>hno j z (by omega) hz
  repeat' (first|(refine And.intro (by first|assumption|exact ⟨by omega⟩|exact ⟨by rw [hlen];omega⟩|exact ⟨rfl,rfl⟩|exact ⟨rfl⟩|exact ⟨rfl,rfl⟩) ?_)|(intro (g:Nat);(conv=>cbv)))
  rw [g4,this]
 replace h1:=t_lss hO h1
 rw [hlen] at h1
 obtain ⟨y,hy⟩:∃ y,pss[k]?=some y:=⟨_,List.getElem?_eq_getElem (by omega)⟩
 have hat:atX xpss i (sprD y):=y7Y hy hxpss hi
 obtain ⟨dl,hk80,hrg,hld,hTy⟩:=k80 y
 have hk83:=k83 y.k
 obtain ⟨q0,hq⟩:∃ q,q=T y:=⟨_,rfl⟩
 rw [←hq] at hTy
 have hst:q0=true->∀ (j:Nat) z,j<k+1->pss[j]?=some z->T z=true:=fun h=>y6cY hno hy (hq.symm.trans h)
 have hht:q0=false->rd=.tup [.bool false,jI 0]:=fun h=>by rw [g4,y6bY hy (hq.symm.trans h)]
 clear hq hy k80 k83 g4 hno
 obtain ⟨yk,ya,yn⟩:=y
 simp only [sprD] at hat hk80 hk83 hTy
 obtain ⟨v,hv⟩:∃ v,v=dm yk:=⟨_,rfl⟩
 rw [←hv] at hk83 hTy
 clear hv
 obtain ⟨ds,hds⟩:∃ ds,ds=dl.map domD:=⟨_,rfl⟩
 have cds:CleanL ds:=by rw [hds];exact y39Y _
 rw [←hds] at hk80
 have hlo:O .len ds=dl.length:=by rw [o_len hO,hds];simp
 have hor:=fun j=>yqjY (v:=v) (l:=dl.take j) (b:=s.pods.length) (by omega) fun d hd=>hrg d (List.mem_of_mem_take hd)
 have hlr:=fun j=>yqkY (l:=dl.take j) (b:=s.pods.length) (by omega) fun d hd=>hrg d (List.mem_of_mem_take hd)
 refine ⟨_,hat,?_⟩
 conv=>cbv
 intro g13
 conv=>cbv
 repeat' (first|(refine And.intro (by first|assumption|exact ⟨by omega⟩|exact ⟨by rw [hlen];omega⟩|exact ⟨rfl,rfl⟩|exact ⟨rfl⟩|exact ⟨rfl,rfl⟩) ?_)|(intro (g:Nat);(conv=>cbv)))
 refine ⟨_,hk80,?_⟩
 conv=>cbv
 repeat' (first|(refine And.intro (by first|assumption|exact ⟨by omega⟩|exact ⟨by rw [hlen];omega⟩|exact ⟨rfl,rfl⟩|exact ⟨rfl⟩|exact ⟨rfl,rfl⟩) ?_)|(intro (g:Nat);(conv=>cbv)))
 refine y4Y (fun n d=>∃ (i2:Int) (k2:Nat) (ow ls:Int),d=⟨[(3,.ptr 3 1 0),(4,.ptr 4 1 0),(10,.ptr 10 1 0),(37,.sl 3 false xpss),(38,jI (O .len xpss)),(39,jI i),(13,.ptr 13 g13 0),(14,jI ow),(15,jI ls),(51,.sl 3 false ds),(52,jI (O .len ds)),(53,jI i2)],[(3,⟨1,.rw,.var,(sB s ty po pl cl cm co is no)⟩),(4,⟨1,.rw,.var,[mkS pnm,mkS pap,jI pn0,jI pn1,jI ppr,.sl 4 false xprs,.sl 3 false xpts,.sl 3 false xpss,.sl 2 false xpns,.sl 2 false xpas,jI psi,mkS pon]⟩),(10,⟨1,.rw,.var,[mkS knm,mkS kpo,jI kge,mkS kot,mkS koz,mkS kok,jI kpr,jI kc0,jI kc1,.sl 3 false xkos,jI ktr,mkS kid,jI kph,jI kbo,.bool kma]⟩),(13,⟨g13,.rw,.var,[mkS yk,mkS ya,jI yn]⟩)],false⟩/\i2=k2/\k2<=dl.length/\n=dl.length-k2/\ow=ownF v (dl.take k2)/\ls=y1eY (dl.take k2)) ⟨_,_,⟨_,0,_,_,rfl,rfl,by omega,rfl,rfl,rfl⟩,⟨⟨rfl,rfl,rfl,rfl,rfl,rfl,rfl,rfl,rfl,rfl,rfl,rfl,trivial⟩,⟨rfl,rfl,rfl,rfl,trivial⟩,rfl⟩⟩ ?_
 rintro J2 up2 n2 d2 ⟨i2,k2,ow,ls,rfl,hi2,hk2,rfl,how,hls⟩
 have hor2:=hor k2
 have hlr2:=hlr k2
 rw [←how] at hor2
 rw [←hls] at hlr2
 conv=>cbv
 rintro (_|_) h3<;>(conv=>cbv)
 ·replace h3:=f_lss hO h3
  rw [hlo] at h3
  rw [List.take_of_length_le (by omega)] at how hls
  rw [←how,←hls] at hTy
  have s1:O .iop .sub .i64 (O .iop .add .i64 ow 1) ls=ow+1-ls:=by rw [y0Y hO (by omega) (by omega),y15Y hO (by omega) (by omega)]
  have s2:O .iop .sub .i64 ow ls=ow-ls:=y15Y hO (by omega) (by omega)
  clear how hls up2 hor hlr
  rintro (_|_) a1<;>replace a1:=cs hO a1<;>dsimp only [CmpS] at a1<;>(conv=>cbv)
  ·rintro (_|_) a2<;>replace a2:=ci hO a2<;>dsimp only [CmpI] at a2<;>(conv=>cbv)
   ·rw [s2] at a2
    rw [if_neg a1] at hTy
    exact ⟨_,_,up _ _ ⟨_,k+1,rfl,by rw [y0Y hO (by omega) (by omega)];omega,by omega,rfl,hst (by rw [hTy,decide_eq_true_eq];omega)⟩,⟨⟨rfl,rfl,rfl,rfl,rfl,rfl,trivial⟩,⟨rfl,rfl,rfl,trivial⟩,rfl⟩,by omega⟩
   ·rw [s2] at a2
    rw [if_neg a1] at hTy
    repeat' (first|(refine And.intro (by first|assumption|exact ⟨by omega⟩|exact ⟨by rw [hlen];omega⟩|exact ⟨rfl,rfl⟩|exact ⟨rfl⟩|exact ⟨rfl,rfl⟩) ?_)|(intro (g:Nat);(conv=>cbv)))
    exact (hht (by rw [hTy,decide_eq_false_iff_not];omega)).symm
  ·rintro (_|_) a2<;>replace a2:=ci hO a2<;>dsimp only [CmpI] at a2<;>(conv=>cbv)
   ·rw [s1] at a2
    rw [if_pos a1] at hTy
    exact ⟨_,_,up _ _ ⟨_,k+1,rfl,by rw [y0Y hO (by omega) (by omega)];omega,by omega,rfl,hst (by rw [hTy,decide_eq_true_eq];omega)⟩,⟨⟨rfl,rfl,rfl,rfl,rfl,rfl,trivial⟩,⟨rfl,rfl,rfl,trivial⟩,rfl⟩,by omega⟩
   ·rw [s1] at a2
    rw [if_pos a1] at hTy
    repeat' (first|(refine And.intro (by first|assumption|exact ⟨by omega⟩|exact ⟨by rw [hlen];omega⟩|exact ⟨rfl,rfl⟩|exact ⟨rfl⟩|exact ⟨rfl,rfl⟩) ?_)|(intro (g:Nat);(conv=>cbv)))
    exact (hht (by rw [hTy,decide_eq_false_iff_not];omega)).symm
 replace h3:=t_lss hO h3
 rw [hlo] at h3
 obtain ⟨z,hz⟩:∃ z,dl[k2]?=some z:=⟨_,List.getElem?_eq_getElem (by omega)⟩
 have hatz:atX ds i2 (domD z):=y7Y hz hds hi2
 have e1:ownF v (dl.take (k2+1))=if z.v=v then z.n else ow:=by rw [List.take_add_one,hz,Option.toList_some,yatY,how]
 have e2:y1eY (dl.take (k2+1))=if ls<0∨z.n<ls then z.n else ls:=by rw [List.take_add_one,hz,Option.toList_some,y7xY,hls]
 clear hz how hls hTy hst hht hor hlr
 obtain ⟨zk,zv,zn⟩:=z
 simp only [domD] at hatz e1 e2
 refine ⟨_,hatz,?_⟩
 conv=>cbv
 intro g17
 conv=>cbv
 repeat' (first|(refine And.intro (by first|assumption|exact ⟨by omega⟩|exact ⟨by rw [hlen];omega⟩|exact ⟨rfl,rfl⟩|exact ⟨rfl⟩|exact ⟨rfl,rfl⟩) ?_)|(intro (g:Nat);(conv=>cbv)))
 refine ⟨_,hk83,?_⟩
 conv=>cbv
 repeat' (first|(refine And.intro (by first|assumption|exact ⟨by omega⟩|exact ⟨by rw [hlen];omega⟩|exact ⟨rfl,rfl⟩|exact ⟨rfl⟩|exact ⟨rfl,rfl⟩) ?_)|(intro (g:Nat);(conv=>cbv)))
 rintro (_|_) a1<;>replace a1:=cs hO a1<;>dsimp only [CmpS] at a1<;>(conv=>cbv)
 all_goals (rintro (_|_) a2<;>replace a2:=ci hO a2<;>dsimp only [CmpI] at a2<;>(conv=>cbv))
 all_goals (try (rintro (_|_) a3<;>replace a3:=ci hO a3<;>dsimp only [CmpI] at a3<;>(conv=>cbv)))
 all_goals exact ⟨_,_,up2 _ _ ⟨_,k2+1,_,_,rfl,by rw [y0Y hO (by omega) (by omega)];omega,by omega,rfl,by rw [e1];first|exact (if_pos a1).symm|exact (if_neg a1).symm,by rw [e2];split<;>omega⟩,⟨⟨rfl,rfl,rfl,rfl,rfl,rfl,rfl,rfl,rfl,rfl,rfl,rfl,trivial⟩,⟨rfl,rfl,rfl,rfl,trivial⟩,rfl⟩,by omega⟩
end Go.Proofs.AM
