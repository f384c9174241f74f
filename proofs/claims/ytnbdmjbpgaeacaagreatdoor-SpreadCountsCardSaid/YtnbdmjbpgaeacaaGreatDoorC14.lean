/- Part 14 of the lemmas: AGd, APYa, APYb. -/
import Derived.Test.YtnbdmjbpgaeacaaGreatDoorCards
import Derived.Test.YtnbdmjbpgaeacaaGreatDoorTie
import Derived.Test.YtnbdmjbpgaeacaaGreatDoorC13
import Derived.ProofKit
import Derived.LaidMore
import Derived.OpenShut
import Derived.Stop.Joined
import Derived.Stop.LaidErr
import Derived.SevenTiedAt
import Derived.Test.YtnbdmjbpgaeacaaGreatDoorC06
import Derived.Test.YtnbdmjbpgaeacaaGreatDoorProg
set_option maxRecDepth 100000
set_option maxHeartbeats 8000000
set_option linter.all false
namespace Go.Proofs.YtnbdmjbpgaeacaaGreatDoor
open Go Go.ChangeShapes Go.WideShapes Go.ChangeAt Go.WideMaps Go.WideElems Go.RowKit Go.Proofs.AM
set_option maxRecDepth 100000
theorem own:ownKnob Tryz.prog.godebug=none:=by kernel_rfl
theorem laidOut:laidOutB Tryz.prog=true:=by kernel_rfl
abbrev laid5 : List (String × DataW Unit) := [("math/bits.deBruijn32tab", Rows.laid_math_bits_deBruijn32tab), ("math/bits.deBruijn64tab", Rows.laid_math_bits_deBruijn64tab), ("internal/strconv.uint64pow10", Rows.laid_internal_strconv_uint64pow10), ("strconv.ErrRange", Rows.laid_strconv_ErrRange), ("strconv.ErrSyntax", Rows.laid_strconv_ErrSyntax)]
theorem door_met (os:Os) (args:Array Value):laidMetH Tryz.prog laid5 ((World.doorLaid Tryz.prog 62 os).forCall (fun _ _=>0) ⟨#[],args,[]⟩).memory :=
 laidMetH_of_parts3 (fuel:=8) (laidMet_of_run' 8 (by kernel_rfl) (by kernel_rfl)) (by kernel_rfl) (by kernel_rfl)
theorem star : "*" ++ "errors.errorString" = "*errors.errorString" := by decide
theorem yf4Y (u : TypeId) (h : Tryz.prog.typeName? 3 u = some "*errors.errorString") : u = 327 :=
 typeName_ptr_named (nm := "errors.errorString") (by rw [star]; kernel_rfl) (by kernel_rfl) (by decide) u (by rw [star]; exact h)
theorem of_laid {W:World} (h:laidMetH Tryz.prog laid5 W):Gd Tryz.prog W:=by
 rw [MakeChecks.laidMetH_plain _ _ _ (by kernel_rfl)] at h
 have h2:=h.tail.tail
 have h3:=h2.tail
 have h4:=h3.tail
 obtain ⟨a0, s0, hv0, -, -, -⟩ := laid_sentinel h3 (show Tryz.prog.globalNamed "strconv.ErrRange" = some 2 by kernel_rfl) (show (Tryz.prog.globals[2]?).map (·.type) = some 270 by kernel_rfl) Tryz.underlying270 yf4Y Tryz.underlying327 Tryz.underlying329 rfl rfl Tryz.underlying9 (by kernel_rfl) (by kernel_rfl)
 obtain ⟨a1, s1, hv1, -, -, -⟩ := laid_sentinel h4 (show Tryz.prog.globalNamed "strconv.ErrSyntax" = some 1 by kernel_rfl) (show (Tryz.prog.globals[1]?).map (·.type) = some 270 by kernel_rfl) Tryz.underlying270 yf4Y Tryz.underlying327 Tryz.underlying329 rfl rfl Tryz.underlying9 (by kernel_rfl) (by kernel_rfl)
 exact ⟨⟨_, _, hv1⟩, ⟨_, _, hv0⟩, Lib.tabIs_of_head (show Tryz.prog.globalNamed "internal/strconv.uint64pow10" = some 3 by kernel_rfl) (show (Tryz.prog.globals[3]?).map (·.type) = some 316 by kernel_rfl) Tryz.underlying316 Tryz.underlying243 (by kernel_rfl) (by kernel_rfl) h2⟩
theorem joined_split {P:Program} {f:FuncId} {fn:Func} {s:ChangeSpec} {c:OpenClaim}
 (k1:(c.wf (OpenSpec.ofChange s)&&laidOutB P&&mapsRowed P&&fn.params.all (P.readableRec ·)&&namedTie P c.named s.vars&&(c.stops == [])&&(P.stops == [])&&(c.knobs == [])&&(P.stopKnobs == []))=true)
 (k2:(c.inPlace == P.inPlace f)=true) (k3:(c.unfollowed == P.unfollowed f)=true) (k4:(c.recurses == P.recurses f)=true) (k5:(c.named == P.varsNamed f)=true)
 (k6:((c.maps == (fn.params.toList++s.plain.varTypes P).any (P.mapsRec ·))&&(c.ifaces == (fn.params.toList++s.plain.varTypes P).any (P.ifacesRec ·))&&(c.mapsOut == P.mapsAmong fn.resultTypes.toList)&&(c.loops == (fn.params.toList++s.plain.varTypes P).any (P.loopsFrom ·))&&(c.wideKeys == (fn.params.toList++s.plain.varTypes P++fn.resultTypes.toList).any (P.wideKeysFrom ·)))=true)
 (k7:(s.vars.all (P.varReadable ·)&&fn.resultTypes.all (fun t=>P.readableRec t&&decide (t<P.types.size))&&(c.ifacesOut == fn.resultTypes.toList.any (P.ifacesRec ·))&&(c.loopsOut == fn.resultTypes.toList.any (P.loopsFrom ·)))=true)
 (k8:(c.plainKeys == P.plainKeys)=true) (k9:(c.shortTexts.isNone&&P.stopsHeard&&P.mayEnter)=true) (k10:(c.lifted == P.liftsFinal)=true) (k11:(P.make == some c.make)=true)
 (k12:((c.kinds == (if c.domain.isEmpty then [] else fn.params.toList.map fun t=>match P.underlying t with|some (.int k)=>some k|_=>none))&&(c.pinned == c.pinnedBy))=true)
 (k13:((c.veiled == (fn.params.toList++s.plain.varTypes P++fn.resultTypes.toList).any (P.veiledRec ·))&&c.veiledFits P fn.params.toList (fn.params.toList++s.plain.varTypes P++fn.resultTypes.toList))=true):joinedFacts P f fn s c=true:=by
 unfold joinedFacts
 simp only [Bool.and_eq_true] at k1 k6 k7 k9 k12 k13 ⊢
 obtain ⟨⟨⟨⟨⟨⟨⟨⟨a1,a2⟩,a3⟩,a4⟩,a5⟩,a6⟩,a7⟩,a8⟩,a9⟩:=k1
 obtain ⟨⟨⟨⟨b1,b2⟩,b3⟩,b4⟩,b5⟩:=k6
 obtain ⟨⟨⟨c1,c2⟩,c3⟩,c4⟩:=k7
 obtain ⟨⟨d1,d2⟩,d3⟩:=k9
 refine ⟨⟨⟨⟨⟨⟨⟨⟨⟨⟨⟨⟨⟨⟨⟨⟨⟨⟨⟨⟨⟨⟨⟨⟨⟨⟨⟨⟨⟨⟨⟨a1,a2⟩,a3⟩,a4⟩,a5⟩,a6⟩,a7⟩,a8⟩,a9⟩,k2⟩,k3⟩,k4⟩,k5⟩,b1⟩,b2⟩,b3⟩,b4⟩,b5⟩,c1⟩,c2⟩,c3⟩,c4⟩,k8⟩,d1⟩,d2⟩,d3⟩,k10⟩,k11⟩,k12.1⟩,k12.2⟩,k13.1⟩,k13.2⟩
abbrev Fits (t:TypeId) (x:D):Prop:=∃ ls g cs,lfT Tryz.prog 20 t=some ls/\aggT Tryz.prog t=some g/\mkD g cs=some x/\FitLs ls cs
theorem yf5Y {t:TypeId} {ls:List Lf} (h1:lfT Tryz.prog 20 t=some ls) (h2:aggT Tryz.prog t=some true) {x:D} (h:Fits t x):∃ cs,x=.agg cs/\FitLs ls cs:=by
 obtain ⟨ls',g,cs,a1,a2,a3,a4⟩:=h
 obtain rfl:=Option.some.inj (h1.symm.trans a1)
 obtain rfl:=Option.some.inj (h2.symm.trans a2)
 simp only [mkD,Option.some.injEq] at a3
 exact ⟨cs,a3.symm,a4⟩
theorem ylmY {t:TypeId} {l:Lf} (h1:lfT Tryz.prog 20 t=some [l]) (h2:aggT Tryz.prog t=some false) {x:D} (h:Fits t x):FitL l x:=by
 obtain ⟨ls',g,cs,a1,a2,a3,a4⟩:=h
 obtain rfl:=Option.some.inj (h1.symm.trans a1)
 obtain rfl:=Option.some.inj (h2.symm.trans a2)
 obtain ⟨d,_,rfl,b1,b2⟩:=y6Y a4
 obtain rfl:=y1tY b2
 simp only [mkD,Option.some.injEq] at a3
 rwa [a3] at b1
theorem fits_str {x:D} (h:Fits 9 x):∃ s,x=mkS s/\SL s:=yuY (ylmY (l:=.str) (by kernel_rfl) (by kernel_rfl) h)
theorem args_cons {t:TypeId} {ts:List TypeId} {xs:List D} (h:ArgsFit Tryz.prog (t::ts) xs):∃ x r,xs=x::r/\Fits t x/\ArgsFit Tryz.prog ts r:=h
theorem args_nil {xs:List D} (h:ArgsFit Tryz.prog [] xs):xs=[]:=h
theorem fits_snap {x:D} (h:Fits 33 x):∃ s,x=snapD s/\FSnap s:=by
 obtain ⟨cs,rfl,hc⟩:=yf5Y (ls:=snapLs) (by kernel_rfl) (by kernel_rfl) h
 obtain ⟨s,rfl,hs⟩:=ylkY hc
 exact ⟨s,rfl,hs⟩
theorem fits_pod {x:D} (h:Fits 59 x):∃ p,x=podD p/\FPod p:=by
 obtain ⟨cs,rfl,hc⟩:=yf5Y (ls:=podLs) (by kernel_rfl) (by kernel_rfl) h
 obtain ⟨p,rfl,hp⟩:=yevY hc
 exact ⟨p,rfl,hp⟩
theorem mainIs_t : Tryz.prog.mainIs = some (true, "12857ace036f4670686d1961319b34f0a5366c5768523ec50e0dce2bf56e83df".toList) := by kernel_rfl
theorem looks_t:true=Tryz.prog.looks []:=by kernel_rfl
end Go.Proofs.YtnbdmjbpgaeacaaGreatDoor
namespace Go.Proofs.AM
open Go Cd
noncomputable def c229:Func:=⟨2,13,[.tmp 4],cB Tryz.prog [] Tryz.f229⟩
noncomputable def c230:Func:=⟨2,20,[.cell 4 2 true],cB Tryz.prog [] Tryz.f230⟩
noncomputable def c203:Func:=⟨2,34,[.cell 4 2 true,.tmp 5],cB Tryz.prog [] Tryz.f203⟩
noncomputable def c191:Func:=⟨2,16,[.tmp 4],cB Tryz.prog [] Tryz.f191⟩
noncomputable def c151:Func:=⟨2,13,[.tmp 4],cB Tryz.prog [] Tryz.f151⟩
noncomputable def c178:Func:=⟨2,38,[.cell 4 2 true,.tmp 5],cB Tryz.prog [] Tryz.f178⟩
noncomputable def c91:Func:=⟨2,25,[.tmp 4],cB Tryz.prog [] Tryz.f91⟩
noncomputable def c98:Func:=⟨1,27,[.tmp 2],cB Tryz.prog [] Tryz.f98⟩
noncomputable def c157:Func:=⟨1,42,[.tmp 2],cB Tryz.prog [] Tryz.f157⟩
noncomputable def c198:Func:=⟨1,37,[.tmp 2],cB Tryz.prog [] Tryz.f198⟩
noncomputable def c199:Func:=⟨1,38,[.tmp 2],cB Tryz.prog [] Tryz.f199⟩
noncomputable def c241:Func:=⟨2,9,[.tmp 3],cB Tryz.prog [] Tryz.f241⟩
noncomputable def c243:Func:=⟨2,16,[.tmp 3],cB Tryz.prog [] Tryz.f243⟩
noncomputable def c159:Func:=⟨2,9,[.tmp 3],cB Tryz.prog [] Tryz.f159⟩
noncomputable def c162:Func:=⟨2,29,[.cell 4 2 true,.tmp 5],cB Tryz.prog [6] Tryz.f162⟩
noncomputable def c193:Func:=⟨1,40,[.tmp 2],cB Tryz.prog [] Tryz.f193⟩
noncomputable def c213:Func:=⟨1,21,[.tmp 2],cB Tryz.prog [] Tryz.f213⟩
noncomputable def c119:Func:=⟨1,41,[.tmp 2],cB Tryz.prog [] Tryz.f119⟩
noncomputable def c73:Func:=⟨1,39,[.tmp 2],cB Tryz.prog [] Tryz.f73⟩
noncomputable def c174:Func:=⟨1,56,[.tmp 2],cB Tryz.prog [] Tryz.f174⟩
noncomputable def c175:Func:=⟨1,73,[.tmp 2],cB Tryz.prog [] Tryz.f175⟩
noncomputable def c152:Func:=⟨2,70,[.cell 4 7 true,.cell 5 4 true,.tmp 6],cB Tryz.prog [67,166010] Tryz.f152⟩
noncomputable def c123:Func:=⟨2,28,[.cell 4 2 true,.tmp 5],cB Tryz.prog [] Tryz.f123⟩
noncomputable def c242:Func:=⟨2,9,[.tmp 4],cB Tryz.prog [] Tryz.f242⟩
noncomputable def c262:Func:=⟨2,19,[.tmp 4],cB Tryz.prog [] Tryz.f262⟩
noncomputable def c158:Func:=⟨2,9,[.tmp 4],cB Tryz.prog [] Tryz.f158⟩
noncomputable def c200:Func:=⟨2,19,[.tmp 4],cB Tryz.prog [] Tryz.f200⟩
noncomputable def c205:Func:=⟨2,9,[.tmp 4],cB Tryz.prog [] Tryz.f205⟩
noncomputable def c246:Func:=⟨2,19,[.tmp 4],cB Tryz.prog [] Tryz.f246⟩
noncomputable def c45:Func:=⟨1,103,[.tmp 2],cB Tryz.prog [] Tryz.f45⟩
noncomputable def c96:Func:=⟨1,9,[.tmp 2],cB Tryz.prog [] Tryz.f96⟩
noncomputable def c97:Func:=⟨1,9,[.tmp 2],cB Tryz.prog [] Tryz.f97⟩
noncomputable def c99:Func:=⟨1,26,[.tmp 2],cB Tryz.prog [] Tryz.f99⟩
noncomputable def c163:Func:=⟨2,9,[.tmp 4],cB Tryz.prog [] Tryz.f163⟩
noncomputable def c204:Func:=⟨2,8,[.tmp 3],cB Tryz.prog [] Tryz.f204⟩
noncomputable def c100:Func:=⟨1,63,[.tmp 2],cB Tryz.prog [] Tryz.f100⟩
noncomputable def c164:Func:=⟨2,9,[.tmp 4],cB Tryz.prog [] Tryz.f164⟩
noncomputable def c206:Func:=⟨2,15,[.tmp 3],cB Tryz.prog [] Tryz.f206⟩
noncomputable def c165:Func:=⟨2,9,[.tmp 4],cB Tryz.prog [] Tryz.f165⟩
noncomputable def c207:Func:=⟨2,8,[.tmp 3],cB Tryz.prog [] Tryz.f207⟩
noncomputable def c101:Func:=⟨1,44,[.tmp 2],cB Tryz.prog [] Tryz.f101⟩
noncomputable def c102:Func:=⟨1,36,[.tmp 2],cB Tryz.prog [] Tryz.f102⟩
noncomputable def c167:Func:=⟨2,22,[.tmp 4],cB Tryz.prog [] Tryz.f167⟩
noncomputable def c103:Func:=⟨1,42,[.tmp 2],cB Tryz.prog [] Tryz.f103⟩
noncomputable def c104:Func:=⟨1,66,[.tmp 2],cB Tryz.prog [60,61,63,64] Tryz.f104⟩
noncomputable def c46:Func:=⟨2,9,[.tmp 4],cB Tryz.prog [] Tryz.f46⟩
noncomputable def c105:Func:=⟨2,19,[.tmp 4],cB Tryz.prog [] Tryz.f105⟩
noncomputable def c169:Func:=⟨2,9,[.tmp 4],cB Tryz.prog [] Tryz.f169⟩
noncomputable def c50:Func:=⟨2,19,[.tmp 4],cB Tryz.prog [] Tryz.f50⟩
noncomputable def c33:Func:=⟨1,178,[.tmp 2],cB Tryz.prog [] Tryz.f33⟩
noncomputable def c71:Func:=⟨1,9,[.tmp 2],cB Tryz.prog [] Tryz.f71⟩
noncomputable def c72:Func:=⟨1,9,[.tmp 2],cB Tryz.prog [] Tryz.f72⟩
noncomputable def c49:Func:=⟨2,22,[.cell 4 10 true,.tmp 5],cB Tryz.prog [] Tryz.f49⟩
noncomputable def c76:Func:=⟨2,22,[.cell 4 15 true,.tmp 5],cB Tryz.prog [] Tryz.f76⟩
noncomputable def c75:Func:=⟨1,76,[.tmp 2],cB Tryz.prog [] Tryz.f75⟩
noncomputable def c125:Func:=⟨2,30,[.tmp 4],cB Tryz.prog [] Tryz.f125⟩
noncomputable def c77:Func:=⟨1,146,[.tmp 2],cB Tryz.prog [] Tryz.f77⟩
noncomputable def c122:Func:=⟨2,24,[.tmp 4],cB Tryz.prog [] Tryz.f122⟩
end Go.Proofs.AM
