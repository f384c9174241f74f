/- Part 14 of the lemmas: AGd, APYa, APYb. -/
import Derived.Test.YtnbdmjbpgaeacaaGreatDoorCards
import Derived.Test.YtnbdmjbpgaeacaaGreatDoorTie
import Derived.Test.YtnbdmjbpgaeacaaGreatDoorM13
import Derived.ProofKit
import Derived.LaidMore
import Derived.OpenShut
import Derived.Stop.Joined
import Derived.Stop.LaidErr
import Derived.SevenTiedAt
import Derived.Test.YtnbdmjbpgaeacaaGreatDoorM06
set_option maxRecDepth 100000
set_option maxHeartbeats 8000000
set_option linter.all false
namespace Go.Proofs.YtnbdmjbpgaeacaaGreatDoor
open Go Go.ChangeShapes Go.WideShapes Go.ChangeAt Go.WideMaps Go.WideElems Go.RowKit Go.Proofs.AM
set_option maxRecDepth 100000
theorem own:ownKnob Tryz.prog.godebug=none:=by kernel_rfl
theorem laidOut:laidOutB Tryz.prog=true:=by kernel_rfl
abbrev laid5 : List (String × DataW Unit) := [("math/bits.deBruijn32tab", Rows.laid_math_bits_deBruijn32tab), ("math/bits.deBruijn64tab", Rows.laid_math_bits_deBruijn64tab), ("internal/strconv.uint64pow10", Rows.laid_internal_strconv_uint64pow10), ("strconv.ErrRange", Rows.laid_strconv_ErrRange), ("strconv.ErrSyntax", Rows.laid_strconv_ErrSyntax)]
theorem door_met (os:Os) (args:Array Value):laidMetH Tryz.prog laid5 ((World.doorLaid Tryz.prog 62 os).forCall (fun _ _=>0) ⟨#[],args,[]⟩).memory :=
 laidMetH_of_parts3 (fuel:=8) (laidMet_of_run' 8 (by kernel_rfl) (by kernel_rfl)) (by kernel_rfl) (by kernel_rfl)
theorem star : "*" ++ "errors.errorString" = "*errors.errorString" := by decide
theorem ye4Y (u : TypeId) (h : Tryz.prog.typeName? 3 u = some "*errors.errorString") : u = 327 :=
 typeName_ptr_named (nm := "errors.errorString") (by rw [star]; kernel_rfl) (by kernel_rfl) (by decide) u (by rw [star]; exact h)
theorem of_laid {W:World} (h:laidMetH Tryz.prog laid5 W):Gd Tryz.prog W:=by
 rw [MakeChecks.laidMetH_plain _ _ _ (by kernel_rfl)] at h
 have h2:=h.tail.tail
 have h3:=h2.tail
 have h4:=h3.tail
 obtain ⟨a0, s0, hv0, -, -, -⟩ := laid_sentinel h3 (show Tryz.prog.globalNamed "strconv.ErrRange" = some 2 by kernel_rfl) (show (Tryz.prog.globals[2]?).map (·.type) = some 270 by kernel_rfl) Tryz.underlying270 ye4Y Tryz.underlying327 Tryz.underlying329 rfl rfl Tryz.underlying9 (by kernel_rfl) (by kernel_rfl)
 obtain ⟨a1, s1, hv1, -, -, -⟩ := laid_sentinel h4 (show Tryz.prog.globalNamed "strconv.ErrSyntax" = some 1 by kernel_rfl) (show (Tryz.prog.globals[1]?).map (·.type) = some 270 by kernel_rfl) Tryz.underlying270 ye4Y Tryz.underlying327 Tryz.underlying329 rfl rfl Tryz.underlying9 (by kernel_rfl) (by kernel_rfl)
 exact ⟨⟨_, _, hv1⟩, ⟨_, _, hv0⟩, Lib.tabIs_of_head (show Tryz.prog.globalNamed "internal/strconv.uint64pow10" = some 3 by kernel_rfl) (show (Tryz.prog.globals[3]?).map (·.type) = some 316 by kernel_rfl) Tryz.underlying316 Tryz.underlying243 (by kernel_rfl) (by kernel_rfl) h2⟩
theorem joined_split {P:Program} {f:FuncId} {fn:Func} {s:ChangeSpec} {c:OpenClaim}
 (k1:(c.wf (OpenSpec.ofChange s)&&laidOutB P&&mapsRowed P&&fn.params.all (P.readableRec ·)&&namedTie P c.named s.vars&&(c.stops == [])&&(P.stops == [])&&(c.knobs == [])&&(P.stopKnobs == []))=true)
 (k2:(c.inPlace == P.inPlace f)=true) (k3:(c.unfollowed == P.unfollowed f)=true) (k4:(c.recurses == P.recurses f)=true) (k5:(c.named == P.varsNamed f)=true)
 (k6:((c.maps == (fn.params.toList++s.plain.varTypes P).any (P.mapsRec ·))&&(c.ifaces == (fn.params.toList++s.plain.varTypes P).any (P.ifacesRec ·))&&(c.mapsOut == P.mapsAmong fn.resultTypes.toList)&&(c.loops == (fn.params.toList++s.plain.varTypes P).any (P.loopsFrom ·))&&(c.wideKeys == (fn.params.toList++s.plain.varTypes P++fn.resultTypes.toList).any (P.wideKeysFrom ·)))=true)
 (k7:(s.vars.all (P.varReadable ·)&&fn.resultTypes.all (fun t=>P.readableRec t&&decide (t<P.types.size))&&(c.ifacesOut == fn.resultTypes.toList.any (P.ifacesRec ·))&&(c.loopsOut == fn.resultTypes.toList.any (P.loopsFrom ·)))=true)
 (k8:(c.plainKeys == P.plainKeys)=true) (k9:(c.shortTexts.isNone&&P.stopsHeard&&P.mayEnter)=true) (k10:(c.lifted == P.liftsFinal)=true) (k11:(P.make == some c.make)=true)
 (k12:((c.kinds == (if c.domain.isEmpty then [] else fn.params.toList.map fun t=>match P.underlying t with|some (.int k)=>some k|_=>none))&&(c.pinned == c.pinnedBy))=true)
 (k13:((c.veiled == (fn.params.toList++s.plain.varTypes P++fn.resultTypes.toList).any (P.veiledRec ·))&&c.veiledFits P fn.params.toList (fn.params.toList++s.plain.varTypes P++fn.resultTypes.toList))=true):joinedFacts P f fn s c=true:=by
 unfold joinedFacts
 simp only [Bool.and_eq_true] at k1 k6 k7 k9 k12 k13 ⊢
 obtain ⟨⟨⟨⟨⟨⟨⟨⟨a1,a2⟩,a3⟩,a4⟩,a5⟩,a6⟩,a7⟩,a8⟩,a9⟩:=k1
 obtain ⟨⟨⟨⟨b1,b2⟩,b3⟩,b4⟩,b5⟩:=k6
 obtain ⟨⟨⟨c1,c2⟩,c3⟩,c4⟩:=k7
 obtain ⟨⟨d1,d2⟩,d3⟩:=k9
 refine ⟨⟨⟨⟨⟨⟨⟨⟨⟨⟨⟨⟨⟨⟨⟨⟨⟨⟨⟨⟨⟨⟨⟨⟨⟨⟨⟨⟨⟨⟨⟨a1,a2⟩,a3⟩,a4⟩,a5⟩,a6⟩,a7⟩,a8⟩,a9⟩,k2⟩,k3⟩,k4⟩,k5⟩,b1⟩,b2⟩,b3⟩,b4⟩,b5⟩,c1⟩,c2⟩,c3⟩,c4⟩,k8⟩,d1⟩,d2⟩,d3⟩,k10⟩,k11⟩,k12.1⟩,k12.2⟩,k13.1⟩,k13.2⟩
abbrev Fits (t:TypeId) (x:D):Prop:=∃ ls g cs,lfT Tryz.prog 20 t=some ls/\aggT Tryz.prog t=some g/\mkD g cs=some x/\FitLs ls cs
theorem ye5Y {t:TypeId} {ls:List Lf} (h1:lfT Tryz.prog 20 t=some ls) (h2:aggT Tryz.prog t=some true) {x:D} (h:Fits t x):∃ cs,x=.agg cs/\FitLs ls cs:=by
 obtain ⟨ls',g,cs,a1,a2,a3,a4⟩:=h
 obtain rfl:=Option.some.inj (h1.symm.trans a1)
 obtain rfl:=Option.some.inj (h2.symm.trans a2)
 simp only [mkD,Option.some.injEq] at a3
 exact ⟨cs,a3.symm,a4⟩
theorem ye6Y {t:TypeId} {l:Lf} (h1:lfT Tryz.prog 20 t=some [l]) (h2:aggT Tryz.prog t=some false) {x:D} (h:Fits t x):FitL l x:=by
 obtain ⟨ls',g,cs,a1,a2,a3,a4⟩:=h
 obtain rfl:=Option.some.inj (h1.symm.trans a1)
 obtain rfl:=Option.some.inj (h2.symm.trans a2)
 obtain ⟨d,_,rfl,b1,b2⟩:=y7Y a4
 obtain rfl:=y1yY b2
 simp only [mkD,Option.some.injEq] at a3
 rwa [a3] at b1
theorem fits_int {x:D} (h:Fits 3 x):∃ n,x=.int .i64 n/\FI n:=yvY (ye6Y (l:=.int .i64) (by kernel_rfl) (by kernel_rfl) h)
theorem fits_str {x:D} (h:Fits 9 x):∃ s,x=mkS s/\SL s:=y14Y (ye6Y (l:=.str) (by kernel_rfl) (by kernel_rfl) h)
theorem args_cons {t:TypeId} {ts:List TypeId} {xs:List D} (h:ArgsFit Tryz.prog (t::ts) xs):∃ x r,xs=x::r/\Fits t x/\ArgsFit Tryz.prog ts r:=h
theorem args_nil {xs:List D} (h:ArgsFit Tryz.prog [] xs):xs=[]:=h
theorem fits_snap {x:D} (h:Fits 33 x):∃ s,x=snapD s/\FSnap s:=by
 obtain ⟨cs,rfl,hc⟩:=ye5Y (ls:=snapLs) (by kernel_rfl) (by kernel_rfl) h
 obtain ⟨s,rfl,hs⟩:=ykcY hc
 exact ⟨s,rfl,hs⟩
theorem fits_pod {x:D} (h:Fits 59 x):∃ p,x=podD p/\FPod p:=by
 obtain ⟨cs,rfl,hc⟩:=ye5Y (ls:=podLs) (by kernel_rfl) (by kernel_rfl) h
 obtain ⟨p,rfl,hp⟩:=ye0Y hc
 exact ⟨p,rfl,hp⟩
theorem mainIs_t : Tryz.prog.mainIs = some (true, "12857ace036f4670686d1961319b34f0a5366c5768523ec50e0dce2bf56e83df".toList) := by kernel_rfl
theorem looks_t:true=Tryz.prog.looks []:=by kernel_rfl
end Go.Proofs.YtnbdmjbpgaeacaaGreatDoor
namespace Go.Proofs.AM
open Go Cd
def c229:Func :=
⟨2,13,[.tmp 4],
 (SS [o 2 (.box (t 0)),o 3 (.box (t 1)),KK 4 0]
 (QQ (SS [o 6 (.load 2 true (t 2)),o 7 (CC 135 [(t 6)]),vv 5 7]
 (SS [vv 8 5,o 9 (.bin .neq (t 8) (II 0))]
 (.cond (t 9) (SS [vv 10 5,vv 4 10]
 .ret) .skip)))
 (SS [o 11 (.load 2 true (t 3)),o 12 (CC 135 [(t 11)]),vv 4 12]
 .ret)))⟩
def c230:Func :=
⟨2,20,[.cell 4 2 true],
 (SS [o 2 (.box (t 0)),o 3 (.box (t 1)),o 4 (.alloc [Zz,Zz])]
 (QQ (SS [KK 6 0]
 (.block 0 (.loop (SS [o 7 (.bin .lss (t 6) (II 2))]
 (QQ (.cond (t 7) .skip (.exit 0))
 (QQ (.block 1 (SS [vv 8 6,vv 5 8]
 (.ops [vv 9 5,vv 10 5,o 11 (.iAddrA 1 2 (t 2) (t 10)),ll 12 11,vv 13 5,o 14 (.iAddrA 1 2 (t 3) (t 13)),ll 15 14,o 16 (.mm false .i64 (t 12) [(t 15)]),o 17 (.iAddrA 1 2 (t 2) (t 9)),w (.store 1 (t 17) (t 16))])))
 (.ops [o 18 (.bin .add (t 6) (II 1)),vv 6 18])))))))
 (SS [o 19 (.load 2 true (t 2)),w (.store 2 (t 4) (t 19))]
 .ret)))⟩
def c203:Func :=
⟨2,34,[.cell 4 2 true,.tmp 5],
 (SS [o 2 (.box (t 0)),o 3 (.box (t 1)),o 4 (.alloc [Zz,Zz]),KK 5 0]
 (QQ (SS [o 8 (.load 2 true (t 2)),o 9 (.load 2 true (t 3)),o 10 (CC 229 [(t 8),(t 9)]),vv 6 10]
 (SS [vv 11 6,o 12 (.bin .neq (t 11) (II 0))]
 (.cond (t 12) (SS [o 13 (.build [Zz,Zz] []),vv 14 6,w (.store 2 (t 4) (t 13)),vv 5 14]
 .ret) .skip)))
 (QQ (SS [o 15 (.load 2 true (t 2)),o 16 (.load 2 true (t 3)),o 17 (.call true (c (.fn 230 [] [])) [(t 15),(t 16)]),o 18 (.load 2 true (t 3)),o 19 (.eqa true [(0,.int .i64),(1,.int .i64)] (t 17) (t 18))]
 (.cond (t 19) (SS [o 20 (.build [Zz,Zz] []),w (.store 2 (t 4) (t 20)),KK 5 11]
 .ret) .skip))
 (QQ (SS [KK 21 0]
 (.block 0 (.loop (SS [o 22 (.bin .lss (t 21) (II 2))]
 (QQ (.cond (t 22) .skip (.exit 0))
 (QQ (.block 1 (SS [vv 23 21,vv 7 23]
 (.ops [vv 24 7,o 25 (.iAddrA 1 2 (t 2) (t 24)),ll 26 25,vv 27 7,o 28 (.iAddrA 1 2 (t 3) (t 27)),ll 29 28,o 30 (.bin .sub (t 26) (t 29)),o 31 (.iAddrA 1 2 (t 2) (t 24)),w (.store 1 (t 31) (t 30))])))
 (.ops [o 32 (.bin .add (t 21) (II 1)),vv 21 32])))))))
 (SS [o 33 (.load 2 true (t 2)),w (.store 2 (t 4) (t 33)),KK 5 0]
 .ret)))))⟩
def c191:Func :=
⟨2,16,[.tmp 4],
 (SS [o 2 (.box (t 0)),o 3 (.box (t 1)),o 4 (.mov (BB false))]
 (SS [o 5 (.load 2 true (t 2)),o 6 (.load 2 true (t 3)),o 7 (.call true (c (.fn 229 [] [])) [(t 5),(t 6)]),o 8 (.bin .eql (t 7) (II 0)),vv 9 8,gg 10 (.load 2 true (t 2)) 9 true,gg 11 (.load 2 true (t 3)) 9 true,gg 12 (.call true (c (.fn 230 [] [])) [(t 10),(t 11)]) 9 true,gg 13 (.load 2 true (t 2)) 9 true,gg 14 (.eqa false [(0,.int .i64),(1,.int .i64)] (t 12) (t 13)) 9 true,o 15 (.pick (t 9) (t 14) (BB false)),vv 4 15]
 .ret))⟩
def c151:Func :=
⟨2,13,[.tmp 4],
 (SS [o 2 (.box (t 0)),o 3 (.box (t 1)),KK 4 0]
 (SS [o 6 (.load 2 true (t 2)),o 7 (CC 66 [(t 6)]),vv 5 7]
 (QQ (SS [vv 8 5,o 9 (.bin .neq (t 8) (II 0))]
 (.cond (t 9) (SS [vv 10 5,vv 4 10]
 .ret) .skip))
 (SS [o 11 (.load 2 true (t 3)),o 12 (CC 66 [(t 11)]),vv 4 12]
 .ret))))⟩
def c178:Func :=
⟨2,38,[.cell 4 2 true,.tmp 5],
 (SS [o 2 (.box (t 0)),o 3 (.box (t 1)),o 4 (.alloc [Zz,Zz]),KK 5 0]
 (SS [o 7 (.load 2 true (t 2)),o 8 (.load 2 true (t 3)),o 9 (CC 151 [(t 7),(t 8)]),vv 6 9]
 (QQ (SS [vv 10 6,o 11 (.bin .neq (t 10) (II 0))]
 (.cond (t 11) (SS [o 12 (.build [Zz,Zz] []),vv 13 6,w (.store 2 (t 4) (t 12)),vv 5 13]
 .ret) .skip))
 (QQ (SS [o 14 (.iAddrA 1 2 (t 3) (II 0)),ll 15 14,o 16 (.iAddrA 1 2 (t 2) (II 0)),ll 17 16,o 18 (.bin .gtr (t 15) (t 17)),vv 19 18,gg 20 (.iAddrA 1 2 (t 3) (II 1)) 19 false,gl 21 20 19 false,gg 22 (.iAddrA 1 2 (t 2) (II 1)) 19 false,gl 23 22 19 false,gg 24 (.bin .gtr (t 21) (t 23)) 19 false,o 25 (.pick (t 19) (BB true) (t 24))]
 (.cond (t 25) (SS [o 26 (.build [Zz,Zz] []),w (.store 2 (t 4) (t 26)),KK 5 11]
 .ret) .skip))
 (SS [o 27 (.iAddrA 1 2 (t 2) (II 0)),ll 28 27,o 29 (.iAddrA 1 2 (t 3) (II 0)),ll 30 29,o 31 (.bin .sub (t 28) (t 30)),o 32 (.iAddrA 1 2 (t 2) (II 1)),ll 33 32,o 34 (.iAddrA 1 2 (t 3) (II 1)),ll 35 34,o 36 (.bin .sub (t 33) (t 35)),o 37 (.build [Zz,Zz] [(0,1,(t 31)),(1,1,(t 36))]),w (.store 2 (t 4) (t 37)),KK 5 0]
 .ret)))))⟩
def c91:Func :=
⟨2,25,[.tmp 4],
 (SS [o 2 (.box (t 0)),o 3 (.box (t 1)),o 4 (.mov (BB false))]
 (SS [o 6 (.load 2 true (t 2)),o 7 (.load 2 true (t 3)),o 8 (CC 151 [(t 6),(t 7)]),vv 5 8]
 (SS [vv 9 5,o 10 (.bin .eql (t 9) (II 0)),vv 11 10,gg 12 (.iAddrA 1 2 (t 2) (II 0)) 11 true,gl 13 12 11 true,gg 14 (.iAddrA 1 2 (t 3) (II 0)) 11 true,gl 15 14 11 true,gg 16 (.bin .leq (t 13) (t 15)) 11 true,o 17 (.pick (t 11) (t 16) (BB false)),vv 18 17,gg 19 (.iAddrA 1 2 (t 2) (II 1)) 18 true,gl 20 19 18 true,gg 21 (.iAddrA 1 2 (t 3) (II 1)) 18 true,gl 22 21 18 true,gg 23 (.bin .leq (t 20) (t 22)) 18 true,o 24 (.pick (t 18) (t 23) (BB false)),vv 4 24]
 .ret)))⟩
def c98:Func :=
⟨1,27,[.tmp 2],
 (SS [KK 2 0]
 (QQ (SS [vv 6 0,o 7 (.lenSl (t 6)),o 8 (.bin .gtr (t 7) (II 12))]
 (.cond (t 8) (SS [KK 2 3]
 .ret) .skip))
 (QQ (SS [vv 9 0,o 10 (.lenSl (t 9)),KK 11 0]
 (.block 0 (.loop (SS [o 12 (.bin .lss (t 11) (t 10))]
 (QQ (.cond (t 12) .skip (.exit 0))
 (QQ (.block 1 (SS [vv 13 11,o 14 (.iAddrS 7 (t 9) (t 11)),o 15 (.load 7 true (t 14)),o 4 (.alloc [Ee,Zz,Zz,Zz,Zz,(.sl 2 true []),(.sl 4 true [])]),vv 3 13,w (.store 7 (t 4) (t 15))]
 (QQ (SS [o 16 (.load 7 true (t 4)),o 17 (CC 157 [(t 16)]),vv 5 17]
 (SS [vv 18 5,o 19 (.bin .neq (t 18) (II 0))]
 (.cond (t 19) (SS [vv 20 5,vv 2 20]
 .ret) .skip)))
 (SS [vv 21 0,vv 22 3,o 23 (.slc 7 (t 21) none (some (t 22))),o 24 (.mkf 159 [] [(t 4)]),o 25 (CC 158 [(t 23),(t 24)])]
 (.cond (t 25) (SS [KK 2 6]
 .ret) .skip)))))
 (.ops [o 26 (.bin .add (t 11) (II 1)),vv 11 26])))))))
 (SS [KK 2 0]
 .ret))))⟩
def c157:Func :=
⟨1,42,[.tmp 2],
 (SS [o 1 (.box (t 0)),KK 2 0]
 (QQ (SS [ff 7 0 1,ll 8 7,o 9 (CC 184 [(t 8)]),o 10 (.un .not (t 9))]
 (.cond (t 10) (SS [KK 2 7]
 .ret) .skip))
 (QQ (SS [ff 11 1 1,o 12 (.load 2 true (t 11)),ff 13 3 1,o 14 (.load 2 true (t 13)),o 15 (.mkSl false 2 46 (.agg [Zz,Zz]) 2 [(0,(t 12)),(1,(t 14))]),o 16 (.lenSl (t 15)),KK 17 0]
 (.block 0 (.loop (SS [o 18 (.bin .lss (t 17) (t 16))]
 (QQ (.cond (t 18) .skip (.exit 0))
 (QQ (.block 1 (SS [o 19 (.iAddrS 2 (t 15) (t 17)),o 20 (.load 2 true (t 19)),o 4 (.alloc [Zz,Zz]),w (.store 2 (t 4) (t 20))]
 (SS [o 21 (.load 2 true (t 4)),o 22 (CC 135 [(t 21)]),vv 5 22]
 (SS [vv 23 5,o 24 (.bin .neq (t 23) (II 0))]
 (.cond (t 24) (SS [vv 25 5,vv 2 25]
 .ret) .skip)))))
 (.ops [o 26 (.bin .add (t 17) (II 1)),vv 17 26])))))))
 (QQ (SS [ff 27 3 1,o 28 (.load 2 true (t 27)),ff 29 1 1,o 30 (.load 2 true (t 29)),o 31 (CC 191 [(t 28),(t 30)]),o 32 (.un .not (t 31))]
 (.cond (t 32) (SS [KK 2 1]
 .ret) .skip))
 (QQ (SS [ff 33 5 1,ll 34 33,o 35 (CC 198 [(t 34)]),vv 6 35]
 (SS [vv 36 6,o 37 (.bin .neq (t 36) (II 0))]
 (.cond (t 37) (SS [vv 38 6,vv 2 38]
 .ret) .skip)))
 (SS [ff 39 6 1,ll 40 39,o 41 (CC 199 [(t 40)]),vv 2 41]
 .ret))))))⟩
def c198:Func :=
⟨1,37,[.tmp 2],
 (SS [KK 2 0]
 (QQ (SS [vv 5 0,o 6 (.lenSl (t 5)),o 7 (.bin .gtr (t 6) (II 4))]
 (.cond (t 7) (SS [KK 2 3]
 .ret) .skip))
 (QQ (SS [vv 8 0,o 9 (.lenSl (t 8)),KK 10 0]
 (.block 0 (.loop (SS [o 11 (.bin .lss (t 10) (t 9))]
 (QQ (.cond (t 11) .skip (.exit 0))
 (QQ (.block 1 (SS [vv 12 10,o 13 (.iAddrS 2 (t 8) (t 10)),o 14 (.load 2 true (t 13)),o 4 (.alloc [Ee,Ee]),vv 3 12,w (.store 2 (t 4) (t 14))]
 (.block 2 (SS [ff 16 0 4,ll 17 16,o 18 (CC 184 [(t 17)]),o 19 (.un .not (t 18)),vv 15 19]
 (.cond (t 15) (SS [KK 2 7]
 .ret) (SS [o 21 (.mkSl false 1 9 Ee 5 [(0,(c (.str ⟨#[122,111,110,101]⟩))),(1,(c (.str ⟨#[116,121,112,101]⟩))),(2,(c (.str ⟨#[107,105,110,100]⟩))),(3,(c (.str ⟨#[112,111,111,108]⟩))),(4,(c (.str ⟨#[104,111,115,116]⟩)))]),ff 22 0 4,ll 23 22,o 24 (CC 52 [(t 21),(t 23)]),vv 20 24]
 (.cond (t 20) (SS [KK 2 1]
 .ret) (SS [ff 26 1 4,ll 27 26,o 28 (CC 187 [(t 27)]),o 29 (.un .not (t 28)),vv 25 29]
 (.cond (t 25) (SS [KK 2 20]
 .ret) (SS [vv 31 0,vv 32 3,o 33 (.slc 2 (t 31) none (some (t 32))),o 34 (.mkf 241 [] [(t 4)]),o 35 (CC 195 [(t 33),(t 34)]),vv 30 35]
 (.cond (t 30) (SS [KK 2 6]
 .ret) .skip)))))))))))
 (.ops [o 36 (.bin .add (t 10) (II 1)),vv 10 36])))))))
 (SS [KK 2 0]
 .ret))))⟩
def c199:Func :=
⟨1,38,[.tmp 2],
 (SS [KK 2 0]
 (QQ (SS [vv 6 0,o 7 (.lenSl (t 6)),o 8 (.bin .gtr (t 7) (II 6))]
 (.cond (t 8) (SS [KK 2 3]
 .ret) .skip))
 (QQ (SS [vv 9 0,o 10 (.lenSl (t 9)),KK 11 0]
 (.block 0 (.loop (SS [o 12 (.bin .lss (t 11) (t 10))]
 (QQ (.cond (t 12) .skip (.exit 0))
 (QQ (.block 1 (SS [vv 13 11,o 14 (.iAddrS 4 (t 9) (t 11)),o 15 (.load 4 true (t 14)),o 4 (.alloc [Ee,Ee,Zz,(.bool false)]),vv 3 13,w (.store 4 (t 4) (t 15))]
 (QQ (SS [ff 16 0 4,ll 17 16,o 18 (CC 184 [(t 17)]),o 19 (.un .not (t 18)),vv 20 19,gf 21 1 4 20 false,gl 22 21 20 false,gg 23 (CC 184 [(t 22)]) 20 false,gg 24 (.un .not (t 23)) 20 false,o 25 (.pick (t 20) (BB true) (t 24))]
 (.cond (t 25) (SS [KK 2 7]
 .ret) .skip))
 (QQ (SS [ff 26 2 4,ll 27 26,o 28 (CC 185 [(t 27)]),vv 5 28]
 (SS [vv 29 5,o 30 (.bin .neq (t 29) (II 0))]
 (.cond (t 30) (SS [vv 31 5,vv 2 31]
 .ret) .skip)))
 (SS [vv 32 0,vv 33 3,o 34 (.slc 4 (t 32) none (some (t 33))),o 35 (.mkf 243 [] [(t 4)]),o 36 (CC 242 [(t 34),(t 35)])]
 (.cond (t 36) (SS [KK 2 6]
 .ret) .skip))))))
 (.ops [o 37 (.bin .add (t 11) (II 1)),vv 11 37])))))))
 (SS [KK 2 0]
 .ret))))⟩
def c241:Func :=
⟨2,9,[.tmp 3],
 (SS [o 2 (.box (t 0)),o 3 (.mov (BB false))]
 (SS [ff 4 0 2,ll 5 4,ff 6 0 1,ll 7 6,o 8 (.bin .eql (t 5) (t 7)),vv 3 8]
 .ret))⟩
def c243:Func :=
⟨2,16,[.tmp 3],
 (SS [o 2 (.box (t 0)),o 3 (.mov (BB false))]
 (SS [ff 4 0 2,ll 5 4,ff 6 0 1,ll 7 6,o 8 (.bin .eql (t 5) (t 7)),vv 9 8,gf 10 1 2 9 true,gl 11 10 9 true,gf 12 1 1 9 true,gl 13 12 9 true,gg 14 (.bin .eql (t 11) (t 13)) 9 true,o 15 (.pick (t 9) (t 14) (BB false)),vv 3 15]
 .ret))⟩
def c159:Func :=
⟨2,9,[.tmp 3],
 (SS [o 2 (.box (t 0)),o 3 (.mov (BB false))]
 (SS [ff 4 0 2,ll 5 4,ff 6 0 1,ll 7 6,o 8 (.bin .eql (t 5) (t 7)),vv 3 8]
 .ret))⟩
def c162:Func :=
⟨2,29,[.cell 4 2 true,.tmp 5],
 (SS [o 3 (.box (t 1)),o 4 (.alloc [Zz,Zz]),o 5 (.mov (BB false))]
 (SS [vv 11 0,o 12 (.call true (c (.fn 193 [] [])) [(t 11)]),o 13 (.load 3 true (t 3)),o 14 (.look (true,[(0,.str),(1,.str),(2,.str)]) (.agg [Ee,Zz,Zz,Zz,Zz,(.sl 2 true []),(.sl 4 true []),Ee,Ee,Zz,(.bool false)]) true (t 12) (t 13)),vv 10 14,o 15 (.ext 0 (t 10)),o 16 (.ext 1 (t 10)),o 6 (.allocF [Ee,Zz,Zz,Zz,Zz,(.sl 2 true []),(.sl 4 true []),Ee,Ee,Zz,(.bool false)]),w (.store 11 (t 6) (t 15)),vv 7 16]
 (SS [ff 18 0 6,ff 19 1 18,o 20 (.load 2 true (t 19)),ff 21 0 6,ff 22 3 21,o 23 (.load 2 true (t 22)),o 24 (CC 203 [(t 20),(t 23)]),vv 17 24,o 25 (.ext 0 (t 17)),o 26 (.ext 1 (t 17)),o 8 (.alloc [Zz,Zz]),w (.store 2 (t 8) (t 25)),vv 9 26]
 (SS [o 27 (.load 2 true (t 8)),vv 28 7,w (.store 2 (t 4) (t 27)),vv 5 28]
 .ret))))⟩
def c193:Func :=
⟨1,40,[.tmp 2],
 (SS [o 2 (.mov (c .nilm))]
 (SS [o 8 (.mkMap),vv 3 8]
 (QQ (SS [vv 9 0,o 10 (CC 98 [(t 9)]),o 11 (.bin .neq (t 10) (II 0))]
 (.cond (t 11) (SS [vv 12 3,vv 2 12]
 .ret) .skip))
 (QQ (SS [vv 13 0,o 14 (.lenSl (t 13)),KK 15 0]
 (.block 0 (.loop (SS [o 16 (.bin .lss (t 15) (t 14))]
 (QQ (.cond (t 16) .skip (.exit 0))
 (QQ (.block 1 (SS [o 17 (.iAddrS 7 (t 13) (t 15)),o 18 (.load 7 true (t 17)),o 5 (.alloc [Ee,Zz,Zz,Zz,Zz,(.sl 2 true []),(.sl 4 true [])]),w (.store 7 (t 5) (t 18))]
 (SS [ff 19 6 5,ll 20 19,o 21 (.lenSl (t 20)),KK 22 0]
 (.block 2 (.loop (SS [o 23 (.bin .lss (t 22) (t 21))]
 (QQ (.cond (t 23) .skip (.exit 2))
 (QQ (.block 3 (SS [o 24 (.iAddrS 4 (t 20) (t 22)),o 25 (.load 4 true (t 24)),o 7 (.alloc [Ee,Ee,Zz,(.bool false)]),w (.store 4 (t 7) (t 25))]
 (.ops [vv 26 3,ff 27 0 5,ll 28 27,ff 29 0 7,ll 30 29,ff 31 1 7,ll 32 31,o 33 (.build [Ee,Ee,Ee] [(0,1,(t 28)),(1,1,(t 30)),(2,1,(t 32))]),o 34 (.load 7 true (t 5)),o 35 (.load 4 true (t 7)),o 36 (.build [Ee,Zz,Zz,Zz,Zz,(.sl 2 true []),(.sl 4 true []),Ee,Ee,Zz,(.bool false)] [(0,7,(t 34)),(7,4,(t 35))]),w (.mput (true,[(0,.str),(1,.str),(2,.str)]) (t 26) (t 33) (t 36))])))
 (.ops [o 37 (.bin .add (t 22) (II 1)),vv 22 37])))))))))
 (.ops [o 38 (.bin .add (t 15) (II 1)),vv 15 38])))))))
 (SS [vv 39 3,vv 2 39]
 .ret)))))⟩
def c213:Func :=
⟨1,21,[.tmp 2],
 (SS [o 2 (.mov (BB false))]
 (SS [vv 3 0,o 4 (.bin .eql (t 3) (c (.str ⟨#[122,111,110,101]⟩))),vv 5 4,gv 6 0 5 false,gg 7 (.bin .eql (t 6) (c (.str ⟨#[116,121,112,101]⟩))) 5 false,o 8 (.pick (t 5) (BB true) (t 7)),vv 9 8,gv 10 0 9 false,gg 11 (.bin .eql (t 10) (c (.str ⟨#[107,105,110,100]⟩))) 9 false,o 12 (.pick (t 9) (BB true) (t 11)),vv 13 12,gv 14 0 13 false,gg 15 (.bin .eql (t 14) (c (.str ⟨#[112,111,111,108]⟩))) 13 false,o 16 (.pick (t 13) (BB true) (t 15)),vv 17 16,gv 18 0 17 false,gg 19 (.bin .eql (t 18) (c (.str ⟨#[104,111,115,116]⟩))) 17 false,o 20 (.pick (t 17) (BB true) (t 19)),vv 2 20]
 .ret))⟩
def c119:Func :=
⟨1,41,[.tmp 2],
 (SS [o 1 (.box (t 0)),KK 2 0]
 (SS [ff 8 0 1,ll 9 8,o 10 (CC 65 [(t 9)]),vv 3 10]
 (QQ (SS [vv 11 3,o 12 (.un .not (t 11))]
 (.cond (t 12) (SS [KK 2 7]
 .ret) .skip))
 (SS [ff 13 1 1,o 14 (.load 2 true (t 13)),o 15 (CC 66 [(t 14)]),vv 4 15]
 (QQ (SS [vv 16 4,o 17 (.bin .neq (t 16) (II 0))]
 (.cond (t 17) (SS [vv 18 4,vv 2 18]
 .ret) .skip))
 (SS [ff 19 3 1,o 20 (.load 2 true (t 19)),o 21 (CC 66 [(t 20)]),vv 5 21]
 (QQ (SS [vv 22 5,o 23 (.bin .neq (t 22) (II 0))]
 (.cond (t 23) (SS [vv 24 5,vv 2 24]
 .ret) .skip))
 (SS [ff 25 3 1,o 26 (.load 2 true (t 25)),ff 27 1 1,o 28 (.load 2 true (t 27)),o 29 (CC 91 [(t 26),(t 28)]),vv 6 29]
 (QQ (SS [vv 30 6,o 31 (.un .not (t 30))]
 (.cond (t 31) (SS [KK 2 1]
 .ret) .skip))
 (SS [ff 32 5 1,ll 33 32,o 34 (CC 174 [(t 33)]),vv 7 34]
 (QQ (SS [vv 35 7,o 36 (.bin .neq (t 35) (II 0))]
 (.cond (t 36) (SS [vv 37 7,vv 2 37]
 .ret) .skip))
 (SS [ff 38 6 1,ll 39 38,o 40 (CC 175 [(t 39)]),vv 2 40]
 .ret))))))))))))⟩
def c73:Func :=
⟨1,39,[.tmp 2],
 (SS [KK 2 0]
 (QQ (SS [vv 6 0,o 7 (.lenSl (t 6)),o 8 (.bin .gtr (t 7) (II 12))]
 (.cond (t 8) (SS [KK 2 3]
 .ret) .skip))
 (QQ (SS [KK 3 0]
 (.block 0 (.loop (QQ (SS [vv 9 3,vv 10 0,o 11 (.lenSl (t 10)),o 12 (.bin .lss (t 9) (t 11))]
 (.cond (t 12) .skip (.exit 0)))
 (QQ (.block 1 (SS [vv 15 0,vv 16 3,o 17 (.iAddrS 7 (t 15) (t 16)),o 18 (.load 7 true (t 17)),o 19 (CC 119 [(t 18)]),vv 4 19]
 (QQ (SS [vv 20 4,o 21 (.bin .neq (t 20) (II 0))]
 (.cond (t 21) (SS [vv 22 4,vv 2 22]
 .ret) .skip))
 (SS [KK 5 0]
 (.block 2 (.loop (QQ (SS [vv 23 5,vv 24 3,o 25 (.bin .lss (t 23) (t 24))]
 (.cond (t 25) .skip (.exit 2)))
 (QQ (.block 3 (SS [vv 28 0,vv 29 5,o 30 (.iAddrS 7 (t 28) (t 29)),ff 31 0 30,ll 32 31,vv 33 0,vv 34 3,o 35 (.iAddrS 7 (t 33) (t 34)),ff 36 0 35,ll 37 36,o 38 (.bin .eql (t 32) (t 37))]
 (.cond (t 38) (SS [KK 2 6]
 .ret) .skip)))
 (.ops [vv 26 5,o 27 (.bin .add (t 26) (II 1)),vv 5 27])))))))))
 (.ops [vv 13 3,o 14 (.bin .add (t 13) (II 1)),vv 3 14]))))))
 (SS [KK 2 0]
 .ret))))⟩
def c174:Func :=
⟨1,56,[.tmp 2],
 (SS [KK 2 0]
 (QQ (SS [vv 8 0,o 9 (.lenSl (t 8)),o 10 (.bin .gtr (t 9) (II 4))]
 (.cond (t 10) (SS [KK 2 3]
 .ret) .skip))
 (QQ (SS [KK 3 0]
 (.block 0 (.loop (QQ (SS [vv 11 3,vv 12 0,o 13 (.lenSl (t 12)),o 14 (.bin .lss (t 11) (t 13))]
 (.cond (t 14) .skip (.exit 0)))
 (QQ (.block 1 (SS [vv 17 0,vv 18 3,o 19 (.iAddrS 2 (t 17) (t 18)),ff 20 0 19,ll 21 20,o 22 (CC 65 [(t 21)]),vv 4 22]
 (QQ (SS [vv 23 4,o 24 (.un .not (t 23))]
 (.cond (t 24) (SS [KK 2 7]
 .ret) .skip))
 (SS [vv 25 0,vv 26 3,o 27 (.iAddrS 2 (t 25) (t 26)),ff 28 0 27,ll 29 28,o 30 (CC 213 [(t 29)]),vv 5 30]
 (QQ (SS [vv 31 5]
 (.cond (t 31) (SS [KK 2 1]
 .ret) .skip))
 (SS [vv 32 0,vv 33 3,o 34 (.iAddrS 2 (t 32) (t 33)),ff 35 1 34,ll 36 35,o 37 (CC 118 [(t 36)]),vv 6 37]
 (QQ (SS [vv 38 6,o 39 (.un .not (t 38))]
 (.cond (t 39) (SS [KK 2 20]
 .ret) .skip))
 (SS [KK 7 0]
 (.block 2 (.loop (QQ (SS [vv 40 7,vv 41 3,o 42 (.bin .lss (t 40) (t 41))]
 (.cond (t 42) .skip (.exit 2)))
 (QQ (.block 3 (SS [vv 45 0,vv 46 7,o 47 (.iAddrS 2 (t 45) (t 46)),ff 48 0 47,ll 49 48,vv 50 0,vv 51 3,o 52 (.iAddrS 2 (t 50) (t 51)),ff 53 0 52,ll 54 53,o 55 (.bin .eql (t 49) (t 54))]
 (.cond (t 55) (SS [KK 2 6]
 .ret) .skip)))
 (.ops [vv 43 7,o 44 (.bin .add (t 43) (II 1)),vv 7 44])))))))))))))
 (.ops [vv 15 3,o 16 (.bin .add (t 15) (II 1)),vv 3 16]))))))
 (SS [KK 2 0]
 .ret))))⟩
def c175:Func :=
⟨1,73,[.tmp 2],
 (SS [KK 2 0]
 (QQ (SS [vv 8 0,o 9 (.lenSl (t 8)),o 10 (.bin .gtr (t 9) (II 6))]
 (.cond (t 10) (SS [KK 2 3]
 .ret) .skip))
 (QQ (SS [KK 3 0]
 (.block 0 (.loop (QQ (SS [vv 11 3,vv 12 0,o 13 (.lenSl (t 12)),o 14 (.bin .lss (t 11) (t 13))]
 (.cond (t 14) .skip (.exit 0)))
 (QQ (.block 1 (SS [vv 17 0,vv 18 3,o 19 (.iAddrS 4 (t 17) (t 18)),ff 20 0 19,ll 21 20,o 22 (CC 65 [(t 21)]),vv 4 22]
 (SS [vv 23 0,vv 24 3,o 25 (.iAddrS 4 (t 23) (t 24)),ff 26 1 25,ll 27 26,o 28 (CC 65 [(t 27)]),vv 5 28]
 (QQ (SS [vv 29 4,o 30 (.un .not (t 29)),vv 31 30,gv 32 5 31 false,gg 33 (.un .not (t 32)) 31 false,o 34 (.pick (t 31) (BB true) (t 33))]
 (.cond (t 34) (SS [KK 2 7]
 .ret) .skip))
 (SS [vv 35 0,vv 36 3,o 37 (.iAddrS 4 (t 35) (t 36)),ff 38 2 37,ll 39 38,o 40 (CC 116 [(t 39)]),vv 6 40]
 (QQ (SS [vv 41 6,o 42 (.bin .neq (t 41) (II 0))]
 (.cond (t 42) (SS [vv 43 6,vv 2 43]
 .ret) .skip))
 (SS [KK 7 0]
 (.block 2 (.loop (QQ (SS [vv 44 7,vv 45 3,o 46 (.bin .lss (t 44) (t 45))]
 (.cond (t 46) .skip (.exit 2)))
 (QQ (.block 3 (SS [vv 49 0,vv 50 7,o 51 (.iAddrS 4 (t 49) (t 50)),ff 52 0 51,ll 53 52,vv 54 0,vv 55 3,o 56 (.iAddrS 4 (t 54) (t 55)),ff 57 0 56,ll 58 57,o 59 (.bin .eql (t 53) (t 58)),vv 60 59,gv 61 0 60 true,gv 62 7 60 true,gg 63 (.iAddrS 4 (t 61) (t 62)) 60 true,gf 64 1 63 60 true,gl 65 64 60 true,gv 66 0 60 true,gv 67 3 60 true,gg 68 (.iAddrS 4 (t 66) (t 67)) 60 true,gf 69 1 68 60 true,gl 70 69 60 true,gg 71 (.bin .eql (t 65) (t 70)) 60 true,o 72 (.pick (t 60) (t 71) (BB false))]
 (.cond (t 72) (SS [KK 2 6]
 .ret) .skip)))
 (.ops [vv 47 7,o 48 (.bin .add (t 47) (II 1)),vv 7 48]))))))))))))
 (.ops [vv 15 3,o 16 (.bin .add (t 15) (II 1)),vv 3 16]))))))
 (SS [KK 2 0]
 .ret))))⟩
def c152:Func :=
⟨2,70,[.cell 4 7 true,.cell 5 4 true,.tmp 6],
 (SS [o 3 (.box (t 1)),o 4 (.alloc [Ee,Zz,Zz,Zz,Zz,(.sl 2 true []),(.sl 4 true [])]),o 5 (.alloc [Ee,Ee,Zz,(.bool false)]),o 6 (.mov (BB false))]
 (SS [vv 11 0,o 12 (CC 73 [(t 11)]),vv 7 12]
 (QQ (SS [vv 13 7,o 14 (.bin .neq (t 13) (II 0))]
 (.cond (t 14) (SS [o 15 (.build [Ee,Zz,Zz,Zz,Zz,(.sl 2 true []),(.sl 4 true [])] []),o 16 (.build [Ee,Ee,Zz,(.bool false)] []),w (.store 7 (t 4) (t 15)),w (.store 4 (t 5) (t 16)),o 6 (.mov (BB false))]
 .ret) .skip))
 (QQ (SS [KK 8 0]
 (.block 0 (.loop (QQ (SS [vv 17 8,vv 18 0,o 19 (.lenSl (t 18)),o 20 (.bin .lss (t 17) (t 19))]
 (.cond (t 20) .skip (.exit 0)))
 (QQ (.block 1 (SS [KK 9 0]
 (.block 2 (.loop (QQ (SS [vv 23 9,vv 24 0,vv 25 8,o 26 (.iAddrS 7 (t 24) (t 25)),ff 27 6 26,ll 28 27,o 29 (.lenSl (t 28)),o 30 (.bin .lss (t 23) (t 29))]
 (.cond (t 30) .skip (.exit 2)))
 (QQ (.block 3 (SS [vv 33 0,vv 34 8,o 35 (.iAddrS 7 (t 33) (t 34)),ff 36 6 35,ll 37 36,vv 38 9,o 39 (.iAddrS 4 (t 37) (t 38)),o 40 (.load 4 true (t 39)),o 10 (.alloc [Ee,Ee,Zz,(.bool false)]),w (.store 4 (t 10) (t 40))]
 (SS [vv 41 0,vv 42 8,o 43 (.iAddrS 7 (t 41) (t 42)),ff 44 0 43,ll 45 44,ff 46 0 3,ll 47 46,o 48 (.bin .eql (t 45) (t 47)),vv 49 48,gf 50 0 10 49 true,gl 51 50 49 true,gf 52 1 3 49 true,gl 53 52 49 true,gg 54 (.bin .eql (t 51) (t 53)) 49 true,o 55 (.pick (t 49) (t 54) (BB false)),vv 56 55,gf 57 1 10 56 true,gl 58 57 56 true,gf 59 2 3 56 true,gl 60 59 56 true,gg 61 (.bin .eql (t 58) (t 60)) 56 true,o 62 (.pick (t 56) (t 61) (BB false))]
 (.cond (t 62) (SS [vv 63 0,vv 64 8,o 65 (.iAddrS 7 (t 63) (t 64)),o 66 (.load 7 true (t 65)),o 67 (.loadP 4 true (t 10)),w (.storeV 7 (t 4) (t 66) (t 10)),w (.store 4 (t 5) (t 67)),o 6 (.mov (BB true))]
 .ret) .skip))))
 (.ops [vv 31 9,o 32 (.bin .add (t 31) (II 1)),vv 9 32])))))))
 (.ops [vv 21 8,o 22 (.bin .add (t 21) (II 1)),vv 8 22]))))))
 (SS [o 68 (.build [Ee,Zz,Zz,Zz,Zz,(.sl 2 true []),(.sl 4 true [])] []),o 69 (.build [Ee,Ee,Zz,(.bool false)] []),w (.store 7 (t 4) (t 68)),w (.store 4 (t 5) (t 69)),o 6 (.mov (BB false))]
 .ret)))))⟩
def c123:Func :=
⟨2,28,[.cell 4 2 true,.tmp 5],
 (SS [o 3 (.box (t 1)),o 4 (.alloc [Zz,Zz]),o 5 (.mov (BB false))]
 (SS [vv 12 0,o 13 (.load 3 true (t 3)),o 14 (CC 152 [(t 12),(t 13)]),vv 11 14,o 15 (.ext 0 (t 11)),o 16 (.ext 1 (t 11)),o 17 (.ext 2 (t 11)),o 6 (.alloc [Ee,Zz,Zz,Zz,Zz,(.sl 2 true []),(.sl 4 true [])]),o 7 (.alloc [Ee,Ee,Zz,(.bool false)]),w (.store 7 (t 6) (t 15)),w (.store 4 (t 7) (t 16)),vv 8 17]
 (SS [ff 19 1 6,o 20 (.load 2 true (t 19)),ff 21 3 6,o 22 (.load 2 true (t 21)),o 23 (CC 178 [(t 20),(t 22)]),vv 18 23,o 24 (.ext 0 (t 18)),o 25 (.ext 1 (t 18)),o 9 (.alloc [Zz,Zz]),w (.store 2 (t 9) (t 24)),vv 10 25]
 (SS [o 26 (.load 2 true (t 9)),vv 27 8,w (.store 2 (t 4) (t 26)),vv 5 27]
 .ret))))⟩
def c242:Func :=
⟨2,9,[.tmp 4],
 (SS [o 4 (.mov (BB false))]
 (SS [vv 5 0,vv 6 1,o 7 (CC 262 [(t 5),(t 6)]),o 8 (.bin .geq (t 7) (II 0)),vv 4 8]
 .ret))⟩
def c262:Func :=
⟨2,19,[.tmp 4],
 (SS [KK 4 0]
 (QQ (SS [vv 6 0,o 7 (.lenSl (t 6)),KK 8 0]
 (.block 0 (.loop (SS [o 9 (.bin .lss (t 8) (t 7))]
 (QQ (.cond (t 9) .skip (.exit 0))
 (QQ (.block 1 (SS [vv 10 8,vv 5 10]
 (SS [vv 11 1,vv 12 0,vv 13 5,o 14 (.iAddrS 4 (t 12) (t 13)),o 15 (.load 4 true (t 14)),o 16 (.call false (t 11) [(t 15)])]
 (.cond (t 16) (SS [vv 17 5,vv 4 17]
 .ret) .skip))))
 (.ops [o 18 (.bin .add (t 8) (II 1)),vv 8 18])))))))
 (SS [o 4 (.mov (c (jI (-1))))]
 .ret)))⟩
def c158:Func :=
⟨2,9,[.tmp 4],
 (SS [o 4 (.mov (BB false))]
 (SS [vv 5 0,vv 6 1,o 7 (CC 200 [(t 5),(t 6)]),o 8 (.bin .geq (t 7) (II 0)),vv 4 8]
 .ret))⟩
def c200:Func :=
⟨2,19,[.tmp 4],
 (SS [KK 4 0]
 (QQ (SS [vv 6 0,o 7 (.lenSl (t 6)),KK 8 0]
 (.block 0 (.loop (SS [o 9 (.bin .lss (t 8) (t 7))]
 (QQ (.cond (t 9) .skip (.exit 0))
 (QQ (.block 1 (SS [vv 10 8,vv 5 10]
 (SS [vv 11 1,vv 12 0,vv 13 5,o 14 (.iAddrS 7 (t 12) (t 13)),o 15 (.load 7 true (t 14)),o 16 (.call false (t 11) [(t 15)])]
 (.cond (t 16) (SS [vv 17 5,vv 4 17]
 .ret) .skip))))
 (.ops [o 18 (.bin .add (t 8) (II 1)),vv 8 18])))))))
 (SS [o 4 (.mov (c (jI (-1))))]
 .ret)))⟩
def c205:Func :=
⟨2,9,[.tmp 4],
 (SS [o 4 (.mov (BB false))]
 (SS [vv 5 0,vv 6 1,o 7 (CC 246 [(t 5),(t 6)]),o 8 (.bin .geq (t 7) (II 0)),vv 4 8]
 .ret))⟩
def c246:Func :=
⟨2,19,[.tmp 4],
 (SS [KK 4 0]
 (QQ (SS [vv 6 0,o 7 (.lenSl (t 6)),KK 8 0]
 (.block 0 (.loop (SS [o 9 (.bin .lss (t 8) (t 7))]
 (QQ (.cond (t 9) .skip (.exit 0))
 (QQ (.block 1 (SS [vv 10 8,vv 5 10]
 (SS [vv 11 1,vv 12 0,vv 13 5,o 14 (.iAddrS 3 (t 12) (t 13)),o 15 (.load 3 true (t 14)),o 16 (.call false (t 11) [(t 15)])]
 (.cond (t 16) (SS [vv 17 5,vv 4 17]
 .ret) .skip))))
 (.ops [o 18 (.bin .add (t 8) (II 1)),vv 8 18])))))))
 (SS [o 4 (.mov (c (jI (-1))))]
 .ret)))⟩
def c45:Func :=
⟨1,103,[.tmp 2],
 (SS [o 1 (.box (t 0)),KK 2 0]
 (SS [ff 8 1 1,o 9 (.load 5 true (t 8)),o 3 (.alloc [Zz,Zz,Zz,Zz,Zz]),w (.store 5 (t 3) (t 9))]
 (QQ (SS [ff 10 0 1,ll 11 10,o 12 (CC 96 [(t 11)]),o 13 (.un .not (t 12)),vv 14 13,gf 15 0 3 14 false,gl 16 15 14 false,gg 17 (CC 97 [(t 16)]) 14 false,gg 18 (.un .not (t 17)) 14 false,o 19 (.pick (t 14) (BB true) (t 18)),vv 20 19,gf 21 1 3 20 false,gl 22 21 20 false,gg 23 (CC 97 [(t 22)]) 20 false,gg 24 (.un .not (t 23)) 20 false,o 25 (.pick (t 20) (BB true) (t 24)),vv 26 25,gf 27 2 3 26 false,gl 28 27 26 false,gg 29 (CC 97 [(t 28)]) 26 false,gg 30 (.un .not (t 29)) 26 false,o 31 (.pick (t 26) (BB true) (t 30)),vv 32 31,gf 33 3 3 32 false,gl 34 33 32 false,gg 35 (CC 97 [(t 34)]) 32 false,gg 36 (.un .not (t 35)) 32 false,o 37 (.pick (t 32) (BB true) (t 36)),vv 38 37,gf 39 4 3 38 false,gl 40 39 38 false,gg 41 (CC 97 [(t 40)]) 38 false,gg 42 (.un .not (t 41)) 38 false,o 43 (.pick (t 38) (BB true) (t 42))]
 (.cond (t 43) (SS [KK 2 1]
 .ret) .skip))
 (QQ (SS [ff 44 6 1,ll 45 44,o 46 (CC 98 [(t 45)]),vv 4 46]
 (SS [vv 47 4,o 48 (.bin .neq (t 47) (II 0))]
 (.cond (t 48) (SS [vv 49 4,vv 2 49]
 .ret) .skip)))
 (QQ (SS [ff 50 7 1,ll 51 50,o 52 (.lenSl (t 51)),o 53 (.bin .gtr (t 52) (II 24)),vv 54 53,gf 55 8 1 54 false,gl 56 55 54 false,gg 57 (.lenSl (t 56)) 54 false,gg 58 (.bin .gtr (t 57) (II 4)) 54 false,o 59 (.pick (t 54) (BB true) (t 58)),vv 60 59,gf 61 9 1 60 false,gl 62 61 60 false,gg 63 (.lenSl (t 62)) 60 false,gg 64 (.bin .gtr (t 63) (II 16)) 60 false,o 65 (.pick (t 60) (BB true) (t 64)),vv 66 65,gf 67 10 1 66 false,gl 68 67 66 false,gg 69 (.lenSl (t 68)) 66 false,gg 70 (.bin .gtr (t 69) (II 1)) 66 false,o 71 (.pick (t 66) (BB true) (t 70)),vv 72 71,gf 73 11 1 72 false,gl 74 73 72 false,gg 75 (.lenSl (t 74)) 72 false,gg 76 (.bin .gtr (t 75) (II 72)) 72 false,o 77 (.pick (t 72) (BB true) (t 76)),vv 78 77,gf 79 12 1 78 false,gl 80 79 78 false,gg 81 (.lenSl (t 80)) 78 false,gg 82 (.bin .gtr (t 81) (II 64)) 78 false,o 83 (.pick (t 78) (BB true) (t 82)),vv 84 83,gf 85 13 1 84 false,gl 86 85 84 false,gg 87 (.lenSl (t 86)) 84 false,gg 88 (.bin .gtr (t 87) (II 32)) 84 false,o 89 (.pick (t 84) (BB true) (t 88))]
 (.cond (t 89) (SS [KK 2 3]
 .ret) .skip))
 (QQ (SS [o 90 (.mkSl false 1 63 .nilf 6 [(0,(c (.fn 99 [] []))),(1,(c (.fn 100 [] []))),(2,(c (.fn 101 [] []))),(3,(c (.fn 102 [] []))),(4,(c (.fn 103 [] []))),(5,(c (.fn 104 [] [])))]),o 91 (.lenSl (t 90)),KK 92 0]
 (.block 0 (.loop (SS [o 93 (.bin .lss (t 92) (t 91))]
 (QQ (.cond (t 93) .skip (.exit 0))
 (QQ (.block 1 (SS [o 94 (.iAddrS 1 (t 90) (t 92)),ll 95 94,vv 6 95]
 (SS [vv 96 6,o 97 (.load 14 true (t 1)),o 98 (.call false (t 96) [(t 97)]),vv 7 98]
 (SS [vv 99 7,o 100 (.bin .neq (t 99) (II 0))]
 (.cond (t 100) (SS [vv 101 7,vv 2 101]
 .ret) .skip)))))
 (.ops [o 102 (.bin .add (t 92) (II 1)),vv 92 102])))))))
 (SS [KK 2 0]
 .ret)))))))⟩
def c96:Func :=
⟨1,9,[.tmp 2],
 (SS [o 2 (.mov (BB false))]
 (SS [vv 3 0,o 4 (.bin .geq (t 3) (II 0)),vv 5 4,gv 6 0 5 true,gg 7 (.bin .leq (t 6) (II 1099511627776)) 5 true,o 8 (.pick (t 5) (t 7) (BB false)),vv 2 8]
 .ret))⟩
def c97:Func :=
⟨1,9,[.tmp 2],
 (SS [o 2 (.mov (BB false))]
 (SS [vv 3 0,o 4 (.bin .geq (t 3) (II 0)),vv 5 4,gv 6 0 5 true,gg 7 (.bin .leq (t 6) (II 1073741824)) 5 true,o 8 (.pick (t 5) (t 7) (BB false)),vv 2 8]
 .ret))⟩
def c99:Func :=
⟨1,26,[.tmp 2],
 (SS [o 1 (.box (t 0)),KK 2 0]
 (SS [o 3 (.mov (c Ee))]
 (QQ (SS [ff 7 8 1,ll 8 7,o 9 (.lenSl (t 8)),KK 10 0]
 (.block 0 (.loop (SS [o 11 (.bin .lss (t 10) (t 9))]
 (QQ (.cond (t 11) .skip (.exit 0))
 (QQ (.block 1 (SS [o 12 (.iAddrS 10 (t 8) (t 10)),o 13 (.load 10 true (t 12)),o 5 (.alloc [Ee,Zz,Zz,Zz,(.sl 4 true []),(.sl 2 true []),Zz,Zz,Zz,Zz]),w (.store 10 (t 5) (t 13))]
 (QQ (SS [o 14 (.load 10 true (t 5)),o 15 (CC 160 [(t 14)]),vv 6 15]
 (SS [vv 16 6,o 17 (.bin .neq (t 16) (II 0))]
 (.cond (t 17) (SS [vv 18 6,vv 2 18]
 .ret) .skip)))
 (QQ (SS [ff 19 0 5,ll 20 19,vv 21 3,o 22 (.bin .leq (t 20) (t 21))]
 (.cond (t 22) (SS [KK 2 6]
 .ret) .skip))
 (.ops [ff 23 0 5,ll 24 23,vv 3 24])))))
 (.ops [o 25 (.bin .add (t 10) (II 1)),vv 10 25])))))))
 (SS [KK 2 0]
 .ret))))⟩
def c163:Func :=
⟨2,9,[.tmp 4],
 (SS [o 2 (.box (t 0)),o 3 (.box (t 1)),o 4 (.mov (BB false))]
 (SS [ff 5 8 2,ll 6 5,o 7 (.mkf 204 [] [(t 3)]),o 8 (CC 46 [(t 6),(t 7)]),vv 4 8]
 .ret))⟩
def c204:Func :=
⟨2,8,[.tmp 3],
 (SS [o 2 (.box (t 0)),o 3 (.mov (BB false))]
 (SS [ff 4 0 2,ll 5 4,ll 6 1,o 7 (.bin .eql (t 5) (t 6)),vv 3 7]
 .ret))⟩
def c100:Func :=
⟨1,63,[.tmp 2],
 (SS [o 1 (.box (t 0)),KK 2 0]
 (SS [o 3 (.mov (c Ee))]
 (QQ (SS [ff 9 9 1,ll 10 9,o 11 (.lenSl (t 10)),KK 12 0]
 (.block 0 (.loop (SS [o 13 (.bin .lss (t 12) (t 11))]
 (QQ (.cond (t 13) .skip (.exit 0))
 (QQ (.block 1 (SS [o 14 (.iAddrS 15 (t 10) (t 12)),o 15 (.load 15 true (t 14)),o 5 (.alloc [Ee,Ee,Zz,Ee,Ee,Ee,Zz,Zz,Zz,(.sl 3 true []),Zz,Ee,Zz,Zz,(.bool false)]),w (.store 15 (t 5) (t 15))]
 (QQ (SS [o 16 (.load 15 true (t 5)),o 17 (CC 161 [(t 16)]),vv 6 17]
 (SS [vv 18 6,o 19 (.bin .neq (t 18) (II 0))]
 (.cond (t 19) (SS [vv 20 6,vv 2 20]
 .ret) .skip)))
 (SS [ff 22 6 1,ll 23 22,ff 24 3 5,o 25 (.load 3 true (t 24)),o 26 (CC 162 [(t 23),(t 25)]),vv 21 26,o 27 (.ext 0 (t 21)),o 28 (.ext 1 (t 21)),o 7 (.alloc [Zz,Zz]),w (.store 2 (t 7) (t 27)),vv 8 28]
 (QQ (.block 2 (SS [ff 30 0 5,ll 31 30,vv 32 3,o 33 (.bin .leq (t 31) (t 32)),vv 29 33]
 (.cond (t 29) (SS [KK 2 6]
 .ret) (SS [o 35 (.load 14 true (t 1)),ff 36 1 5,ll 37 36,o 38 (CC 163 [(t 35),(t 37)]),o 39 (.un .not (t 38)),vv 40 39,gg 41 (.load 14 true (t 1)) 40 false,gf 42 3 5 40 false,gg 43 (.load 3 true (t 42)) 40 false,gg 44 (.mkSl false 3 44 (.agg [Ee,Ee,Ee]) 1 [(0,(t 43))]) 40 false,gg 45 (CC 164 [(t 41),(t 44)]) 40 false,gg 46 (.un .not (t 45)) 40 false,o 47 (.pick (t 40) (BB true) (t 46)),vv 48 47,gg 49 (.load 14 true (t 1)) 48 false,gf 50 9 5 48 false,gl 51 50 48 false,gg 52 (CC 164 [(t 49),(t 51)]) 48 false,gg 53 (.un .not (t 52)) 48 false,o 54 (.pick (t 48) (BB true) (t 53)),vv 34 54]
 (.cond (t 34) (SS [KK 2 5]
 .ret) (SS [ff 56 7 5,o 57 (.load 2 true (t 56)),o 58 (.load 2 true (t 7)),o 59 (.eqa true [(0,.int .i64),(1,.int .i64)] (t 57) (t 58)),vv 55 59]
 (.cond (t 55) (SS [KK 2 1]
 .ret) .skip)))))))
 (.ops [ff 60 0 5,ll 61 60,vv 3 61]))))))
 (.ops [o 62 (.bin .add (t 12) (II 1)),vv 12 62])))))))
 (SS [KK 2 0]
 .ret))))⟩
def c164:Func :=
⟨2,9,[.tmp 4],
 (SS [o 2 (.box (t 0)),o 4 (.mov (BB false))]
 (SS [vv 5 1,o 6 (.mkf 206 [] [(t 2)]),o 7 (CC 205 [(t 5),(t 6)]),o 8 (.un .not (t 7)),vv 4 8]
 .ret))⟩
def c206:Func :=
⟨2,15,[.tmp 3],
 (SS [o 2 (.box (t 0)),o 3 (.mov (BB false))]
 (SS [ff 7 6 1,ll 8 7,o 9 (.load 3 true (t 2)),o 10 (CC 162 [(t 8),(t 9)]),vv 6 10,o 11 (.ext 0 (t 6)),o 12 (.ext 1 (t 6)),o 4 (.alloc [Zz,Zz]),w (.store 2 (t 4) (t 11)),vv 5 12]
 (SS [vv 13 5,o 14 (.un .not (t 13)),vv 3 14]
 .ret)))⟩
def c165:Func :=
⟨2,9,[.tmp 4],
 (SS [o 2 (.box (t 0)),o 3 (.box (t 1)),o 4 (.mov (BB false))]
 (SS [ff 5 9 2,ll 6 5,o 7 (.mkf 207 [] [(t 3)]),o 8 (CC 169 [(t 6),(t 7)]),vv 4 8]
 .ret))⟩
def c207:Func :=
⟨2,8,[.tmp 3],
 (SS [o 2 (.box (t 0)),o 3 (.mov (BB false))]
 (SS [ff 4 0 2,ll 5 4,ll 6 1,o 7 (.bin .eql (t 5) (t 6)),vv 3 7]
 .ret))⟩
def c101:Func :=
⟨1,44,[.tmp 2],
 (SS [o 1 (.box (t 0)),KK 2 0]
 (SS [o 3 (.mov (c Ee))]
 (QQ (SS [ff 7 7 1,ll 8 7,o 9 (.lenSl (t 8)),KK 10 0]
 (.block 0 (.loop (SS [o 11 (.bin .lss (t 10) (t 9))]
 (QQ (.cond (t 11) .skip (.exit 0))
 (QQ (.block 1 (SS [o 12 (.iAddrS 12 (t 8) (t 10)),o 13 (.load 12 true (t 12)),o 5 (.alloc [Ee,Ee,Zz,Zz,Zz,(.sl 4 true []),(.sl 3 true []),(.sl 3 true []),(.sl 2 true []),(.sl 2 true []),Zz,Ee]),w (.store 12 (t 5) (t 13))]
 (QQ (SS [o 14 (.load 12 true (t 5)),o 15 (CC 82 [(t 14)]),vv 6 15]
 (SS [vv 16 6,o 17 (.bin .neq (t 16) (II 0))]
 (.cond (t 17) (SS [vv 18 6,vv 2 18]
 .ret) .skip)))
 (QQ (.block 2 (SS [ff 20 0 5,ll 21 20,vv 22 3,o 23 (.bin .leq (t 21) (t 22)),vv 19 23]
 (.cond (t 19) (SS [KK 2 6]
 .ret) (SS [ff 25 11 5,ll 26 25,o 27 (.bin .neq (t 26) (c Ee)),vv 28 27,gg 29 (.load 14 true (t 1)) 28 true,gf 30 11 5 28 true,gl 31 30 28 true,gg 32 (CC 165 [(t 29),(t 31)]) 28 true,gg 33 (.un .not (t 32)) 28 true,o 34 (.pick (t 28) (t 33) (BB false)),vv 24 34]
 (.cond (t 24) (SS [KK 2 5]
 .ret) (SS [ff 36 10 5,ll 37 36,ff 38 0 1,ll 39 38,o 40 (.bin .gtr (t 37) (t 39)),vv 35 40]
 (.cond (t 35) (SS [KK 2 1]
 .ret) .skip)))))))
 (.ops [ff 41 0 5,ll 42 41,vv 3 42])))))
 (.ops [o 43 (.bin .add (t 10) (II 1)),vv 10 43])))))))
 (SS [KK 2 0]
 .ret))))⟩
def c102:Func :=
⟨1,36,[.tmp 2],
 (SS [o 1 (.box (t 0)),KK 2 0]
 (QQ (SS [ff 6 10 1,ll 7 6,o 8 (.lenSl (t 7)),KK 9 0]
 (.block 0 (.loop (SS [o 10 (.bin .lss (t 9) (t 8))]
 (QQ (.cond (t 10) .skip (.exit 0))
 (QQ (.block 1 (SS [o 11 (.iAddrS 8 (t 7) (t 9)),o 12 (.load 8 true (t 11)),o 4 (.alloc [Zz,(.sl 1 true []),Zz,Zz,Ee,Ee,(.sl 3 true []),(.bool false)]),w (.store 8 (t 4) (t 12))]
 (QQ (SS [o 13 (.load 8 true (t 4)),o 14 (CC 166 [(t 13)]),vv 5 14]
 (SS [vv 15 5,o 16 (.bin .neq (t 15) (II 0))]
 (.cond (t 16) (SS [vv 17 5,vv 2 17]
 .ret) .skip)))
 (SS [ff 18 5 4,ll 19 18,o 20 (.bin .neq (t 19) (c Ee)),vv 21 20,gg 22 (.load 14 true (t 1)) 21 true,gf 23 5 4 21 true,gl 24 23 21 true,gg 25 (CC 163 [(t 22),(t 24)]) 21 true,gg 26 (.un .not (t 25)) 21 true,o 27 (.pick (t 21) (t 26) (BB false)),vv 28 27,gg 29 (.load 14 true (t 1)) 28 false,gf 30 6 4 28 false,gl 31 30 28 false,gg 32 (CC 164 [(t 29),(t 31)]) 28 false,gg 33 (.un .not (t 32)) 28 false,o 34 (.pick (t 28) (BB true) (t 33))]
 (.cond (t 34) (SS [KK 2 5]
 .ret) .skip)))))
 (.ops [o 35 (.bin .add (t 9) (II 1)),vv 9 35])))))))
 (SS [KK 2 0]
 .ret)))⟩
def c167:Func :=
⟨2,22,[.tmp 4],
 (SS [o 2 (.box (t 0)),o 3 (.box (t 1)),KK 4 0]
 (SS [ff 5 0 2,ll 6 5,ff 7 0 3,ll 8 7,o 9 (.call true (c (.fn 131 [] [])) [(t 6),(t 8)]),ff 10 1 2,ll 11 10,ff 12 1 3,ll 13 12,o 14 (.call true (c (.fn 131 [] [])) [(t 11),(t 13)]),ff 15 2 2,ll 16 15,ff 17 2 3,ll 18 17,o 19 (.call true (c (.fn 131 [] [])) [(t 16),(t 18)]),o 20 (.mkSl true 1 3 Zz 3 [(0,(t 9)),(1,(t 14)),(2,(t 19))]),o 21 (.call true (c (.fn 208 [] [])) [(t 20)]),vv 4 21]
 .ret))⟩
def c103:Func :=
⟨1,42,[.tmp 2],
 (SS [o 1 (.box (t 0)),KK 2 0]
 (QQ (SS [ff 5 11 1,ll 6 5,o 7 (.lenSl (t 6)),KK 8 0]
 (.block 0 (.loop (SS [o 9 (.bin .lss (t 8) (t 7))]
 (QQ (.cond (t 9) .skip (.exit 0))
 (QQ (.block 1 (SS [vv 10 8,o 11 (.iAddrS 4 (t 6) (t 8)),o 12 (.load 4 true (t 11)),o 4 (.alloc [Ee,Ee,Ee,Zz]),vv 3 10,w (.store 4 (t 4) (t 12))]
 (.block 2 (SS [o 14 (.load 14 true (t 1)),ff 15 0 4,o 16 (.load 3 true (t 15)),o 17 (.mkSl false 3 44 (.agg [Ee,Ee,Ee]) 1 [(0,(t 16))]),o 18 (CC 164 [(t 14),(t 17)]),o 19 (.un .not (t 18)),vv 13 19]
 (.cond (t 13) (SS [KK 2 5]
 .ret) (SS [vv 21 3,o 22 (.bin .gtr (t 21) (II 0)),vv 23 22,gf 24 11 1 23 true,gl 25 24 23 true,gv 26 3 23 true,gg 27 (.bin .sub (t 26) (II 1)) 23 true,gg 28 (.iAddrS 4 (t 25) (t 27)) 23 true,gf 29 0 28 23 true,gg 30 (.load 3 true (t 29)) 23 true,gf 31 0 4 23 true,gg 32 (.load 3 true (t 31)) 23 true,gg 33 (.call true (c (.fn 167 [] [])) [(t 30),(t 32)]) 23 true,gg 34 (.bin .geq (t 33) (II 0)) 23 true,o 35 (.pick (t 23) (t 34) (BB false)),vv 20 35]
 (.cond (t 20) (SS [KK 2 6]
 .ret) (SS [ff 37 3 4,ll 38 37,o 39 (CC 96 [(t 38)]),o 40 (.un .not (t 39)),vv 36 40]
 (.cond (t 36) (SS [KK 2 1]
 .ret) .skip)))))))))
 (.ops [o 41 (.bin .add (t 8) (II 1)),vv 8 41])))))))
 (SS [KK 2 0]
 .ret)))⟩
def c104:Func :=
⟨1,66,[.tmp 2],
 (SS [o 1 (.box (t 0)),KK 2 0]
 (SS [o 7 (.mkMap),o 8 (.mkMap),vv 3 7,vv 4 8]
 (QQ (SS [ff 9 12 1,ll 10 9,o 11 (.lenSl (t 10)),KK 12 0]
 (.block 0 (.loop (SS [o 13 (.bin .lss (t 12) (t 11))]
 (QQ (.cond (t 13) .skip (.exit 0))
 (QQ (.block 1 (SS [o 14 (.iAddrS 7 (t 10) (t 12)),o 15 (.load 7 true (t 14)),o 6 (.alloc [Ee,Ee,Ee,Ee,Ee,Zz,Zz]),w (.store 7 (t 6) (t 15))]
 (QQ (.block 2 (SS [ff 17 0 6,ll 18 17,o 19 (.bin .eql (t 18) (c Ee)),vv 20 19,gf 21 1 6 20 false,gl 22 21 20 false,gg 23 (.bin .eql (t 22) (c Ee)) 20 false,o 24 (.pick (t 20) (BB true) (t 23)),vv 25 24,gf 26 5 6 25 false,gl 27 26 25 false,gg 28 (.bin .lss (t 27) (II 1)) 25 false,o 29 (.pick (t 25) (BB true) (t 28)),vv 30 29,gf 31 5 6 30 false,gl 32 31 30 false,gg 33 (.bin .gtr (t 32) (II 3)) 30 false,o 34 (.pick (t 30) (BB true) (t 33)),vv 35 34,gf 36 6 6 35 false,gl 37 36 35 false,gg 38 (CC 96 [(t 37)]) 35 false,gg 39 (.un .not (t 38)) 35 false,o 40 (.pick (t 35) (BB true) (t 39)),vv 16 40]
 (.cond (t 16) (SS [KK 2 1]
 .ret) (SS [vv 42 3,ff 43 0 6,ll 44 43,o 45 (.look (false,[(0,.str)]) (.bool false) false (t 42) (t 44)),vv 46 45,gv 47 4 46 false,gf 48 1 6 46 false,gl 49 48 46 false,gg 50 (.look (false,[(0,.str)]) (.bool false) false (t 47) (t 49)) 46 false,o 51 (.pick (t 46) (BB true) (t 50)),vv 41 51]
 (.cond (t 41) (SS [KK 2 6]
 .ret) (SS [o 53 (.load 14 true (t 1)),ff 54 2 6,o 55 (.load 3 true (t 54)),o 56 (.mkSl false 3 44 (.agg [Ee,Ee,Ee]) 1 [(0,(t 55))]),o 57 (CC 164 [(t 53),(t 56)]),o 58 (.un .not (t 57)),vv 52 58]
 (.cond (t 52) (SS [KK 2 5]
 .ret) .skip)))))))
 (.ops [vv 59 3,o 60 (.fAddrP 0 (t 6)),o 61 (.loadP 1 false (t 60)),vv 62 4,o 63 (.fAddrP 1 (t 6)),o 64 (.loadP 1 false (t 63)),w (.mput (false,[(0,.str)]) (t 59) (t 61) (BB true)),w (.mput (false,[(0,.str)]) (t 62) (t 64) (BB true))]))))
 (.ops [o 65 (.bin .add (t 12) (II 1)),vv 12 65])))))))
 (SS [KK 2 0]
 .ret))))⟩
def c46:Func :=
⟨2,9,[.tmp 4],
 (SS [o 4 (.mov (BB false))]
 (SS [vv 5 0,vv 6 1,o 7 (CC 105 [(t 5),(t 6)]),o 8 (.bin .geq (t 7) (II 0)),vv 4 8]
 .ret))⟩
def c105:Func :=
⟨2,19,[.tmp 4],
 (SS [KK 4 0]
 (QQ (SS [vv 6 0,o 7 (.lenSl (t 6)),KK 8 0]
 (.block 0 (.loop (SS [o 9 (.bin .lss (t 8) (t 7))]
 (QQ (.cond (t 9) .skip (.exit 0))
 (QQ (.block 1 (SS [vv 10 8,vv 5 10]
 (SS [vv 11 1,vv 12 0,vv 13 5,o 14 (.iAddrS 10 (t 12) (t 13)),o 15 (.load 10 true (t 14)),o 16 (.call false (t 11) [(t 15)])]
 (.cond (t 16) (SS [vv 17 5,vv 4 17]
 .ret) .skip))))
 (.ops [o 18 (.bin .add (t 8) (II 1)),vv 8 18])))))))
 (SS [o 4 (.mov (c (jI (-1))))]
 .ret)))⟩
def c169:Func :=
⟨2,9,[.tmp 4],
 (SS [o 4 (.mov (BB false))]
 (SS [vv 5 0,vv 6 1,o 7 (CC 50 [(t 5),(t 6)]),o 8 (.bin .geq (t 7) (II 0)),vv 4 8]
 .ret))⟩
def c50:Func :=
⟨2,19,[.tmp 4],
 (SS [KK 4 0]
 (QQ (SS [vv 6 0,o 7 (.lenSl (t 6)),KK 8 0]
 (.block 0 (.loop (SS [o 9 (.bin .lss (t 8) (t 7))]
 (QQ (.cond (t 9) .skip (.exit 0))
 (QQ (.block 1 (SS [vv 10 8,vv 5 10]
 (SS [vv 11 1,vv 12 0,vv 13 5,o 14 (.iAddrS 15 (t 12) (t 13)),o 15 (.load 15 true (t 14)),o 16 (.call false (t 11) [(t 15)])]
 (.cond (t 16) (SS [vv 17 5,vv 4 17]
 .ret) .skip))))
 (.ops [o 18 (.bin .add (t 8) (II 1)),vv 8 18])))))))
 (SS [o 4 (.mov (c (jI (-1))))]
 .ret)))⟩
def c33:Func :=
⟨1,178,[.tmp 2],
 (SS [o 1 (.box (t 0)),KK 2 0]
 (SS [ff 14 1 1,o 15 (.load 5 true (t 14)),o 3 (.alloc [Zz,Zz,Zz,Zz,Zz]),w (.store 5 (t 3) (t 15))]
 (QQ (SS [ff 16 0 1,ll 17 16,o 18 (CC 71 [(t 17)]),o 19 (.un .not (t 18)),vv 20 19,gf 21 0 3 20 false,gl 22 21 20 false,gg 23 (CC 72 [(t 22)]) 20 false,gg 24 (.un .not (t 23)) 20 false,o 25 (.pick (t 20) (BB true) (t 24)),vv 26 25,gf 27 1 3 26 false,gl 28 27 26 false,gg 29 (CC 72 [(t 28)]) 26 false,gg 30 (.un .not (t 29)) 26 false,o 31 (.pick (t 26) (BB true) (t 30)),vv 32 31,gf 33 2 3 32 false,gl 34 33 32 false,gg 35 (CC 72 [(t 34)]) 32 false,gg 36 (.un .not (t 35)) 32 false,o 37 (.pick (t 32) (BB true) (t 36)),vv 38 37,gf 39 3 3 38 false,gl 40 39 38 false,gg 41 (CC 72 [(t 40)]) 38 false,gg 42 (.un .not (t 41)) 38 false,o 43 (.pick (t 38) (BB true) (t 42)),vv 44 43,gf 45 4 3 44 false,gl 46 45 44 false,gg 47 (CC 72 [(t 46)]) 44 false,gg 48 (.un .not (t 47)) 44 false,o 49 (.pick (t 44) (BB true) (t 48))]
 (.cond (t 49) (SS [KK 2 1]
 .ret) .skip))
 (QQ (SS [ff 50 6 1,ll 51 50,o 52 (CC 73 [(t 51)]),vv 4 52]
 (SS [vv 53 4,o 54 (.bin .neq (t 53) (II 0))]
 (.cond (t 54) (SS [vv 55 4,vv 2 55]
 .ret) .skip)))
 (QQ (SS [ff 56 7 1,ll 57 56,o 58 (.lenSl (t 57)),o 59 (.bin .gtr (t 58) (II 24)),vv 60 59,gf 61 8 1 60 false,gl 62 61 60 false,gg 63 (.lenSl (t 62)) 60 false,gg 64 (.bin .gtr (t 63) (II 4)) 60 false,o 65 (.pick (t 60) (BB true) (t 64)),vv 66 65,gf 67 9 1 66 false,gl 68 67 66 false,gg 69 (.lenSl (t 68)) 66 false,gg 70 (.bin .gtr (t 69) (II 16)) 66 false,o 71 (.pick (t 66) (BB true) (t 70)),vv 72 71,gf 73 10 1 72 false,gl 74 73 72 false,gg 75 (.lenSl (t 74)) 72 false,gg 76 (.bin .gtr (t 75) (II 1)) 72 false,o 77 (.pick (t 72) (BB true) (t 76)),vv 78 77,gf 79 11 1 78 false,gl 80 79 78 false,gg 81 (.lenSl (t 80)) 78 false,gg 82 (.bin .gtr (t 81) (II 72)) 78 false,o 83 (.pick (t 78) (BB true) (t 82)),vv 84 83,gf 85 12 1 84 false,gl 86 85 84 false,gg 87 (.lenSl (t 86)) 84 false,gg 88 (.bin .gtr (t 87) (II 64)) 84 false,o 89 (.pick (t 84) (BB true) (t 88)),vv 90 89,gf 91 13 1 90 false,gl 92 91 90 false,gg 93 (.lenSl (t 92)) 90 false,gg 94 (.bin .gtr (t 93) (II 32)) 90 false,o 95 (.pick (t 90) (BB true) (t 94))]
 (.cond (t 95) (SS [KK 2 3]
 .ret) .skip))
 (QQ (SS [ff 96 8 1,ll 97 96,o 98 (.lenSl (t 97)),KK 99 0]
 (.block 0 (.loop (SS [o 100 (.bin .lss (t 99) (t 98))]
 (QQ (.cond (t 100) .skip (.exit 0))
 (QQ (.block 1 (SS [vv 101 99,o 102 (.iAddrS 10 (t 97) (t 99)),o 103 (.load 10 true (t 102)),o 6 (.alloc [Ee,Zz,Zz,Zz,(.sl 4 true []),(.sl 2 true []),Zz,Zz,Zz,Zz]),vv 5 101,w (.store 10 (t 6) (t 103))]
 (QQ (SS [o 104 (.load 10 true (t 6)),o 105 (CC 74 [(t 104)]),vv 7 105]
 (SS [vv 106 7,o 107 (.bin .neq (t 106) (II 0))]
 (.cond (t 107) (SS [vv 108 7,vv 2 108]
 .ret) .skip)))
 (SS [vv 109 5,o 110 (.bin .gtr (t 109) (II 0)),vv 111 110,gf 112 8 1 111 true,gl 113 112 111 true,gv 114 5 111 true,gg 115 (.bin .sub (t 114) (II 1)) 111 true,gg 116 (.iAddrS 10 (t 113) (t 115)) 111 true,gf 117 0 116 111 true,gl 118 117 111 true,gf 119 0 6 111 true,gl 120 119 111 true,gg 121 (.bin .geq (t 118) (t 120)) 111 true,o 122 (.pick (t 111) (t 121) (BB false))]
 (.cond (t 122) (SS [KK 2 6]
 .ret) .skip)))))
 (.ops [o 123 (.bin .add (t 99) (II 1)),vv 99 123])))))))
 (QQ (SS [o 124 (.load 14 true (t 1)),o 125 (CC 75 [(t 124)]),vv 8 125]
 (SS [vv 126 8,o 127 (.bin .neq (t 126) (II 0))]
 (.cond (t 127) (SS [vv 128 8,vv 2 128]
 .ret) .skip)))
 (QQ (SS [ff 129 7 1,ll 130 129,o 131 (.lenSl (t 130)),KK 132 0]
 (.block 2 (.loop (SS [o 133 (.bin .lss (t 132) (t 131))]
 (QQ (.cond (t 133) .skip (.exit 2))
 (QQ (.block 3 (SS [vv 134 132,o 135 (.iAddrS 12 (t 130) (t 132)),o 136 (.load 12 true (t 135)),o 10 (.alloc [Ee,Ee,Zz,Zz,Zz,(.sl 4 true []),(.sl 3 true []),(.sl 3 true []),(.sl 2 true []),(.sl 2 true []),Zz,Ee]),vv 9 134,w (.store 12 (t 10) (t 136))]
 (QQ (SS [o 137 (.load 12 true (t 10)),o 138 (CC 32 [(t 137)]),vv 11 138]
 (SS [vv 139 11,o 140 (.bin .neq (t 139) (II 0))]
 (.cond (t 140) (SS [vv 141 11,vv 2 141]
 .ret) .skip)))
 (QQ (SS [vv 142 9,o 143 (.bin .gtr (t 142) (II 0)),vv 144 143,gf 145 7 1 144 true,gl 146 145 144 true,gv 147 9 144 true,gg 148 (.bin .sub (t 147) (II 1)) 144 true,gg 149 (.iAddrS 12 (t 146) (t 148)) 144 true,gf 150 0 149 144 true,gl 151 150 144 true,gf 152 0 10 144 true,gl 153 152 144 true,gg 154 (.bin .geq (t 151) (t 153)) 144 true,o 155 (.pick (t 144) (t 154) (BB false))]
 (.cond (t 155) (SS [KK 2 6]
 .ret) .skip))
 (QQ (SS [o 157 (.load 14 true (t 1)),ff 158 11 10,ll 159 158,o 160 (CC 76 [(t 157),(t 159)]),vv 156 160,o 161 (.ext 0 (t 156)),o 162 (.ext 1 (t 156)),o 12 (.alloc [Ee,Ee,Zz,Ee,Ee,Ee,Zz,Zz,Zz,(.sl 3 true []),Zz,Ee,Zz,Zz,(.bool false)]),w (.store 15 (t 12) (t 161)),vv 13 162]
 (SS [ff 163 11 10,ll 164 163,o 165 (.bin .neq (t 164) (c Ee)),vv 166 165,gv 167 13 166 true,gg 168 (.un .not (t 167)) 166 true,o 169 (.pick (t 166) (t 168) (BB false))]
 (.cond (t 169) (SS [KK 2 5]
 .ret) .skip)))
 (SS [ff 170 10 10,ll 171 170,ff 172 0 1,ll 173 172,o 174 (.bin .gtr (t 171) (t 173))]
 (.cond (t 174) (SS [KK 2 1]
 .ret) .skip)))))))
 (.ops [o 175 (.bin .add (t 132) (II 1)),vv 132 175])))))))
 (SS [o 176 (.load 14 true (t 1)),o 177 (CC 77 [(t 176)]),vv 2 177]
 .ret)))))))))⟩
def c71:Func :=
⟨1,9,[.tmp 2],
 (SS [o 2 (.mov (BB false))]
 (SS [vv 3 0,o 4 (.bin .geq (t 3) (II 0)),vv 5 4,gv 6 0 5 true,gg 7 (.bin .leq (t 6) (II 1099511627776)) 5 true,o 8 (.pick (t 5) (t 7) (BB false)),vv 2 8]
 .ret))⟩
def c72:Func :=
⟨1,9,[.tmp 2],
 (SS [o 2 (.mov (BB false))]
 (SS [vv 3 0,o 4 (.bin .geq (t 3) (II 0)),vv 5 4,gv 6 0 5 true,gg 7 (.bin .leq (t 6) (II 1073741824)) 5 true,o 8 (.pick (t 5) (t 7) (BB false)),vv 2 8]
 .ret))⟩
def c49:Func :=
⟨2,22,[.cell 4 10 true,.tmp 5],
 (SS [o 2 (.box (t 0)),o 4 (.alloc [Ee,Zz,Zz,Zz,(.sl 4 true []),(.sl 2 true []),Zz,Zz,Zz,Zz]),o 5 (.mov (BB false))]
 (QQ (SS [ff 8 8 2,ll 9 8,o 10 (.lenSl (t 9)),KK 11 0]
 (.block 0 (.loop (SS [o 12 (.bin .lss (t 11) (t 10))]
 (QQ (.cond (t 12) .skip (.exit 0))
 (QQ (.block 1 (SS [o 13 (.iAddrS 10 (t 9) (t 11)),o 14 (.load 10 true (t 13)),o 7 (.alloc [Ee,Zz,Zz,Zz,(.sl 4 true []),(.sl 2 true []),Zz,Zz,Zz,Zz]),w (.store 10 (t 7) (t 14))]
 (SS [ff 15 0 7,ll 16 15,vv 17 1,o 18 (.bin .eql (t 16) (t 17))]
 (.cond (t 18) (SS [o 19 (.load 10 true (t 7)),w (.store 10 (t 4) (t 19)),o 5 (.mov (BB true))]
 .ret) .skip))))
 (.ops [o 20 (.bin .add (t 11) (II 1)),vv 11 20])))))))
 (SS [o 21 (.build [Ee,Zz,Zz,Zz,(.sl 4 true []),(.sl 2 true []),Zz,Zz,Zz,Zz] []),w (.store 10 (t 4) (t 21)),o 5 (.mov (BB false))]
 .ret)))⟩
def c76:Func :=
⟨2,22,[.cell 4 15 true,.tmp 5],
 (SS [o 2 (.box (t 0)),o 4 (.alloc [Ee,Ee,Zz,Ee,Ee,Ee,Zz,Zz,Zz,(.sl 3 true []),Zz,Ee,Zz,Zz,(.bool false)]),o 5 (.mov (BB false))]
 (QQ (SS [ff 8 9 2,ll 9 8,o 10 (.lenSl (t 9)),KK 11 0]
 (.block 0 (.loop (SS [o 12 (.bin .lss (t 11) (t 10))]
 (QQ (.cond (t 12) .skip (.exit 0))
 (QQ (.block 1 (SS [o 13 (.iAddrS 15 (t 9) (t 11)),o 14 (.load 15 true (t 13)),o 7 (.alloc [Ee,Ee,Zz,Ee,Ee,Ee,Zz,Zz,Zz,(.sl 3 true []),Zz,Ee,Zz,Zz,(.bool false)]),w (.store 15 (t 7) (t 14))]
 (SS [ff 15 0 7,ll 16 15,vv 17 1,o 18 (.bin .eql (t 16) (t 17))]
 (.cond (t 18) (SS [o 19 (.load 15 true (t 7)),w (.store 15 (t 4) (t 19)),o 5 (.mov (BB true))]
 .ret) .skip))))
 (.ops [o 20 (.bin .add (t 11) (II 1)),vv 11 20])))))))
 (SS [o 21 (.build [Ee,Ee,Zz,Ee,Ee,Ee,Zz,Zz,Zz,(.sl 3 true []),Zz,Ee,Zz,Zz,(.bool false)] []),w (.store 15 (t 4) (t 21)),o 5 (.mov (BB false))]
 .ret)))⟩
def c75:Func :=
⟨1,76,[.tmp 2],
 (SS [o 1 (.box (t 0)),KK 2 0]
 (QQ (SS [ff 10 9 1,ll 11 10,o 12 (.lenSl (t 11)),KK 13 0]
 (.block 0 (.loop (SS [o 14 (.bin .lss (t 13) (t 12))]
 (QQ (.cond (t 14) .skip (.exit 0))
 (QQ (.block 1 (SS [vv 15 13,o 16 (.iAddrS 15 (t 11) (t 13)),o 17 (.load 15 true (t 16)),o 4 (.alloc [Ee,Ee,Zz,Ee,Ee,Ee,Zz,Zz,Zz,(.sl 3 true []),Zz,Ee,Zz,Zz,(.bool false)]),vv 3 15,w (.store 15 (t 4) (t 17))]
 (QQ (SS [o 18 (.load 15 true (t 4)),o 19 (CC 121 [(t 18)]),vv 5 19]
 (SS [vv 20 5,o 21 (.bin .neq (t 20) (II 0))]
 (.cond (t 21) (SS [vv 22 5,vv 2 22]
 .ret) .skip)))
 (QQ (SS [vv 23 3,o 24 (.bin .gtr (t 23) (II 0)),vv 25 24,gf 26 9 1 25 true,gl 27 26 25 true,gv 28 3 25 true,gg 29 (.bin .sub (t 28) (II 1)) 25 true,gg 30 (.iAddrS 15 (t 27) (t 29)) 25 true,gf 31 0 30 25 true,gl 32 31 25 true,gf 33 0 4 25 true,gl 34 33 25 true,gg 35 (.bin .geq (t 32) (t 34)) 25 true,o 36 (.pick (t 25) (t 35) (BB false))]
 (.cond (t 36) (SS [KK 2 6]
 .ret) .skip))
 (QQ (SS [o 38 (.load 14 true (t 1)),ff 39 1 4,ll 40 39,o 41 (CC 49 [(t 38),(t 40)]),vv 37 41,o 42 (.ext 0 (t 37)),o 43 (.ext 1 (t 37)),o 6 (.alloc [Ee,Zz,Zz,Zz,(.sl 4 true []),(.sl 2 true []),Zz,Zz,Zz,Zz]),w (.store 10 (t 6) (t 42)),vv 7 43]
 (SS [vv 44 7,o 45 (.un .not (t 44)),vv 46 45,gf 47 6 1 46 false,gl 48 47 46 false,gf 49 3 4 46 false,gg 50 (.load 3 true (t 49)) 46 false,gg 51 (.mkSl false 3 44 (.agg [Ee,Ee,Ee]) 1 [(0,(t 50))]) 46 false,gg 52 (CC 122 [(t 48),(t 51)]) 46 false,gg 53 (.un .not (t 52)) 46 false,o 54 (.pick (t 46) (BB true) (t 53)),vv 55 54,gf 56 6 1 55 false,gl 57 56 55 false,gf 58 9 4 55 false,gl 59 58 55 false,gg 60 (CC 122 [(t 57),(t 59)]) 55 false,gg 61 (.un .not (t 60)) 55 false,o 62 (.pick (t 55) (BB true) (t 61))]
 (.cond (t 62) (SS [KK 2 5]
 .ret) .skip)))
 (SS [ff 64 6 1,ll 65 64,ff 66 3 4,o 67 (.load 3 true (t 66)),o 68 (CC 123 [(t 65),(t 67)]),vv 63 68,o 69 (.ext 0 (t 63)),o 70 (.ext 1 (t 63)),o 8 (.alloc [Zz,Zz]),w (.store 2 (t 8) (t 69)),vv 9 70]
 (SS [ff 71 7 4,o 72 (.load 2 true (t 71)),o 73 (.load 2 true (t 8)),o 74 (.eqa true [(0,.int .i64),(1,.int .i64)] (t 72) (t 73))]
 (.cond (t 74) (SS [KK 2 1]
 .ret) .skip))))))))
 (.ops [o 75 (.bin .add (t 13) (II 1)),vv 13 75])))))))
 (SS [KK 2 0]
 .ret)))⟩
def c125:Func :=
⟨2,30,[.tmp 4],
 (SS [o 2 (.box (t 0)),o 3 (.box (t 1)),o 4 (.mov (BB false))]
 (QQ (SS [ff 5 0 2,ll 6 5,ff 7 0 3,ll 8 7,o 9 (.bin .neq (t 6) (t 8))]
 (.cond (t 9) (SS [ff 10 0 2,ll 11 10,ff 12 0 3,ll 13 12,o 14 (.bin .lss (t 11) (t 13)),vv 4 14]
 .ret) .skip))
 (QQ (SS [ff 15 1 2,ll 16 15,ff 17 1 3,ll 18 17,o 19 (.bin .neq (t 16) (t 18))]
 (.cond (t 19) (SS [ff 20 1 2,ll 21 20,ff 22 1 3,ll 23 22,o 24 (.bin .lss (t 21) (t 23)),vv 4 24]
 .ret) .skip))
 (SS [ff 25 2 2,ll 26 25,ff 27 2 3,ll 28 27,o 29 (.bin .lss (t 26) (t 28)),vv 4 29]
 .ret))))⟩
def c77:Func :=
⟨1,146,[.tmp 2],
 (SS [o 1 (.box (t 0)),KK 2 0]
 (QQ (SS [ff 14 10 1,ll 15 14,o 16 (.lenSl (t 15)),KK 17 0]
 (.block 0 (.loop (SS [o 18 (.bin .lss (t 17) (t 16))]
 (QQ (.cond (t 18) .skip (.exit 0))
 (QQ (.block 1 (SS [o 19 (.iAddrS 8 (t 15) (t 17)),o 20 (.load 8 true (t 19)),o 4 (.alloc [Zz,(.sl 1 true []),Zz,Zz,Ee,Ee,(.sl 3 true []),(.bool false)]),w (.store 8 (t 4) (t 20))]
 (QQ (SS [o 21 (.load 8 true (t 4)),o 22 (CC 124 [(t 21)]),vv 5 22]
 (SS [vv 23 5,o 24 (.bin .neq (t 23) (II 0))]
 (.cond (t 24) (SS [vv 25 5,vv 2 25]
 .ret) .skip)))
 (SS [o 27 (.load 14 true (t 1)),ff 28 5 4,ll 29 28,o 30 (CC 49 [(t 27),(t 29)]),vv 26 30,o 31 (.ext 0 (t 26)),o 32 (.ext 1 (t 26)),o 6 (.alloc [Ee,Zz,Zz,Zz,(.sl 4 true []),(.sl 2 true []),Zz,Zz,Zz,Zz]),w (.store 10 (t 6) (t 31)),vv 7 32]
 (SS [ff 33 5 4,ll 34 33,o 35 (.bin .neq (t 34) (c Ee)),vv 36 35,gv 37 7 36 true,gg 38 (.un .not (t 37)) 36 true,o 39 (.pick (t 36) (t 38) (BB false)),vv 40 39,gf 41 6 1 40 false,gl 42 41 40 false,gf 43 6 4 40 false,gl 44 43 40 false,gg 45 (CC 122 [(t 42),(t 44)]) 40 false,gg 46 (.un .not (t 45)) 40 false,o 47 (.pick (t 40) (BB true) (t 46))]
 (.cond (t 47) (SS [KK 2 5]
 .ret) .skip))))))
 (.ops [o 48 (.bin .add (t 17) (II 1)),vv 17 48])))))))
 (QQ (SS [ff 49 11 1,ll 50 49,o 51 (.lenSl (t 50)),KK 52 0]
 (.block 2 (.loop (SS [o 53 (.bin .lss (t 52) (t 51))]
 (QQ (.cond (t 53) .skip (.exit 2))
 (QQ (.block 3 (SS [vv 54 52,o 55 (.iAddrS 4 (t 50) (t 52)),o 56 (.load 4 true (t 55)),o 9 (.alloc [Ee,Ee,Ee,Zz]),vv 8 54,w (.store 4 (t 9) (t 56))]
 (QQ (SS [ff 57 6 1,ll 58 57,ff 59 0 9,o 60 (.load 3 true (t 59)),o 61 (.mkSl false 3 44 (.agg [Ee,Ee,Ee]) 1 [(0,(t 60))]),o 62 (CC 122 [(t 58),(t 61)]),o 63 (.un .not (t 62))]
 (.cond (t 63) (SS [KK 2 5]
 .ret) .skip))
 (QQ (SS [vv 64 8,o 65 (.bin .gtr (t 64) (II 0)),vv 66 65,gf 67 11 1 66 true,gl 68 67 66 true,gv 69 8 66 true,gg 70 (.bin .sub (t 69) (II 1)) 66 true,gg 71 (.iAddrS 4 (t 68) (t 70)) 66 true,gf 72 0 71 66 true,gg 73 (.load 3 true (t 72)) 66 true,gf 74 0 9 66 true,gg 75 (.load 3 true (t 74)) 66 true,gg 76 (.call true (c (.fn 125 [] [])) [(t 73),(t 75)]) 66 true,gg 77 (.un .not (t 76)) 66 true,o 78 (.pick (t 66) (t 77) (BB false))]
 (.cond (t 78) (SS [KK 2 6]
 .ret) .skip))
 (SS [ff 79 3 9,ll 80 79,o 81 (CC 71 [(t 80)]),o 82 (.un .not (t 81))]
 (.cond (t 82) (SS [KK 2 1]
 .ret) .skip))))))
 (.ops [o 83 (.bin .add (t 52) (II 1)),vv 52 83])))))))
 (QQ (SS [ff 84 12 1,ll 85 84,o 86 (.lenSl (t 85)),KK 87 0]
 (.block 4 (.loop (SS [o 88 (.bin .lss (t 87) (t 86))]
 (QQ (.cond (t 88) .skip (.exit 4))
 (QQ (.block 5 (SS [vv 89 87,o 90 (.iAddrS 7 (t 85) (t 87)),o 91 (.load 7 true (t 90)),o 11 (.alloc [Ee,Ee,Ee,Ee,Ee,Zz,Zz]),vv 10 89,w (.store 7 (t 11) (t 91))]
 (QQ (SS [ff 92 0 11,ll 93 92,o 94 (.bin .eql (t 93) (c Ee)),vv 95 94,gf 96 1 11 95 false,gl 97 96 95 false,gg 98 (.bin .eql (t 97) (c Ee)) 95 false,o 99 (.pick (t 95) (BB true) (t 98)),vv 100 99,gf 101 5 11 100 false,gl 102 101 100 false,gg 103 (.bin .lss (t 102) (II 1)) 100 false,o 104 (.pick (t 100) (BB true) (t 103)),vv 105 104,gf 106 5 11 105 false,gl 107 106 105 false,gg 108 (.bin .gtr (t 107) (II 3)) 105 false,o 109 (.pick (t 105) (BB true) (t 108)),vv 110 109,gf 111 6 11 110 false,gl 112 111 110 false,gg 113 (CC 71 [(t 112)]) 110 false,gg 114 (.un .not (t 113)) 110 false,o 115 (.pick (t 110) (BB true) (t 114))]
 (.cond (t 115) (SS [KK 2 1]
 .ret) .skip))
 (QQ (SS [ff 116 12 1,ll 117 116,vv 118 10,o 119 (.slc 7 (t 117) none (some (t 118))),o 120 (.lenSl (t 119)),KK 121 0]
 (.block 6 (.loop (SS [o 122 (.bin .lss (t 121) (t 120))]
 (QQ (.cond (t 122) .skip (.exit 6))
 (QQ (.block 7 (SS [o 123 (.iAddrS 7 (t 119) (t 121)),o 124 (.load 7 true (t 123)),o 13 (.alloc [Ee,Ee,Ee,Ee,Ee,Zz,Zz]),w (.store 7 (t 13) (t 124))]
 (SS [ff 125 0 11,ll 126 125,ff 127 0 13,ll 128 127,o 129 (.bin .eql (t 126) (t 128)),vv 130 129,gf 131 1 11 130 false,gl 132 131 130 false,gf 133 1 13 130 false,gl 134 133 130 false,gg 135 (.bin .eql (t 132) (t 134)) 130 false,o 136 (.pick (t 130) (BB true) (t 135))]
 (.cond (t 136) (SS [KK 2 6]
 .ret) .skip))))
 (.ops [o 137 (.bin .add (t 121) (II 1)),vv 121 137])))))))
 (SS [ff 138 6 1,ll 139 138,ff 140 2 11,o 141 (.load 3 true (t 140)),o 142 (.mkSl false 3 44 (.agg [Ee,Ee,Ee]) 1 [(0,(t 141))]),o 143 (CC 122 [(t 139),(t 142)]),o 144 (.un .not (t 143))]
 (.cond (t 144) (SS [KK 2 5]
 .ret) .skip))))))
 (.ops [o 145 (.bin .add (t 87) (II 1)),vv 87 145])))))))
 (SS [KK 2 0]
 .ret)))))⟩
def c122:Func :=
⟨2,24,[.tmp 4],
 (SS [o 4 (.mov (BB false))]
 (QQ (SS [vv 9 1,o 10 (.lenSl (t 9)),KK 11 0]
 (.block 0 (.loop (SS [o 12 (.bin .lss (t 11) (t 10))]
 (QQ (.cond (t 12) .skip (.exit 0))
 (QQ (.block 1 (SS [o 13 (.iAddrS 3 (t 9) (t 11)),o 14 (.load 3 true (t 13)),o 6 (.alloc [Ee,Ee,Ee]),w (.store 3 (t 6) (t 14))]
 (SS [vv 16 0,o 17 (.load 3 true (t 6)),o 18 (CC 123 [(t 16),(t 17)]),vv 15 18,o 19 (.ext 0 (t 15)),o 20 (.ext 1 (t 15)),o 7 (.alloc [Zz,Zz]),w (.store 2 (t 7) (t 19)),vv 8 20]
 (SS [vv 21 8,o 22 (.un .not (t 21))]
 (.cond (t 22) (SS [o 4 (.mov (BB false))]
 .ret) .skip)))))
 (.ops [o 23 (.bin .add (t 11) (II 1)),vv 11 23])))))))
 (SS [o 4 (.mov (BB true))]
 .ret)))⟩
end Go.Proofs.AM
