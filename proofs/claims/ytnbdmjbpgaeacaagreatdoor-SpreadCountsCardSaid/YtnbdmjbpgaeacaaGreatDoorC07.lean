/- Part 7 of the lemmas: ATryLay, PVa, PVb, PVd. -/
import Derived.Shelf.LaysM
import Derived.Shelf.LaysC
import Derived.Shelf.Strconv.Itoa4
import Derived.Shelf.Strconv.ParseInt10All
import Derived.Shelf.Strconv.ParseIntPublic10
import Derived.Shelf.Strconv.ErrVarParseInt
import Derived.Shelf.SlIter.Nil
import Derived.Shelf.SortM.Plain
import Derived.Shelf.SortM.SortNone
import Derived.Ground.GgzProg
import Derived.Ground.SlgmProg
import Derived.Test.YtnbdmjbpgaeacaaGreatDoorProg
import Derived.Test.YtnbdmjbpgaeacaaGreatDoorC06
import Derived.Lib.ItoaMem
import Derived.Lib.ParseIntB
set_option maxRecDepth 100000
set_option maxHeartbeats 8000000
set_option linter.all false
namespace Go.Proofs
open Go.Shelf
def Tryz.laysM173_ren:Go.Shelf.Ren:=⟨fun|173=>258|246=>270|283=>287|284=>288|285=>289|286=>290|129=>223|317=>301|318=>302|319=>303|320=>304|337=>316|338=>317|n=>n,fun|2=>2|3=>3|9=>9|4=>4|171=>301|0=>0|53=>243|37=>245|5=>5|173=>303|212=>316|51=>241|20=>20|213=>317|46=>202|232=>332|233=>333|n=>n,fun|17=>3|18=>4|19=>5|n=>n⟩
theorem Tryz.laysM173:Go.Proofs.LaysM.n173 Tryz.prog Tryz.laysM173_ren:={
 mixed:=by kernel_rfl
 f129:=Tryz.func223.trans (congrArg some (by kernel_rfl))
 f173:=Tryz.func258.trans (congrArg some (by kernel_rfl))
 f246:=Tryz.func270.trans (congrArg some (by kernel_rfl))
 f283:=Tryz.func287.trans (congrArg some (by kernel_rfl))
 f284:=Tryz.func288.trans (congrArg some (by kernel_rfl))
 f285:=Tryz.func289.trans (congrArg some (by kernel_rfl))
 f286:=Tryz.func290.trans (congrArg some (by kernel_rfl))
 f317:=Tryz.func301.trans (congrArg some (by kernel_rfl))
 f318:=Tryz.func302.trans (congrArg some (by kernel_rfl))
 f319:=Tryz.func303.trans (congrArg some (by kernel_rfl))
 f320:=Tryz.func304.trans (congrArg some (by kernel_rfl))
 f337:=Tryz.func316.trans (congrArg some (by kernel_rfl))
 f338:=Tryz.func317.trans (congrArg some (by kernel_rfl))
 t0:=Tryz.underlying0
 a0:=Tryz.isAgg0
 z0:=Tryz.sizeOf0
 v0:=Tryz.zeroValue0
 t2:=Tryz.underlying2
 a2:=Tryz.isAgg2
 z2:=Tryz.sizeOf2
 v2:=Tryz.zeroValue2
 t3:=Tryz.underlying3
 a3:=Tryz.isAgg3
 z3:=Tryz.sizeOf3
 v3:=Tryz.zeroValue3
 t4:=Tryz.underlying4
 a4:=Tryz.isAgg4
 z4:=Tryz.sizeOf4
 v4:=Tryz.zeroValue4
 t5:=Tryz.underlying5
 a5:=Tryz.isAgg5
 z5:=Tryz.sizeOf5
 v5:=Tryz.zeroValue5
 t9:=Tryz.underlying9
 a9:=Tryz.isAgg9
 z9:=Tryz.sizeOf9
 v9:=Tryz.zeroValue9
 t20:=Tryz.underlying20
 a20:=Tryz.isAgg20
 z20:=Tryz.sizeOf20
 v20:=Tryz.zeroValue20
 t37:=Tryz.underlying245
 a37:=Tryz.isAgg245
 z37:=Tryz.sizeOf245
 v37:=Tryz.zeroValue245
 t46:=Tryz.underlying202
 a46:=Tryz.isAgg202
 z46:=Tryz.sizeOf202
 v46:=Tryz.zeroValue202
 t51:=Tryz.underlying241
 a51:=Tryz.isAgg241
 z51:=Tryz.sizeOf241
 v51:=Tryz.zeroValue241
 t53:=Tryz.underlying243
 a53:=Tryz.isAgg243
 z53:=Tryz.sizeOf243
 v53:=Tryz.zeroValue243
 t171:=Tryz.underlying301
 a171:=Tryz.isAgg301
 z171:=Tryz.sizeOf301
 v171:=Tryz.zeroValue301
 t173:=Tryz.underlying303
 a173:=Tryz.isAgg303
 z173:=Tryz.sizeOf303
 v173:=Tryz.zeroValue303
 t212:=Tryz.underlying316
 a212:=Tryz.isAgg316
 z212:=Tryz.sizeOf316
 v212:=Tryz.zeroValue316
 t213:=Tryz.underlying317
 a213:=Tryz.isAgg317
 z213:=Tryz.sizeOf317
 t232:=Tryz.underlying332
 a232:=Tryz.isAgg332
 z232:=Tryz.sizeOf332
 v232:=Tryz.zeroValue332
 t233:=Tryz.underlying333
 a233:=Tryz.isAgg333
 z233:=Tryz.sizeOf333
 v233:=Tryz.zeroValue333
 g17:=by kernel_rfl
 g18:=by kernel_rfl
 g19:=by kernel_rfl
 i0:=by kernel_rfl
 i2:=by kernel_rfl
 i3:=by kernel_rfl
 i4:=by kernel_rfl
 i5:=by kernel_rfl
 i9:=by kernel_rfl
 i20:=by kernel_rfl
 i37:=by kernel_rfl
 i46:=by kernel_rfl
 i51:=by kernel_rfl
 i53:=by kernel_rfl
 i171:=by kernel_rfl
 i173:=by kernel_rfl
 i212:=by kernel_rfl
 i232:=by kernel_rfl
 i233:=by kernel_rfl
 m17:=by kernel_rfl
 m18:=by kernel_rfl
 m19:=by kernel_rfl }
def Tryz.laysC174_ren:Go.Shelf.Ren:=⟨fun|174=>257|247=>268|245=>269|287=>282|279=>283|280=>284|281=>285|282=>286|321=>296|322=>297|316=>298|171=>300|205=>299|243=>315|246=>270|283=>287|284=>288|285=>289|286=>290|129=>223|317=>301|318=>302|319=>303|320=>304|337=>316|338=>317|n=>n,fun|9=>9|3=>3|2=>2|75=>270|85=>271|4=>4|167=>294|5=>5|53=>243|175=>295|46=>202|168=>297|37=>245|0=>0|210=>312|21=>21|127=>326|145=>329|143=>327|171=>301|173=>303|212=>316|51=>241|20=>20|213=>317|232=>332|233=>333|80=>335|n=>n,fun|15=>1|16=>2|17=>3|18=>4|19=>5|n=>n⟩
theorem Tryz.laysC174:Go.Proofs.LaysC.n174 Tryz.prog Tryz.laysC174_ren:={
 mixed:=by kernel_rfl
 f129:=Tryz.func223.trans (congrArg some (by kernel_rfl))
 f171:=Tryz.func300.trans (congrArg some (by kernel_rfl))
 f174:=Tryz.func257.trans (congrArg some (by kernel_rfl))
 f205:=Tryz.func299.trans (congrArg some (by kernel_rfl))
 f243:=Tryz.func315.trans (congrArg some (by kernel_rfl))
 f245:=Tryz.func269.trans (congrArg some (by kernel_rfl))
 f246:=Tryz.func270.trans (congrArg some (by kernel_rfl))
 f247:=Tryz.func268.trans (congrArg some (by kernel_rfl))
 f279:=Tryz.func283.trans (congrArg some (by kernel_rfl))
 f280:=Tryz.func284.trans (congrArg some (by kernel_rfl))
 f281:=Tryz.func285.trans (congrArg some (by kernel_rfl))
 f282:=Tryz.func286.trans (congrArg some (by kernel_rfl))
 f283:=Tryz.func287.trans (congrArg some (by kernel_rfl))
 f284:=Tryz.func288.trans (congrArg some (by kernel_rfl))
 f285:=Tryz.func289.trans (congrArg some (by kernel_rfl))
 f286:=Tryz.func290.trans (congrArg some (by kernel_rfl))
 f287:=Tryz.func282.trans (congrArg some (by kernel_rfl))
 f316:=Tryz.func298.trans (congrArg some (by kernel_rfl))
 f317:=Tryz.func301.trans (congrArg some (by kernel_rfl))
 f318:=Tryz.func302.trans (congrArg some (by kernel_rfl))
 f319:=Tryz.func303.trans (congrArg some (by kernel_rfl))
 f320:=Tryz.func304.trans (congrArg some (by kernel_rfl))
 f321:=Tryz.func296.trans (congrArg some (by kernel_rfl))
 f322:=Tryz.func297.trans (congrArg some (by kernel_rfl))
 f337:=Tryz.func316.trans (congrArg some (by kernel_rfl))
 f338:=Tryz.func317.trans (congrArg some (by kernel_rfl))
 t0:=Tryz.underlying0
 a0:=Tryz.isAgg0
 z0:=Tryz.sizeOf0
 v0:=Tryz.zeroValue0
 t2:=Tryz.underlying2
 a2:=Tryz.isAgg2
 z2:=Tryz.sizeOf2
 v2:=Tryz.zeroValue2
 t3:=Tryz.underlying3
 a3:=Tryz.isAgg3
 z3:=Tryz.sizeOf3
 v3:=Tryz.zeroValue3
 t4:=Tryz.underlying4
 a4:=Tryz.isAgg4
 z4:=Tryz.sizeOf4
 v4:=Tryz.zeroValue4
 t5:=Tryz.underlying5
 a5:=Tryz.isAgg5
 z5:=Tryz.sizeOf5
 v5:=Tryz.zeroValue5
 t9:=Tryz.underlying9
 a9:=Tryz.isAgg9
 z9:=Tryz.sizeOf9
 v9:=Tryz.zeroValue9
 t20:=Tryz.underlying20
 a20:=Tryz.isAgg20
 z20:=Tryz.sizeOf20
 v20:=Tryz.zeroValue20
 t21:=Tryz.underlying21
 a21:=Tryz.isAgg21
 z21:=Tryz.sizeOf21
 v21:=Tryz.zeroValue21
 t37:=Tryz.underlying245
 a37:=Tryz.isAgg245
 z37:=Tryz.sizeOf245
 v37:=Tryz.zeroValue245
 t46:=Tryz.underlying202
 a46:=Tryz.isAgg202
 z46:=Tryz.sizeOf202
 v46:=Tryz.zeroValue202
 t51:=Tryz.underlying241
 a51:=Tryz.isAgg241
 z51:=Tryz.sizeOf241
 v51:=Tryz.zeroValue241
 t53:=Tryz.underlying243
 a53:=Tryz.isAgg243
 z53:=Tryz.sizeOf243
 v53:=Tryz.zeroValue243
 t75:=Tryz.underlying270
 a75:=Tryz.isAgg270
 z75:=Tryz.sizeOf270
 v75:=Tryz.zeroValue270
 t85:=Tryz.underlying271
 a85:=Tryz.isAgg271
 z85:=Tryz.sizeOf271
 v85:=Tryz.zeroValue271
 t127:=Tryz.underlying326
 a127:=Tryz.isAgg326
 z127:=Tryz.sizeOf326
 v127:=Tryz.zeroValue326
 t143:=Tryz.underlying327
 a143:=Tryz.isAgg327
 z143:=Tryz.sizeOf327
 v143:=Tryz.zeroValue327
 t145:=Tryz.underlying329
 a145:=Tryz.isAgg329
 z145:=Tryz.sizeOf329
 v145:=Tryz.zeroValue329
 t167:=Tryz.underlying294
 a167:=Tryz.isAgg294
 z167:=Tryz.sizeOf294
 v167:=Tryz.zeroValue294
 t168:=Tryz.underlying297
 a168:=Tryz.isAgg297
 z168:=Tryz.sizeOf297
 v168:=Tryz.zeroValue297
 t171:=Tryz.underlying301
 a171:=Tryz.isAgg301
 z171:=Tryz.sizeOf301
 v171:=Tryz.zeroValue301
 t173:=Tryz.underlying303
 a173:=Tryz.isAgg303
 z173:=Tryz.sizeOf303
 v173:=Tryz.zeroValue303
 t175:=Tryz.underlying295
 a175:=Tryz.isAgg295
 z175:=Tryz.sizeOf295
 v175:=Tryz.zeroValue295
 t210:=Tryz.underlying312
 a210:=Tryz.isAgg312
 z210:=Tryz.sizeOf312
 v210:=Tryz.zeroValue312
 t212:=Tryz.underlying316
 a212:=Tryz.isAgg316
 z212:=Tryz.sizeOf316
 v212:=Tryz.zeroValue316
 t213:=Tryz.underlying317
 a213:=Tryz.isAgg317
 z213:=Tryz.sizeOf317
 t232:=Tryz.underlying332
 a232:=Tryz.isAgg332
 z232:=Tryz.sizeOf332
 v232:=Tryz.zeroValue332
 t233:=Tryz.underlying333
 a233:=Tryz.isAgg333
 z233:=Tryz.sizeOf333
 v233:=Tryz.zeroValue333
 g15:=by kernel_rfl
 g16:=by kernel_rfl
 g17:=by kernel_rfl
 g18:=by kernel_rfl
 g19:=by kernel_rfl
 t80:=Tryz.underlying335
 a80:=Tryz.isAgg335
 z80:=Tryz.sizeOf335
 v80:=Tryz.zeroValue335
 i0:=by kernel_rfl
 i2:=by kernel_rfl
 i3:=by kernel_rfl
 i4:=by kernel_rfl
 i5:=by kernel_rfl
 i9:=by kernel_rfl
 i20:=by kernel_rfl
 i21:=by kernel_rfl
 i37:=by kernel_rfl
 i46:=by kernel_rfl
 i51:=by kernel_rfl
 i53:=by kernel_rfl
 i75:=by kernel_rfl
 i80:=by kernel_rfl
 i85:=by kernel_rfl
 i127:=by kernel_rfl
 i143:=by kernel_rfl
 i145:=by kernel_rfl
 i167:=by kernel_rfl
 i168:=by kernel_rfl
 i171:=by kernel_rfl
 i173:=by kernel_rfl
 i175:=by kernel_rfl
 i210:=by kernel_rfl
 i212:=by kernel_rfl
 i232:=by kernel_rfl
 i233:=by kernel_rfl
 m15:=by kernel_rfl
 m16:=by kernel_rfl
 m17:=by kernel_rfl
 m18:=by kernel_rfl
 m19:=by kernel_rfl
 c0:=by kernel_rfl
 c2:=by kernel_rfl
 c3:=by kernel_rfl
 c4:=by kernel_rfl
 c5:=by kernel_rfl
 c9:=by kernel_rfl
 c20:=by kernel_rfl
 c21:=by kernel_rfl
 c37:=by kernel_rfl
 c46:=by kernel_rfl
 c51:=by kernel_rfl
 c53:=by kernel_rfl
 c75:=by kernel_rfl
 c80:=by kernel_rfl
 c85:=by kernel_rfl
 c127:=by kernel_rfl
 c143:=by kernel_rfl
 c145:=by kernel_rfl
 c167:=by kernel_rfl
 c168:=by kernel_rfl
 c171:=by kernel_rfl
 c173:=by kernel_rfl
 c175:=by kernel_rfl
 c210:=by kernel_rfl
 c212:=by kernel_rfl
 c213:=by kernel_rfl
 c232:=by kernel_rfl
 c233:=by kernel_rfl }
def Tryz.keysL_ren:Go.Shelf.Ren:=⟨fun|7=>267|10=>281|n=>n,fun|23=>93|26=>9|3=>4|28=>284|0=>0|27=>283|33=>109|4=>4|n=>n,fun|n=>n⟩
theorem Tryz.keysL:Go.Proofs.SlLaysZ.n7 Tryz.prog Tryz.keysL_ren:={
 mixed:=by kernel_rfl
 f7:=⟨Tryz.f267.name,by decide,Tryz.func267.trans (congrArg some (by kernel_rfl))⟩
 f10:=⟨Tryz.f281.name,by decide,Tryz.func281.trans (congrArg some (by kernel_rfl))⟩
 t0:=Tryz.underlying0
 a0:=Tryz.isAgg0
 z0:=Tryz.sizeOf0
 v0:=Tryz.zeroValue0
 t4:=Tryz.underlying4
 a4:=Tryz.isAgg4
 z4:=Tryz.sizeOf4
 v4:=Tryz.zeroValue4
 t23:=Tryz.underlying93
 a23:=Tryz.isAgg93
 z23:=Tryz.sizeOf93
 v23:=Tryz.zeroValue93
 t26:=Tryz.underlying9
 a26:=Tryz.isAgg9
 z26:=Tryz.sizeOf9
 v26:=Tryz.zeroValue9
 t27:=Tryz.underlying283
 a27:=Tryz.isAgg283
 z27:=Tryz.sizeOf283
 v27:=Tryz.zeroValue283
 t28:=Tryz.underlying284
 a28:=Tryz.isAgg284
 z28:=Tryz.sizeOf284
 v28:=Tryz.zeroValue284
 t33:=Tryz.underlying109
 a33:=Tryz.isAgg109
 z33:=Tryz.sizeOf109
 v33:=Tryz.zeroValue109 }
def Tryz.sortedL_ren:Go.Shelf.Ren:=⟨fun|6=>266|8=>279|9=>280|11=>294|13=>180|12=>295|23=>222|24=>223|14=>306|15=>307|16=>308|17=>309|18=>310|19=>311|20=>312|21=>313|22=>314|25=>318|26=>249|27=>250|28=>319|29=>320|30=>321|31=>322|n=>n,fun|26=>9|28=>284|24=>31|0=>0|3=>3|37=>202|48=>241|50=>243|4=>4|40=>234|39=>233|45=>238|5=>5|9=>9|51=>260|55=>264|57=>279|58=>280|33=>109|n=>n,fun|n=>n⟩
theorem Tryz.sortedL:Go.Proofs.SlLaysZ.n6 Tryz.prog Tryz.sortedL_ren:={
 mixed:=by kernel_rfl
 f6:=⟨Tryz.f266.name,by decide,Tryz.func266.trans (congrArg some (by kernel_rfl))⟩
 f8:=⟨Tryz.f279.name,by decide,Tryz.func279.trans (congrArg some (by kernel_rfl))⟩
 f11:=⟨Tryz.f294.name,by decide,Tryz.func294.trans (congrArg some (by kernel_rfl))⟩
 t0:=Tryz.underlying0
 a0:=Tryz.isAgg0
 z0:=Tryz.sizeOf0
 v0:=Tryz.zeroValue0
 t24:=Tryz.underlying31
 a24:=Tryz.isAgg31
 z24:=Tryz.sizeOf31
 v24:=Tryz.zeroValue31
 t26:=Tryz.underlying9
 a26:=Tryz.isAgg9
 z26:=Tryz.sizeOf9
 v26:=Tryz.zeroValue9
 t28:=Tryz.underlying284
 a28:=Tryz.isAgg284
 z28:=Tryz.sizeOf284
 v28:=Tryz.zeroValue284
 i26:=by kernel_rfl }
def Tryz.sortL_ren:Go.Shelf.Ren:=⟨fun|6=>280|8=>180|9=>295|19=>222|20=>223|21=>306|22=>307|23=>308|24=>309|25=>310|26=>311|27=>312|28=>313|29=>314|36=>318|31=>249|32=>250|37=>319|38=>320|39=>321|41=>322|n=>n,fun|27=>31|29=>9|3=>3|32=>202|26=>31|0=>0|44=>241|46=>243|4=>4|36=>234|35=>233|41=>238|5=>5|9=>9|53=>260|57=>264|63=>279|64=>280|n=>n,fun|n=>n⟩
theorem Tryz.sortL:Go.Proofs.SlLaysM.n6 Tryz.prog Tryz.sortL_ren:={
 mixed:=by kernel_rfl
 f6:=⟨Tryz.f280.name,by decide,Tryz.func280.trans (congrArg some (by kernel_rfl))⟩
 f8:=Tryz.func180.trans (congrArg some (by kernel_rfl))
 f9:=⟨Tryz.f295.name,by decide,Tryz.func295.trans (congrArg some (by kernel_rfl))⟩
 f19:=Tryz.func222.trans (congrArg some (by kernel_rfl))
 f20:=Tryz.func223.trans (congrArg some (by kernel_rfl))
 f21:=⟨Tryz.f306.name,by decide,Tryz.func306.trans (congrArg some (by kernel_rfl))⟩
 f22:=⟨Tryz.f307.name,by decide,Tryz.func307.trans (congrArg some (by kernel_rfl))⟩
 f23:=⟨Tryz.f308.name,by decide,Tryz.func308.trans (congrArg some (by kernel_rfl))⟩
 f24:=⟨Tryz.f309.name,by decide,Tryz.func309.trans (congrArg some (by kernel_rfl))⟩
 f25:=⟨Tryz.f310.name,by decide,Tryz.func310.trans (congrArg some (by kernel_rfl))⟩
 f26:=⟨Tryz.f311.name,by decide,Tryz.func311.trans (congrArg some (by kernel_rfl))⟩
 f27:=⟨Tryz.f312.name,by decide,Tryz.func312.trans (congrArg some (by kernel_rfl))⟩
 f28:=⟨Tryz.f313.name,by decide,Tryz.func313.trans (congrArg some (by kernel_rfl))⟩
 f29:=⟨Tryz.f314.name,by decide,Tryz.func314.trans (congrArg some (by kernel_rfl))⟩
 f31:=Tryz.func249.trans (congrArg some (by kernel_rfl))
 f32:=Tryz.func250.trans (congrArg some (by kernel_rfl))
 f36:=⟨Tryz.f318.name,by decide,Tryz.func318.trans (congrArg some (by kernel_rfl))⟩
 f37:=⟨Tryz.f319.name,by decide,Tryz.func319.trans (congrArg some (by kernel_rfl))⟩
 f38:=⟨Tryz.f320.name,by decide,Tryz.func320.trans (congrArg some (by kernel_rfl))⟩
 f39:=⟨Tryz.f321.name,by decide,Tryz.func321.trans (congrArg some (by kernel_rfl))⟩
 f41:=⟨Tryz.f322.name,by decide,Tryz.func322.trans (congrArg some (by kernel_rfl))⟩
 t0:=Tryz.underlying0
 a0:=Tryz.isAgg0
 z0:=Tryz.sizeOf0
 v0:=Tryz.zeroValue0
 t3:=Tryz.underlying3
 a3:=Tryz.isAgg3
 z3:=Tryz.sizeOf3
 v3:=Tryz.zeroValue3
 t4:=Tryz.underlying4
 a4:=Tryz.isAgg4
 z4:=Tryz.sizeOf4
 v4:=Tryz.zeroValue4
 t5:=Tryz.underlying5
 a5:=Tryz.isAgg5
 z5:=Tryz.sizeOf5
 v5:=Tryz.zeroValue5
 t9:=Tryz.underlying9
 a9:=Tryz.isAgg9
 z9:=Tryz.sizeOf9
 v9:=Tryz.zeroValue9
 t26:=Tryz.underlying31
 a26:=Tryz.isAgg31
 z26:=Tryz.sizeOf31
 v26:=Tryz.zeroValue31
 t27:=Tryz.underlying31
 a27:=Tryz.isAgg31
 z27:=Tryz.sizeOf31
 v27:=Tryz.zeroValue31
 t29:=Tryz.underlying9
 a29:=Tryz.isAgg9
 z29:=Tryz.sizeOf9
 v29:=Tryz.zeroValue9
 t32:=Tryz.underlying202
 a32:=Tryz.isAgg202
 z32:=Tryz.sizeOf202
 v32:=Tryz.zeroValue202
 t35:=Tryz.underlying233
 a35:=Tryz.isAgg233
 z35:=Tryz.sizeOf233
 v35:=Tryz.zeroValue233
 t36:=Tryz.underlying234
 a36:=Tryz.isAgg234
 z36:=Tryz.sizeOf234
 v36:=Tryz.zeroValue234
 t41:=Tryz.underlying238
 a41:=Tryz.isAgg238
 z41:=Tryz.sizeOf238
 v41:=Tryz.zeroValue238
 t44:=Tryz.underlying241
 a44:=Tryz.isAgg241
 z44:=Tryz.sizeOf241
 v44:=Tryz.zeroValue241
 t46:=Tryz.underlying243
 a46:=Tryz.isAgg243
 z46:=Tryz.sizeOf243
 v46:=Tryz.zeroValue243
 t53:=Tryz.underlying260
 a53:=Tryz.isAgg260
 z53:=Tryz.sizeOf260
 v53:=Tryz.zeroValue260
 t57:=Tryz.underlying264
 a57:=Tryz.isAgg264
 z57:=Tryz.sizeOf264
 v57:=Tryz.zeroValue264
 t63:=Tryz.underlying279
 a63:=Tryz.isAgg279
 z63:=Tryz.sizeOf279
 v63:=Tryz.zeroValue279
 t64:=Tryz.underlying280
 a64:=Tryz.isAgg280
 z64:=Tryz.sizeOf280
 v64:=Tryz.zeroValue280 }
end Go.Proofs
namespace Go.Proofs.AM
open Go Go.Lib
def least:Int:=-2147483648
def most:Int:=2147483648
def digv (a:Nat) (c:UInt8):Nat:=if 48<=c.toNat/\c.toNat<=57 then a*10+(c.toNat-48) else a
def dig (s:Str):Nat:=s.foldl digv 0
def valS (s:Str):Int:=if s[0]?=some 45 then -(dig s:Int) else dig s
theorem y79Y {d:Nat} (h:d<10):(UInt8.ofNat (48+d)).toNat=48+d:=by
 rw [UInt8.toNat_ofNat']
 omega
theorem y52Y {u:Nat} (h:u<10):decDigits u=[UInt8.ofNat (48+u)]:=by rw [decDigits,dif_pos h]
theorem y63Y {u:Nat} (h:¬u<10):decDigits u=decDigits (u / 10)++[UInt8.ofNat (48+u % 10)]:=by rw [decDigits,dif_neg h]
theorem y7aY (u:Nat):(decDigits u).foldl digv 0=u:=by
 induction u using Nat.strongRecOn with
 | _ u ih =>
   by_cases h:u<10
   ·rw [y52Y h]
    simp only [List.foldl_cons,List.foldl_nil,digv,y79Y h]
    rw [if_pos (by omega)]
    omega
   ·rw [y63Y h,List.foldl_append,ih (u / 10) (by omega)]
    simp only [List.foldl_cons,List.foldl_nil,digv,y79Y (show u % 10<10 by omega)]
    rw [if_pos (by omega)]
    omega
theorem y9sY (u:Nat):∀ c∈decDigits u,48<=c.toNat/\c.toNat<=57:=by
 induction u using Nat.strongRecOn with
 | _ u ih =>
   intro c hc
   by_cases h:u<10
   ·rw [y52Y h] at hc
    simp only [List.mem_singleton] at hc
    subst hc
    rw [y79Y h];omega
   ·rw [y63Y h] at hc
    rcases List.mem_append.1 hc with hc|hc
    ·exact ih (u / 10) (by omega) c hc
    ·simp only [List.mem_singleton] at hc
     subst hc
     rw [y79Y (show u % 10<10 by omega)];omega
theorem ye0Y (u:Nat):decDigits u≠[]:=by
 by_cases h:u<10
 ·rw [y52Y h];simp
 ·rw [y63Y h];simp
theorem y7bY:∀ (k u:Nat),u<10 ^ (k+1)->(decDigits u).length<=k+1
 | 0,u,h=>by rw [y52Y (by simpa using h)];simp
 | k+1,u,h=>by
   by_cases h2:u<10
   ·rw [y52Y h2];simp
   ·rw [y63Y h2]
    have:=y7bY k (u / 10) (by rw [Nat.pow_succ] at h;omega)
    simp;omega
theorem y53Y {n:Int} (h:n<0):itoa n=45::decDigits n.natAbs:=by unfold itoa;rw [if_pos h]
theorem y54Y {n:Int} (h:0<=n):itoa n=decDigits n.natAbs:=by
 unfold itoa
 rw [if_neg (by omega),show n.toNat=n.natAbs by omega]
theorem yjnY {n:Int} (h1:least<=n) (h2:n<=most):(itoa n).length<=11:=by
 unfold least at h1
 unfold most at h2
 have:=y7bY 9 n.natAbs (by have:(10:Nat) ^ 10=10000000000:=by decide
                           omega)
 by_cases h:n<0
 ·rw [y53Y h];simp;omega
 ·rw [y54Y (by omega)];omega
theorem yjoY (u:Nat):(decDigits u)[0]?≠some 45:=by
 intro h
 have:=y9sY u 45 (List.mem_of_getElem? h)
 revert this
 decide
theorem yjpY (n:Int):valS (itoa n)=n:=by
 unfold valS
 by_cases h:n<0
 ·rw [y53Y h]
  rw [if_pos (by simp)]
  have:dig (45::decDigits n.natAbs)=n.natAbs:=by
   unfold dig
   rw [List.foldl_cons]
   have:digv 0 45=0:=by decide
   rw [this,y7aY]
  rw [this]
  omega
 ·rw [y54Y (by omega),if_neg (yjoY _)]
  unfold dig
  rw [y7aY]
  omega
def NumP (s:Str) (n:Int):Prop:=s=itoa n/\least<=n/\n<=most
def numS (s:Str):Option Int:=if itoa (valS s)=s/\least<=valS s/\valS s<=most then some (valS s) else none
theorem numS_iff {s:Str} {n:Int}:numS s=some n↔NumP s n:=by
 unfold numS NumP
 constructor
 ·intro h
  split at h
  ·rename_i hc
   simp only [Option.some.injEq] at h
   subst h
   exact ⟨hc.1.symm,hc.2⟩
  ·simp at h
 ·rintro ⟨rfl,h1,h2⟩
  rw [yjpY,if_pos ⟨rfl,h1,h2⟩]
theorem y9tY {s:Str} {n:Int} (h:numS s=some n):s.length<=11:=by
 obtain ⟨rfl,h1,h2⟩:=numS_iff.1 h
 exact yjnY h1 h2
theorem ye1Y:∀ (l:List UInt8) (acc:Nat),(∀ c∈l,48<=c.toNat/\c.toNat<=57)->(l.foldl digv acc<1844674407370955162)->parseUintM 18446744073709551615 acc l=.ok (l.foldl digv acc)
 | [],acc,_,_=>rfl
 | c::r,acc,hd,hlt=>by
   have hc:=hd c (by simp)
   have hmono:∀ (l:List UInt8) (a:Nat),a<=l.foldl digv a:=by
    intro l
    induction l with
    | nil=>intro a;exact Nat.le_refl _
    | cons x r ih =>
      intro a
      rw [List.foldl_cons]
      refine Nat.le_trans ?_ (ih _)
      unfold digv
      split<;>omega
   rw [List.foldl_cons] at hlt ⊢
   have h1:digv acc c=acc*10+(c.toNat-48):=by unfold digv;rw [if_pos hc]
   have h2:=hmono r (digv acc c)
   rw [h1] at h2 hlt ⊢
   rw [parseUintM,if_pos hc,if_neg (by omega),if_neg (by omega)]
   rw [ye1Y r _ (fun x hx=>hd x (by simp [hx])) hlt]
theorem ye2Y {n:Int} (h1:least<=n) (h2:n<=most):parseIntB 64 (itoa n)=.ok n:=by
 unfold least at h1
 unfold most at h2
 have hp:(2:Nat) ^ 64-1=18446744073709551615:=by decide
 have hq:(2:Nat) ^ (64-1)=9223372036854775808:=by decide
 have hu:∀ u:Nat,u<1844674407370955162->parseUintB 64 (decDigits u)=.ok u:=by
  intro u hu
  unfold parseUintB
  rw [if_neg (ye0Y u),hp,ye1Y _ _ (y9sY u) (by rw [y7aY];exact hu),y7aY]
 by_cases h:n<0
 ·rw [y53Y h]
  unfold parseIntB
  simp only
  rw [if_pos (by decide),hu _ (by omega)]
  simp only
  rw [hq,if_neg (by simp),if_neg (by omega),if_pos (by decide)]
  congr 1
  omega
 ·rw [y54Y (by omega)]
  cases hd:decDigits n.natAbs with
  | nil=>exact absurd hd (ye0Y _)
  | cons c r =>
    have hc:=y9sY n.natAbs c (by rw [hd];simp)
    unfold parseIntB
    simp only
    rw [if_neg (by omega),←hd,hu _ (by omega)]
    simp only
    rw [hq,if_neg (by omega),if_neg (by omega),if_neg (by omega)]
    congr 1
    omega
def small (c:UInt8):Prop:=97<=c.toNat/\c.toNat<=122
def okc (c:UInt8):Prop:=small c∨(48<=c.toNat/\c.toNat<=57)∨c.toNat=46∨c.toNat=45
instance (c:UInt8):Decidable (small c):=by unfold small;exact inferInstance
instance (c:UInt8):Decidable (okc c):=by unfold okc;exact inferInstance
def NameP (s:Str):Prop:=1<=s.length/\s.length<=16/\∀ (i:Nat) (c:UInt8),s[i]?=some c->okc c/\(i=0->small c)
open Classical in
noncomputable def nameB (s:Str):Bool:=decide (NameP s)
open Classical in
noncomputable def yiY (s:Str):Bool:=decide (NameP s∨numS s≠none)
theorem ye3Y (s:Str):yiY s=(nameB s||(numS s).isSome):=by
 unfold yiY nameB
 cases numS s<;>simp
theorem y7cY {s:Str} {k:Nat} {c:UInt8} (hc:s[k]?=some c) (h:¬(okc c/\(k=0->small c))):nameB s=false:=by
 unfold nameB
 simp only [decide_eq_false_iff_not]
 exact fun hn=>h (hn.2.2 k c hc)
theorem y7dY {s:Str} (h:¬(1<=s.length/\s.length<=16)):nameB s=false:=by
 unfold nameB
 simp only [decide_eq_false_iff_not]
 exact fun hn=>h ⟨hn.1,hn.2.1⟩
theorem ye4Y {s:Str} (h1:1<=s.length) (h2:s.length<=16) (h:∀ (i:Nat) (c:UInt8),s[i]?=some c->okc c/\(i=0->small c)):nameB s=true:=by
 unfold nameB
 simp only [decide_eq_true_eq]
 exact ⟨h1,h2,h⟩
theorem yjqY {s:Str} (h:yiY s=true):s.length<=16:=by
 unfold yiY at h
 simp only [decide_eq_true_eq] at h
 rcases h with h|h
 ·exact h.2.1
 ·cases hn:numS s with
  | none=>exact absurd hn h
  | some n=>have:=y9tY hn;omega
def SL (s:Str):Prop:=s.length<=140737488355328
structure FL (l:List Str):Prop where
 len:l.length<=8796093022208
 all:∀ s∈l,SL s
def FI (n:Int):Prop:=-9223372036854775808<=n/\n<=9223372036854775807
structure SetV where
 m:Bool
 n:Bool
 u:Bool
 l:List Str
 lo:Int
 hi:Int
 deriving DecidableEq
def setD (s:SetV):D:=.agg [.bool s.m,.bool s.n,.bool s.u,.sl 1 false (s.l.map mkS),jI s.lo,jI s.hi]
structure FS (s:SetV):Prop where
 l:FL s.l
 lo:FI s.lo
 hi:FI s.hi
def Rises (l:List Str):Prop:=l.Pairwise (·<·)
def putS (x:Str):List Str->List Str
 | []=>[x]
 | y::r=>if y<x then y::putS x r else if y=x then y::r else x::y::r
def ydY (l:List Str):List Str:=l.foldl (fun a x=>putS x a) []
theorem y4bY (x:Str):∀ (l:List Str) (k:Nat),k<=l.length->(∀ j y,j<k->l[j]?=some y->y<x)->(∀ y,l[k]?=some y->¬y<x) ->
 (l[k]?=some x->putS x l=l)/\(l[k]?≠some x->putS x l=l.take k++[x]++l.drop k)
 | [],k,hk,_,_=>by
   have:k=0:=by simpa using hk
   subst this
   simp [putS]
 | y::r,0,_,_,h=>by
   have hy:=h y rfl
   simp only [putS,if_neg hy]
   constructor
   ·intro e;simp at e;rw [if_pos e]
   ·intro e;simp at e;rw [if_neg e];simp
 | y::r,k+1,hk,hlt,h=>by
   have hy:=hlt 0 y (by omega) rfl
   obtain ⟨h1,h2⟩:=y4bY x r k (by simpa using hk) (fun j z hj hz=>hlt (j+1) z (by omega) (by simpa using hz)) (fun z hz=>h z (by simpa using hz))
   simp only [putS,if_pos hy]
   constructor
   ·intro e;rw [h1 (by simpa using e)]
   ·intro e;rw [h2 (by simpa using e)];simp
theorem y9uY (x:Str):∀ (l:List Str),(putS x l).length<=l.length+1
 | []=>by simp [putS]
 | y::r=>by
   simp only [putS]
   split
   ·have:=y9uY x r;simp;omega
   ·split<;>simp
theorem putS_mem {x z:Str}:∀ {l:List Str},z∈putS x l↔z=x∨z∈l
 | []=>by simp [putS]
 | y::r=>by
   simp only [putS]
   split
   ·simp only [List.mem_cons,putS_mem (l:=r)]
    constructor
    ·rintro (h|h|h)<;>simp [h]
    ·rintro (h|h|h)<;>simp [h]
   ·split
    ·rename_i e
     subst e
     simp only [List.mem_cons]
     constructor
     ·intro h;exact .inr h
     ·rintro (h|h)
      ·exact .inl h
      ·exact h
    ·simp only [List.mem_cons]
theorem lt_irrefl (a:Str):¬a<a:=List.lt_irrefl a
theorem ye5Y {a b c:Str} (h:a<b) (k:b<c):a<c:=List.lt_trans h k
theorem y55Y (a b:Str):a<b∨a=b∨b<a:=by
 rcases Classical.em (a<b) with h|h
 ·exact .inl h
 ·rcases Classical.em (b<a) with k|k
  ·exact .inr (.inr k)
  ·exact .inr (.inl (List.le_antisymm (List.not_lt.1 k) (List.not_lt.1 h)))
theorem ye6Y {x:Str}:∀ {l:List Str},Rises l->Rises (putS x l)
 | [],_=>by simp [putS,Rises]
 | y::r,h=>by
   unfold Rises at h ⊢
   rw [List.pairwise_cons] at h
   simp only [putS]
   split
   ·rename_i hy
    rw [List.pairwise_cons]
    refine ⟨fun z hz=>?_,ye6Y h.2⟩
    rcases putS_mem.1 hz with rfl|hz
    ·exact hy
    ·exact h.1 z hz
   ·rename_i hy
    split
    ·rw [List.pairwise_cons];exact h
    ·rename_i hne
     have hxy:x<y:=by
      rcases y55Y x y with k|k|k
      ·exact k
      ·exact absurd k.symm hne
      ·exact absurd k hy
     rw [List.pairwise_cons,List.pairwise_cons]
     refine ⟨fun z hz=>?_,h⟩
     rcases List.mem_cons.1 hz with rfl|hz
     ·exact hxy
     ·exact ye5Y hxy (h.1 z hz)
theorem y7eY (l:List Str):∀ (a:List Str),Rises a->Rises (l.foldl (fun a x=>putS x a) a)/\(∀ z,z∈l.foldl (fun a x=>putS x a) a↔z∈l∨z∈a)/\(l.foldl (fun a x=>putS x a) a).length<=l.length+a.length:=by
 induction l with
 | nil=>intro a h;simp [h]
 | cons x r ih =>
   intro a h
   obtain ⟨h1,h2,h3⟩:=ih (putS x a) (ye6Y h)
   refine ⟨h1,fun z=>?_,?_⟩
   ·rw [List.foldl_cons,h2 z,putS_mem,List.mem_cons]
    constructor
    ·rintro (h|h|h)<;>simp [h]
    ·rintro ((h|h)|h)<;>simp [h]
   ·have:=y9uY x a
    simp only [List.foldl_cons,List.length_cons]
    omega
theorem y4cY (l:List Str):Rises (ydY l):=(y7eY l [] (by simp [Rises])).1
theorem y3jY {l:List Str} {z:Str}:z∈ydY l↔z∈l:=by
 have:=(y7eY l [] (by simp [Rises])).2.1 z
 unfold ydY
 simpa using this
theorem y7fY (l:List Str):(ydY l).length<=l.length:=by
 have:=(y7eY l [] (by simp [Rises])).2.2
 unfold ydY
 simpa using this
theorem y9vY:∀ {a b:List Str},Rises a->Rises b->(∀ z,z∈a↔z∈b)->a=b
 | [],[],_,_,_=>rfl
 | [],y::b,_,_,h=>by have:=(h y).2 (by simp);simp at this
 | x::a,[],_,_,h=>by have:=(h x).1 (by simp);simp at this
 | x::a,y::b,ha,hb,h=>by
   unfold Rises at ha hb
   rw [List.pairwise_cons] at ha hb
   have hxy:x=y:=by
    have h1:=(h x).1 (by simp)
    have h2:=(h y).2 (by simp)
    rcases List.mem_cons.1 h1 with e|h1
    ·exact e
    ·rcases List.mem_cons.1 h2 with e|h2
     ·exact e.symm
     ·exact absurd (ye5Y (hb.1 x h1) (ha.1 y h2)) (lt_irrefl y)
   subst hxy
   congr 1
   refine y9vY ha.2 hb.2 fun z=>?_
   constructor
   ·intro hz
    rcases List.mem_cons.1 ((h z).1 (by simp [hz])) with e|hz'
    ·subst e;exact absurd (ha.1 z hz) (lt_irrefl z)
    ·exact hz'
   ·intro hz
    rcases List.mem_cons.1 ((h z).2 (by simp [hz])) with e|hz'
    ·subst e;exact absurd (hb.1 z hz) (lt_irrefl z)
    ·exact hz'
theorem Rises.nodup {l:List Str} (h:Rises l):l.Nodup:=List.Pairwise.imp (fun h e=>by subst e;exact lt_irrefl _ h) h
theorem FL.put {x:Str} {l:List Str} (hl:FL l) (hx:SL x) (h:l.length<8796093022208):FL (putS x l) :=
 ⟨by have:=y9uY x l;omega,fun s hs=>by
  rcases putS_mem.1 hs with rfl|hs
  ·exact hx
  ·exact hl.all s hs⟩
def AdjP (l:List Str):Prop:=∀ (j:Nat) (x y:Str),l[j]?=some x->l[j+1]?=some y->x<y
def OrdP (l:List Str):Prop:=l.length<=64/\(∀ (j:Nat) x,l[j]?=some x->yiY x=true)/\AdjP l
structure CheckP (s:SetV):Prop where
 ord:OrdP s.l
 un:s.u=true->s.n=true
 nu:s.u=false->s.lo=0/\s.hi=0
 u:s.u=true->least<=s.lo/\s.hi<=most/\s.lo<=s.hi/\64<s.hi-s.lo+1-s.l.length/\∀ (j:Nat) x,s.l[j]?=some x->∃ n,numS x=some n/\s.lo<n/\n<s.hi
open Classical in
open Classical in
open Classical in
open Classical in
open Classical in
open Classical in
def kS:Bool × List (Nat × EqT):=(false,[(0,.str)])
def ent (s:Str):D:=.tup [mkS s,.bool true]
def insS (l:List Str) (s:Str):List Str:=if s∈l then l else l++[s]
def y1jY (L:List (List Str)):List Str:=L.flatten.foldl insS []
theorem ye7Y (a b:Str):keyEq kS (mkS a) (mkS b)=some (decide (a=b)):=by
 unfold keyEq
 rw [if_pos ⟨rfl,rfl⟩]
 have hb:(({ data:={ toList:=a } }:ByteArray) == { data:={ toList:=b } })=decide (a=b):=by
  show (({ toList:=a }:Array UInt8) == { toList:=b })=_
  rw [Bool.eq_iff_iff]
  simp
 show (some (_ == _)).bind _=_
 simp only [Option.bind_some,ylY,Option.map_some,Bool.and_true]
 rw [hb]
theorem y7gY (s:Str):∀ (l:List Str),lookD kS (mkS s) (l.map ent)=some (if s∈l then some (.bool true) else none)
 | []=>rfl
 | x::r=>by
   simp only [List.map_cons,ent,lookD,ye7Y,Option.bind_some]
   by_cases h:s=x
   ·subst h;simp
   ·have:=y7gY s r
    simp only [h,decide_false,Bool.false_eq_true,if_false,List.mem_cons,false_or]
    exact this
theorem y64Y (s:Str):∀ (l:List Str),mputD kS (mkS s) (.bool true) (l.map ent)=some ((insS l s).map ent)
 | []=>rfl
 | x::r=>by
   simp only [List.map_cons,ent,mputD,ye7Y,Option.bind_some]
   by_cases h:s=x
   ·subst h;simp [insS,ent]
   ·have:=y64Y s r
    simp only [h,decide_false,Bool.false_eq_true,if_false]
    change Option.map _ (mputD kS (mkS s) (.bool true) (r.map ent))=_
    rw [this]
    unfold insS
    by_cases hm:s∈r
    ·simp [hm,ent]
    ·simp [hm,h,ent]
theorem y7hY (s:Str):Clean (ent s):=⟨rfl,rfl⟩
theorem y9wY {l:List Str} {s z:Str}:z∈insS l s↔z∈l∨z=s:=by
 unfold insS
 by_cases h:s∈l
 ·simp only [h,if_true]
  constructor
  ·exact .inl
  ·rintro (h'|rfl)
   ·exact h'
   ·exact h
 ·simp [h]
theorem ye8Y {l:List Str} {s:Str} (h:l.Nodup):(insS l s).Nodup:=by
 unfold insS
 by_cases hs:s∈l
 ·simpa [hs] using h
 ·simp only [hs,if_false]
  rw [List.nodup_append]
  refine ⟨h,by simp,fun a ha b hb=>?_⟩
  simp only [List.mem_singleton] at hb
  subst hb
  exact fun e=>hs (e ▸ ha)
theorem ye9Y (l:List Str) (s:Str):(insS l s).length<=l.length+1:=by
 unfold insS
 split<;>simp
theorem y3kY:∀ (m l:List Str),l.Nodup->(m.foldl insS l).Nodup/\(∀ z,z∈m.foldl insS l↔z∈m∨z∈l)/\(m.foldl insS l).length<=m.length+l.length
 | [],l,h=>by simp [h]
 | x::r,l,h=>by
   obtain ⟨h1,h2,h3⟩:=y3kY r (insS l x) (ye8Y h)
   refine ⟨h1,fun z=>?_,?_⟩
   ·rw [List.foldl_cons,h2 z,y9wY,List.mem_cons]
    constructor
    ·rintro (h|h|h)<;>simp [h]
    ·rintro ((h|h)|h)<;>simp [h]
   ·have:=ye9Y l x
    simp only [List.foldl_cons,List.length_cons]
    omega
theorem y9xY (L:List (List Str)):(y1jY L).Nodup:=(y3kY L.flatten [] List.nodup_nil).1
theorem y9yY {L:List (List Str)} {z:Str}:z∈y1jY L↔z∈L.flatten:=by
 have:=(y3kY L.flatten [] List.nodup_nil).2.1 z
 unfold y1jY
 simpa using this
theorem yjrY (L:List (List Str)):(y1jY L).length<=L.flatten.length:=by
 have:=(y3kY L.flatten [] List.nodup_nil).2.2
 unfold y1jY
 simpa using this
theorem y7iY:∀ {a b:List Str},a.Nodup->(∀ z∈a,z∈b)->a.length<=b.length
 | [],_,_,_=>by simp
 | x::r,b,h,hm=>by
   rw [List.nodup_cons] at h
   have hx:=hm x (by simp)
   have:=y7iY (a:=r) (b:=b.erase x) h.2 fun z hz=>(List.mem_erase_of_ne (fun e=>h.1 (by rw [←e];exact hz))).2 (hm z (by simp [hz]))
   rw [List.length_erase_of_mem hx] at this
   have:=List.length_pos_of_mem hx
   simp
   omega
theorem yeaY {a b:List Str} (ha:a.Nodup) (hb:b.Nodup) (h:∀ z,z∈a↔z∈b):a.length=b.length :=
 Nat.le_antisymm (y7iY ha fun z hz=>(h z).1 hz) (y7iY hb fun z hz=>(h z).2 hz)
theorem yjsY {l:List Str} (h:l.Nodup):(ydY l).length=l.length:=yeaY (y4cY l).nodup h fun _=>y3jY
theorem y9zY {a b:List Str} (h:∀ z,z∈a↔z∈b):ydY a=ydY b :=
 y9vY (y4cY a) (y4cY b) fun z=>by rw [y3jY,y3jY,h z]
def upS (hi:Int) (K:List Str) (lo:Int):Int:=if _h:lo<=hi/\itoa lo∈K then upS hi K (lo+1) else lo
termination_by (hi+1-lo).toNat
def dnS (lo:Int) (K:List Str) (hi:Int):Int:=if _h:lo<=hi/\itoa hi∈K then dnS lo K (hi-1) else hi
termination_by (hi+1-lo).toNat
theorem ya0Y {hi lo:Int} {K:List Str} (h:lo<=hi/\itoa lo∈K):upS hi K lo=upS hi K (lo+1):=by rw [upS,dif_pos h]
theorem y56Y {hi lo:Int} {K:List Str} (h:¬(lo<=hi/\itoa lo∈K)):upS hi K lo=lo:=by rw [upS,dif_neg h]
theorem ya1Y {hi lo:Int} {K:List Str} (h:lo<=hi/\itoa hi∈K):dnS lo K hi=dnS lo K (hi-1):=by rw [dnS,dif_pos h]
theorem y57Y {hi lo:Int} {K:List Str} (h:¬(lo<=hi/\itoa hi∈K)):dnS lo K hi=hi:=by rw [dnS,dif_neg h]
open Classical in
noncomputable def inR (lo hi:Int) (s:Str):Bool:=decide (∃ n,numS s=some n/\lo<n/\n<hi)
theorem inR_iff {lo hi:Int} {s:Str}:inR lo hi s=true↔∃ n,numS s=some n/\lo<n/\n<hi:=by unfold inR;simp
def upTo (lo:Int):Nat->List Str
 | 0=>[]
 | n+1=>itoa lo::upTo (lo+1) n
def listN (lo hi:Int) (V:List Str):List Str:=(upTo lo (hi+1-lo).toNat).filter fun s=>decide (s∉V)
noncomputable def valsN (lo hi:Int) (K:List Str):List Str:=ydY (K.filter (inR lo hi))
noncomputable def y2aY (lo hi:Int) (K:List Str):Option SetV :=
 if hi-lo+1-(valsN lo hi K).length<=64 then some ⟨false,false,false,ydY (listN lo hi (valsN lo hi K)),0,0⟩
 else if 64<(valsN lo hi K).length then none else some ⟨false,true,true,valsN lo hi K,lo,hi⟩
noncomputable def y2jY (lo hi:Int) (K:List Str):Option SetV:=y2aY (upS hi K lo) (dnS (upS hi K lo) K hi) K
end Go.Proofs.AM
