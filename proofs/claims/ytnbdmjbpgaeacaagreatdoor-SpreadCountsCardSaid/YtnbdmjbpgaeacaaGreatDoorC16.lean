/- Part 16 of the lemmas: AGMb, AGPb, ATryLbb, PWd, ALb. -/
import Derived.Test.YtnbdmjbpgaeacaaGreatDoorProg
import Derived.Shelf.Abstract
import Derived.Test.YtnbdmjbpgaeacaaGreatDoorC06
import Derived.Test.YtnbdmjbpgaeacaaGreatDoorC15
import Derived.Test.YtnbdmjbpgaeacaaGreatDoorC08
import Derived.WalkKit
import Derived.Test.YtnbdmjbpgaeacaaGreatDoorC14
import Derived.Shelf.LaysM
import Derived.Shelf.LaysC
import Derived.Shelf.Small.Strs
import Derived.Test.YtnbdmjbpgaeacaaGreatDoorC13
set_option maxRecDepth 100000
set_option maxHeartbeats 8000000
set_option linter.all false
namespace Go.Proofs.AM
open Go Go.RowKit Go.Shelf Cd
set_option maxRecDepth 100000
theorem E32:y1Y Tryz.prog 32:=enters_of Tryz.func32 (by kernel_rfl) rfl
theorem T32:funcT Tryz.prog [] Tryz.f32=some c32.erase:=by kernel_rfl
theorem E66:y1Y Tryz.prog 66:=enters_of Tryz.func66 (by kernel_rfl) rfl
theorem T66:funcT Tryz.prog [] Tryz.f66=some c66.erase:=by kernel_rfl
theorem E67:y1Y Tryz.prog 67:=enters_of Tryz.func67 (by kernel_rfl) rfl
theorem T67:funcT Tryz.prog [] Tryz.f67=some c67.erase:=by kernel_rfl
theorem E68:y1Y Tryz.prog 68:=enters_of Tryz.func68 (by kernel_rfl) rfl
theorem T68:funcT Tryz.prog [] Tryz.f68=some c68.erase:=by kernel_rfl
theorem E69:y1Y Tryz.prog 69:=enters_of Tryz.func69 (by kernel_rfl) rfl
theorem T69:funcT Tryz.prog [] Tryz.f69=some c69.erase:=by kernel_rfl
theorem E70:y1Y Tryz.prog 70:=enters_of Tryz.func70 (by kernel_rfl) rfl
theorem T70:funcT Tryz.prog [] Tryz.f70=some c70.erase:=by kernel_rfl
theorem E74:y1Y Tryz.prog 74:=enters_of Tryz.func74 (by kernel_rfl) rfl
theorem T74:funcT Tryz.prog [] Tryz.f74=some c74.erase:=by kernel_rfl
theorem E82:y1Y Tryz.prog 82:=enters_of Tryz.func82 (by kernel_rfl) rfl
theorem T82:funcT Tryz.prog [] Tryz.f82=some c82.erase:=by kernel_rfl
theorem E116:y1Y Tryz.prog 116:=enters_of Tryz.func116 (by kernel_rfl) rfl
theorem T116:funcT Tryz.prog [] Tryz.f116=some c116.erase:=by kernel_rfl
theorem E117:y1Y Tryz.prog 117:=enters_of Tryz.func117 (by kernel_rfl) rfl
theorem T117:funcT Tryz.prog [] Tryz.f117=some c117.erase:=by kernel_rfl
theorem E120:y1Y Tryz.prog 120:=enters_of Tryz.func120 (by kernel_rfl) rfl
theorem T120:funcT Tryz.prog [] Tryz.f120=some c120.erase:=by kernel_rfl
theorem E121:y1Y Tryz.prog 121:=enters_of Tryz.func121 (by kernel_rfl) rfl
theorem T121:funcT Tryz.prog [] Tryz.f121=some c121.erase:=by kernel_rfl
theorem E124:y1Y Tryz.prog 124:=enters_of Tryz.func124 (by kernel_rfl) rfl
theorem T124:funcT Tryz.prog [] Tryz.f124=some c124.erase:=by kernel_rfl
theorem E132:y1Y Tryz.prog 132:=enters_of Tryz.func132 (by kernel_rfl) rfl
theorem T132:funcT Tryz.prog [] Tryz.f132=some c132.erase:=by kernel_rfl
theorem E133:y1Y Tryz.prog 133:=enters_of Tryz.func133 (by kernel_rfl) rfl
theorem T133:funcT Tryz.prog [] Tryz.f133=some c133.erase:=by kernel_rfl
theorem E134:y1Y Tryz.prog 134:=enters_of Tryz.func134 (by kernel_rfl) rfl
theorem T134:funcT Tryz.prog [] Tryz.f134=some c134.erase:=by kernel_rfl
theorem E135:y1Y Tryz.prog 135:=enters_of Tryz.func135 (by kernel_rfl) rfl
theorem T135:funcT Tryz.prog [] Tryz.f135=some c135.erase:=by kernel_rfl
theorem E136:y1Y Tryz.prog 136:=enters_of Tryz.func136 (by kernel_rfl) rfl
theorem T136:funcT Tryz.prog [] Tryz.f136=some c136.erase:=by kernel_rfl
theorem E137:y1Y Tryz.prog 137:=enters_of Tryz.func137 (by kernel_rfl) rfl
theorem T137:funcT Tryz.prog [] Tryz.f137=some c137.erase:=by kernel_rfl
theorem E138:y1Y Tryz.prog 138:=enters_of Tryz.func138 (by kernel_rfl) rfl
theorem T138:funcT Tryz.prog [] Tryz.f138=some c138.erase:=by kernel_rfl
theorem E139:y1Y Tryz.prog 139:=enters_of Tryz.func139 (by kernel_rfl) rfl
theorem T139:funcT Tryz.prog [] Tryz.f139=some c139.erase:=by kernel_rfl
theorem E140:y1Y Tryz.prog 140:=enters_of Tryz.func140 (by kernel_rfl) rfl
theorem T140:funcT Tryz.prog [] Tryz.f140=some c140.erase:=by kernel_rfl
theorem E160:y1Y Tryz.prog 160:=enters_of Tryz.func160 (by kernel_rfl) rfl
theorem T160:funcT Tryz.prog [] Tryz.f160=some c160.erase:=by kernel_rfl
theorem E161:y1Y Tryz.prog 161:=enters_of Tryz.func161 (by kernel_rfl) rfl
theorem T161:funcT Tryz.prog [] Tryz.f161=some c161.erase:=by kernel_rfl
theorem E166:y1Y Tryz.prog 166:=enters_of Tryz.func166 (by kernel_rfl) rfl
theorem T166:funcT Tryz.prog [] Tryz.f166=some c166.erase:=by kernel_rfl
theorem E176:y1Y Tryz.prog 176:=enters_of Tryz.func176 (by kernel_rfl) rfl
theorem T176:funcT Tryz.prog [] Tryz.f176=some c176.erase:=by kernel_rfl
theorem E177:y1Y Tryz.prog 177:=enters_of Tryz.func177 (by kernel_rfl) rfl
theorem T177:funcT Tryz.prog [] Tryz.f177=some c177.erase:=by kernel_rfl
theorem E183:y1Y Tryz.prog 183:=enters_of Tryz.func183 (by kernel_rfl) rfl
theorem T183:funcT Tryz.prog [] Tryz.f183=some c183.erase:=by kernel_rfl
theorem E185:y1Y Tryz.prog 185:=enters_of Tryz.func185 (by kernel_rfl) rfl
theorem T185:funcT Tryz.prog [] Tryz.f185=some c185.erase:=by kernel_rfl
theorem E186:y1Y Tryz.prog 186:=enters_of Tryz.func186 (by kernel_rfl) rfl
theorem T186:funcT Tryz.prog [] Tryz.f186=some c186.erase:=by kernel_rfl
theorem E188:y1Y Tryz.prog 188:=enters_of Tryz.func188 (by kernel_rfl) rfl
theorem T188:funcT Tryz.prog [] Tryz.f188=some c188.erase:=by kernel_rfl
theorem E189:y1Y Tryz.prog 189:=enters_of Tryz.func189 (by kernel_rfl) rfl
theorem T189:funcT Tryz.prog [] Tryz.f189=some c189.erase:=by kernel_rfl
theorem E195:y1Y Tryz.prog 195:=enters_of Tryz.func195 (by kernel_rfl) rfl
theorem T195:funcT Tryz.prog [] Tryz.f195=some c195.erase:=by kernel_rfl
theorem E201:y1Y Tryz.prog 201:=enters_of Tryz.func201 (by kernel_rfl) rfl
theorem T201:funcT Tryz.prog [] Tryz.f201=some c201.erase:=by kernel_rfl
theorem E202:y1Y Tryz.prog 202:=enters_of Tryz.func202 (by kernel_rfl) rfl
theorem T202:funcT Tryz.prog [] Tryz.f202=some c202.erase:=by kernel_rfl
theorem E208:y1Y Tryz.prog 208:=enters_of Tryz.func208 (by kernel_rfl) rfl
theorem T208:funcT Tryz.prog [] Tryz.f208=some c208.erase:=by kernel_rfl
theorem E228:y1Y Tryz.prog 228:=enters_of Tryz.func228 (by kernel_rfl) rfl
theorem T228:funcT Tryz.prog [] Tryz.f228=some c228.erase:=by kernel_rfl
theorem E235:y1Y Tryz.prog 235:=enters_of Tryz.func235 (by kernel_rfl) rfl
theorem T235:funcT Tryz.prog [] Tryz.f235=some c235.erase:=by kernel_rfl
theorem E244:y1Y Tryz.prog 244:=enters_of Tryz.func244 (by kernel_rfl) rfl
theorem T244:funcT Tryz.prog [] Tryz.f244=some c244.erase:=by kernel_rfl
theorem E245:y1Y Tryz.prog 245:=enters_of Tryz.func245 (by kernel_rfl) rfl
theorem T245:funcT Tryz.prog [] Tryz.f245=some c245.erase:=by kernel_rfl
theorem E263:y1Y Tryz.prog 263:=enters_of Tryz.func263 (by kernel_rfl) rfl
theorem T263:funcT Tryz.prog [] Tryz.f263=some c263.erase:=by kernel_rfl
set_option maxRecDepth 100000
theorem E33:y1Y Tryz.prog 33:=enters_of Tryz.func33 (by kernel_rfl) rfl
theorem T33:funcT Tryz.prog [] Tryz.f33=some c33.erase:=by kernel_rfl
theorem E45:y1Y Tryz.prog 45:=enters_of Tryz.func45 (by kernel_rfl) rfl
theorem T45:funcT Tryz.prog [] Tryz.f45=some c45.erase:=by kernel_rfl
theorem E46:y1Y Tryz.prog 46:=enters_of Tryz.func46 (by kernel_rfl) rfl
theorem T46:funcT Tryz.prog [] Tryz.f46=some c46.erase:=by kernel_rfl
theorem E49:y1Y Tryz.prog 49:=enters_of Tryz.func49 (by kernel_rfl) rfl
theorem T49:funcT Tryz.prog [] Tryz.f49=some c49.erase:=by kernel_rfl
theorem E50:y1Y Tryz.prog 50:=enters_of Tryz.func50 (by kernel_rfl) rfl
theorem T50:funcT Tryz.prog [] Tryz.f50=some c50.erase:=by kernel_rfl
theorem E71:y1Y Tryz.prog 71:=enters_of Tryz.func71 (by kernel_rfl) rfl
theorem T71:funcT Tryz.prog [] Tryz.f71=some c71.erase:=by kernel_rfl
theorem E72:y1Y Tryz.prog 72:=enters_of Tryz.func72 (by kernel_rfl) rfl
theorem T72:funcT Tryz.prog [] Tryz.f72=some c72.erase:=by kernel_rfl
theorem E73:y1Y Tryz.prog 73:=enters_of Tryz.func73 (by kernel_rfl) rfl
theorem T73:funcT Tryz.prog [] Tryz.f73=some c73.erase:=by kernel_rfl
theorem E75:y1Y Tryz.prog 75:=enters_of Tryz.func75 (by kernel_rfl) rfl
theorem T75:funcT Tryz.prog [] Tryz.f75=some c75.erase:=by kernel_rfl
theorem E76:y1Y Tryz.prog 76:=enters_of Tryz.func76 (by kernel_rfl) rfl
theorem T76:funcT Tryz.prog [] Tryz.f76=some c76.erase:=by kernel_rfl
theorem E77:y1Y Tryz.prog 77:=enters_of Tryz.func77 (by kernel_rfl) rfl
theorem T77:funcT Tryz.prog [] Tryz.f77=some c77.erase:=by kernel_rfl
theorem E91:y1Y Tryz.prog 91:=enters_of Tryz.func91 (by kernel_rfl) rfl
theorem T91:funcT Tryz.prog [] Tryz.f91=some c91.erase:=by kernel_rfl
theorem E96:y1Y Tryz.prog 96:=enters_of Tryz.func96 (by kernel_rfl) rfl
theorem T96:funcT Tryz.prog [] Tryz.f96=some c96.erase:=by kernel_rfl
theorem E97:y1Y Tryz.prog 97:=enters_of Tryz.func97 (by kernel_rfl) rfl
theorem T97:funcT Tryz.prog [] Tryz.f97=some c97.erase:=by kernel_rfl
theorem E98:y1Y Tryz.prog 98:=enters_of Tryz.func98 (by kernel_rfl) rfl
theorem T98:funcT Tryz.prog [] Tryz.f98=some c98.erase:=by kernel_rfl
theorem E99:y1Y Tryz.prog 99:=enters_of Tryz.func99 (by kernel_rfl) rfl
theorem T99:funcT Tryz.prog [] Tryz.f99=some c99.erase:=by kernel_rfl
theorem E100:y1Y Tryz.prog 100:=enters_of Tryz.func100 (by kernel_rfl) rfl
theorem T100:funcT Tryz.prog [] Tryz.f100=some c100.erase:=by kernel_rfl
theorem E101:y1Y Tryz.prog 101:=enters_of Tryz.func101 (by kernel_rfl) rfl
theorem T101:funcT Tryz.prog [] Tryz.f101=some c101.erase:=by kernel_rfl
theorem E102:y1Y Tryz.prog 102:=enters_of Tryz.func102 (by kernel_rfl) rfl
theorem T102:funcT Tryz.prog [] Tryz.f102=some c102.erase:=by kernel_rfl
theorem E103:y1Y Tryz.prog 103:=enters_of Tryz.func103 (by kernel_rfl) rfl
theorem T103:funcT Tryz.prog [] Tryz.f103=some c103.erase:=by kernel_rfl
theorem E104:y1Y Tryz.prog 104:=enters_of Tryz.func104 (by kernel_rfl) rfl
theorem T104:funcT Tryz.prog [60,61,63,64] Tryz.f104=some c104.erase:=by kernel_rfl
theorem E105:y1Y Tryz.prog 105:=enters_of Tryz.func105 (by kernel_rfl) rfl
theorem T105:funcT Tryz.prog [] Tryz.f105=some c105.erase:=by kernel_rfl
theorem E119:y1Y Tryz.prog 119:=enters_of Tryz.func119 (by kernel_rfl) rfl
theorem T119:funcT Tryz.prog [] Tryz.f119=some c119.erase:=by kernel_rfl
theorem E122:y1Y Tryz.prog 122:=enters_of Tryz.func122 (by kernel_rfl) rfl
theorem T122:funcT Tryz.prog [] Tryz.f122=some c122.erase:=by kernel_rfl
theorem E123:y1Y Tryz.prog 123:=enters_of Tryz.func123 (by kernel_rfl) rfl
theorem T123:funcT Tryz.prog [] Tryz.f123=some c123.erase:=by kernel_rfl
theorem E125:y1Y Tryz.prog 125:=enters_of Tryz.func125 (by kernel_rfl) rfl
theorem T125:funcT Tryz.prog [] Tryz.f125=some c125.erase:=by kernel_rfl
theorem E151:y1Y Tryz.prog 151:=enters_of Tryz.func151 (by kernel_rfl) rfl
theorem T151:funcT Tryz.prog [] Tryz.f151=some c151.erase:=by kernel_rfl
theorem E152:y1Y Tryz.prog 152:=enters_of Tryz.func152 (by kernel_rfl) rfl
theorem T152:funcT Tryz.prog [67,166010] Tryz.f152=some c152.erase:=by kernel_rfl
theorem E157:y1Y Tryz.prog 157:=enters_of Tryz.func157 (by kernel_rfl) rfl
theorem T157:funcT Tryz.prog [] Tryz.f157=some c157.erase:=by kernel_rfl
theorem E158:y1Y Tryz.prog 158:=enters_of Tryz.func158 (by kernel_rfl) rfl
theorem T158:funcT Tryz.prog [] Tryz.f158=some c158.erase:=by kernel_rfl
theorem E159:y1Y Tryz.prog 159:=enters_of Tryz.func159 (by kernel_rfl) rfl
theorem T159:funcT Tryz.prog [] Tryz.f159=some c159.erase:=by kernel_rfl
theorem E162:y1Y Tryz.prog 162:=enters_of Tryz.func162 (by kernel_rfl) rfl
theorem T162:funcT Tryz.prog [6] Tryz.f162=some c162.erase:=by kernel_rfl
theorem E163:y1Y Tryz.prog 163:=enters_of Tryz.func163 (by kernel_rfl) rfl
theorem T163:funcT Tryz.prog [] Tryz.f163=some c163.erase:=by kernel_rfl
theorem E164:y1Y Tryz.prog 164:=enters_of Tryz.func164 (by kernel_rfl) rfl
theorem T164:funcT Tryz.prog [] Tryz.f164=some c164.erase:=by kernel_rfl
theorem E165:y1Y Tryz.prog 165:=enters_of Tryz.func165 (by kernel_rfl) rfl
theorem T165:funcT Tryz.prog [] Tryz.f165=some c165.erase:=by kernel_rfl
theorem E167:y1Y Tryz.prog 167:=enters_of Tryz.func167 (by kernel_rfl) rfl
theorem T167:funcT Tryz.prog [] Tryz.f167=some c167.erase:=by kernel_rfl
theorem E169:y1Y Tryz.prog 169:=enters_of Tryz.func169 (by kernel_rfl) rfl
theorem T169:funcT Tryz.prog [] Tryz.f169=some c169.erase:=by kernel_rfl
theorem E174:y1Y Tryz.prog 174:=enters_of Tryz.func174 (by kernel_rfl) rfl
theorem T174:funcT Tryz.prog [] Tryz.f174=some c174.erase:=by kernel_rfl
theorem E175:y1Y Tryz.prog 175:=enters_of Tryz.func175 (by kernel_rfl) rfl
theorem T175:funcT Tryz.prog [] Tryz.f175=some c175.erase:=by kernel_rfl
theorem E178:y1Y Tryz.prog 178:=enters_of Tryz.func178 (by kernel_rfl) rfl
theorem T178:funcT Tryz.prog [] Tryz.f178=some c178.erase:=by kernel_rfl
theorem E191:y1Y Tryz.prog 191:=enters_of Tryz.func191 (by kernel_rfl) rfl
theorem T191:funcT Tryz.prog [] Tryz.f191=some c191.erase:=by kernel_rfl
theorem E193:y1Y Tryz.prog 193:=enters_of Tryz.func193 (by kernel_rfl) rfl
theorem T193:funcT Tryz.prog [] Tryz.f193=some c193.erase:=by kernel_rfl
theorem E198:y1Y Tryz.prog 198:=enters_of Tryz.func198 (by kernel_rfl) rfl
theorem T198:funcT Tryz.prog [] Tryz.f198=some c198.erase:=by kernel_rfl
theorem E199:y1Y Tryz.prog 199:=enters_of Tryz.func199 (by kernel_rfl) rfl
theorem T199:funcT Tryz.prog [] Tryz.f199=some c199.erase:=by kernel_rfl
theorem E200:y1Y Tryz.prog 200:=enters_of Tryz.func200 (by kernel_rfl) rfl
theorem T200:funcT Tryz.prog [] Tryz.f200=some c200.erase:=by kernel_rfl
theorem E203:y1Y Tryz.prog 203:=enters_of Tryz.func203 (by kernel_rfl) rfl
theorem T203:funcT Tryz.prog [] Tryz.f203=some c203.erase:=by kernel_rfl
theorem E204:y1Y Tryz.prog 204:=enters_of Tryz.func204 (by kernel_rfl) rfl
theorem T204:funcT Tryz.prog [] Tryz.f204=some c204.erase:=by kernel_rfl
theorem E205:y1Y Tryz.prog 205:=enters_of Tryz.func205 (by kernel_rfl) rfl
theorem T205:funcT Tryz.prog [] Tryz.f205=some c205.erase:=by kernel_rfl
theorem E206:y1Y Tryz.prog 206:=enters_of Tryz.func206 (by kernel_rfl) rfl
theorem T206:funcT Tryz.prog [] Tryz.f206=some c206.erase:=by kernel_rfl
theorem E207:y1Y Tryz.prog 207:=enters_of Tryz.func207 (by kernel_rfl) rfl
theorem T207:funcT Tryz.prog [] Tryz.f207=some c207.erase:=by kernel_rfl
theorem E213:y1Y Tryz.prog 213:=enters_of Tryz.func213 (by kernel_rfl) rfl
theorem T213:funcT Tryz.prog [] Tryz.f213=some c213.erase:=by kernel_rfl
theorem E229:y1Y Tryz.prog 229:=enters_of Tryz.func229 (by kernel_rfl) rfl
theorem T229:funcT Tryz.prog [] Tryz.f229=some c229.erase:=by kernel_rfl
theorem E230:y1Y Tryz.prog 230:=enters_of Tryz.func230 (by kernel_rfl) rfl
theorem T230:funcT Tryz.prog [] Tryz.f230=some c230.erase:=by kernel_rfl
theorem E241:y1Y Tryz.prog 241:=enters_of Tryz.func241 (by kernel_rfl) rfl
theorem T241:funcT Tryz.prog [] Tryz.f241=some c241.erase:=by kernel_rfl
theorem E242:y1Y Tryz.prog 242:=enters_of Tryz.func242 (by kernel_rfl) rfl
theorem T242:funcT Tryz.prog [] Tryz.f242=some c242.erase:=by kernel_rfl
theorem E243:y1Y Tryz.prog 243:=enters_of Tryz.func243 (by kernel_rfl) rfl
theorem T243:funcT Tryz.prog [] Tryz.f243=some c243.erase:=by kernel_rfl
theorem E246:y1Y Tryz.prog 246:=enters_of Tryz.func246 (by kernel_rfl) rfl
theorem T246:funcT Tryz.prog [] Tryz.f246=some c246.erase:=by kernel_rfl
theorem E262:y1Y Tryz.prog 262:=enters_of Tryz.func262 (by kernel_rfl) rfl
theorem T262:funcT Tryz.prog [] Tryz.f262=some c262.erase:=by kernel_rfl
end Go.Proofs.AM
namespace Go.Proofs
open Go.Shelf
def Tryz.laysCmp_ren:Go.Shelf.Ren:=⟨fun|106=>131|213=>181|265=>224|n=>n,fun|9=>9|3=>3|n=>n,fun|n=>n⟩
theorem Tryz.laysCmp:Go.Proofs.Lays.n106 Tryz.prog Tryz.laysCmp_ren:={
 mixed:=by kernel_rfl
 f106:=Tryz.func131.trans (congrArg some (by kernel_rfl))
 f213:=Tryz.func181.trans (congrArg some (by kernel_rfl))
 f265:=Tryz.func224.trans (congrArg some (by kernel_rfl))
 t3:=Tryz.underlying3
 a3:=Tryz.isAgg3
 z3:=Tryz.sizeOf3
 v3:=Tryz.zeroValue3
 t9:=Tryz.underlying9
 a9:=Tryz.isAgg9
 z9:=Tryz.sizeOf9
 v9:=Tryz.zeroValue9 }
end Go.Proofs
namespace Go.Proofs.AM
open Go Go.Lib
theorem yf6Y {g:Nat->Int} {n:Nat}:scanE g n=0↔∀ j,j<n->g j=0 :=
 ⟨fun h j hj=>y21Y h _ (List.mem_map.2 ⟨j,by simpa using hj,rfl⟩),ywY⟩
theorem scan_at {α:Type} {f:α->Int} {l:List α}:scanE (atE f l) l.length=0↔∀ x∈l,f x=0:=by
 rw [yf6Y]
 constructor
 ·intro h x hx
  obtain ⟨j,hj⟩:=List.mem_iff_getElem?.1 hx
  have:=h j (List.getElem?_eq_some_iff.1 hj).1
  rwa [y2pY hj] at this
 ·intro h j hj
  rw [y2pY (List.getElem?_eq_getElem hj)]
  exact h _ (List.getElem_mem hj)
theorem scan_up {α:Type} {f:α->List α->Int} {l:List α}:scanE (upE f l) l.length=0↔∀ i x,l[i]?=some x->f x (l.take i)=0:=by
 rw [yf6Y]
 constructor
 ·intro h i x hx
  have:=h i (List.getElem?_eq_some_iff.1 hx).1
  rwa [y14Y hx] at this
 ·intro h j hj
  rw [y14Y (List.getElem?_eq_getElem hj)]
  exact h _ _ (List.getElem?_eq_getElem hj)
theorem ya9Y {m n:Nat} {e:Int}:tooE m n e=0↔n<=m/\e=0:=by
 unfold tooE
 split
 ·simp;omega
 ·simp;omega
theorem mem_take {α:Type} {l:List α} {i:Nat} {y:α}:y∈l.take i↔∃ j,j<i/\l[j]?=some y:=by
 rw [List.mem_iff_getElem?]
 constructor
 ·rintro ⟨j,hj⟩
  rw [List.getElem?_take] at hj
  split at hj
  ·exact ⟨j,‹_›,hj⟩
  ·simp at hj
 ·rintro ⟨j,h1,h2⟩
  exact ⟨j,by rw [List.getElem?_take,if_pos h1,h2]⟩
theorem ylnY {p:PodV} (h:podE p=0):p.reqs.length<=8/\p.tols.length<=4/\p.spr.length<=3/\p.near.length<=3:=by
 unfold podE at h
 have h2:=y21Y h
 simp only [List.mem_cons,List.not_mem_nil,or_false] at h2
 have a:=h2 _ (.inr (.inr (.inr (.inl rfl))))
 have b:=h2 _ (.inr (.inr (.inr (.inr (.inl rfl)))))
 have c:=h2 _ (.inr (.inr (.inr (.inr (.inr (.inl rfl))))))
 unfold reqsE at a
 unfold tolsE at b
 unfold allTE at c
 rw [ya9Y] at a b
 split at c
 ·simp at c
 ·exact ⟨a.1,b.1,by omega,by omega⟩
end Go.Proofs.AM
namespace Go.Proofs.AM
open Go Go.Lib Go.RowKit Go.Maps Go.Sort Go.Shelf
theorem yaaY:∀ a b:Str,Lib.compareBytes a b=cmpS a b
 | [],[]=>by simp [Lib.compareBytes,cmpS]
 | [],_::_=>by simp [Lib.compareBytes,cmpS]
 | _::_,[]=>by simp [Lib.compareBytes,cmpS]
 | x::a,y::b=>by
   have ih:=yaaY a b
   unfold cmpS at ih ⊢
   unfold Lib.compareBytes
   by_cases h1:x<y
   ·rw [if_pos h1,if_pos (List.cons_lt_cons_iff.2 (.inl h1))]
   ·rw [if_neg h1]
    by_cases h2:y<x
    ·have h3:x≠y:=fun e=>by subst e;exact h1 h2
     rw [if_pos h2,if_neg (fun h=>by
      rcases List.cons_lt_cons_iff.1 h with h|⟨h,_⟩
      ·exact h1 h
      ·exact h3 h),if_neg (fun h=>h3 (List.cons.inj h).1)]
    ·have h3:x=y:=by
      apply UInt8.toNat_inj.1
      have h4:¬x.toNat<y.toNat:=h1
      have h5:¬y.toNat<x.toNat:=h2
      omega
     subst h3
     rw [if_neg h1,ih]
     by_cases h6:a<b
     ·rw [if_pos h6,if_pos (List.cons_lt_cons_iff.2 (.inr ⟨rfl,h6⟩))]
     ·rw [if_neg h6,if_neg (show ¬(x::a<x::b) from fun h=>by
       rcases List.cons_lt_cons_iff.1 h with h|⟨_,h⟩
       ·exact h1 h
       ·exact h6 h)]
      by_cases h7:a=b
      ·rw [if_pos h7,if_pos (by rw [h7])]
      ·rw [if_neg h7,if_neg (show ¬(x::a=x::b) from fun h=>h7 (List.cons.inj h).2)]
theorem cmp88 (a b:Str):(PR Tryz.prog (Gd Tryz.prog)).v 131 [mkS a,mkS b] (.int .i64 (cmpS a b)):=by
 refine ⟨enters_of Tryz.func131 (by kernel_rfl) rfl,rfl,fun w S vs hG hv=>?_⟩
 simp only [RVs,RV,mkS] at hv
 obtain ⟨_,_,e1,rfl,_,_,rfl,rfl,rfl⟩:=hv
 obtain rfl:vs=#[.string ⟨⟨a⟩⟩,.string ⟨⟨b⟩⟩]:=by apply Array.toList_inj.1;rw [e1]
 refine (Any.strings_Compare Tryz.laysCmp ⟨⟨a⟩⟩ ⟨⟨b⟩⟩ w).mono ?_
 rintro e w' ⟨rfl,rfl⟩
 exact ⟨_,rfl,Below.refl _ _,by simp only [RV];rw [←yaaY]⟩
end Go.Proofs.AM
