/- Part 30 of the lemmas: AKp, AKq, AKr, AKs, AKt, AKu. -/
import Derived.Test.YtnbdmjbpgaeacaaGreatDoorB29
import Derived.Test.YtnbdmjbpgaeacaaGreatDoorB15
import Derived.Test.YtnbdmjbpgaeacaaGreatDoorB23
import Derived.Test.YtnbdmjbpgaeacaaGreatDoorB06
set_option maxRecDepth 100000
set_option maxHeartbeats 8000000
set_option linter.all false
namespace Go.Proofs.AM
open Go Go.Lib Cd
theorem yo5Y {α:Type} (p:α->Bool) (l:List α):(idxI p l=-1/\l.find? p=none)∨∃ (k:Nat) (y:α),k<l.length/\idxI p l=k/\l[k]?=some y/\l.find? p=some y:=by
 cases hf:l.find? p with
 | none=>exact .inl ⟨y2xY fun y hy=>by simpa using List.find?_eq_none.1 hf y hy,rfl⟩
 | some y =>
   obtain ⟨h1,i,h2,h3,h4⟩:=List.find?_eq_some_iff_getElem.1 hf
   have h5:l[i]?=some y:=by rw [List.getElem?_eq_getElem h2,h3]
   refine .inr ⟨i,y,h2,y2yY h5 h1 (fun j z hj hz=>?_),h5,rfl⟩
   have:=h4 j hj
   obtain ⟨h6,h7⟩:=List.getElem?_eq_some_iff.1 hz
   rw [←h7]
   simpa using this
end Go.Proofs.AM
