/- Part 18 of the lemmas: AOi. -/
import Derived.Test.YtnbdmjbpgaeacaaGreatDoorC17
import Derived.Test.YtnbdmjbpgaeacaaGreatDoorC06
set_option maxRecDepth 100000
set_option maxHeartbeats 8000000
set_option linter.all false
namespace Go.Proofs.AM
open Go Go.Lib Cd
theorem ymfY (R:Ans) (h:CO R) (c:ClaimV) (hF:FClaim c):AnsF R c161 [y5Y c] (jI (y19Y c)):=by
 have k1:=h.named [c.name,c.pool,c.off.t,c.off.z,c.off.k] ⟨by simp,by simpa using ⟨hF.name,hF.pool,hF.off.t,hF.off.z,hF.off.k⟩⟩
 have k2:=h.amt c.price
 have k3:=h.amts c.c0 c.c1
 have k4:=h.offs c.opts hF.opts
 have k5:=h.btw c.gen 0 1099511627776
 have k6:=h.btw c.born 0 1099511627776
 obtain ⟨r,hr⟩:∃ r,r=y19Y c:=⟨_,rfl⟩
 rw [←hr]
 unfold y19Y at hr
 obtain ⟨q1,hq1⟩:∃ q,q=(nameB c.name&&(nameB c.pool&&nmB c.off)):=⟨_,rfl⟩
 rw [show [c.name,c.pool,c.off.t,c.off.z,c.off.k].all nameB=q1 by rw [hq1];simp [nmB]] at k1
 obtain ⟨q2,hq2⟩:∃ q,q=btw c.tries 1 32:=⟨_,rfl⟩
 obtain ⟨q3,hq3⟩:∃ q,q=btw c.gen 0 1099511627776:=⟨_,rfl⟩
 obtain ⟨q4,hq4⟩:∃ q,q=btw c.born 0 1099511627776:=⟨_,rfl⟩
 obtain ⟨q5,hq5⟩:∃ q,q=decide ((c.id.length:Int)<=16):=⟨_,rfl⟩
 obtain ⟨q6,hq6⟩:∃ q,q=btw c.phase 1 4:=⟨_,rfl⟩
 rw [←hq1,←hq2,←hq3,←hq4,←hq5,←hq6] at hr
 rw [←hq3] at k5
 rw [←hq4] at k6
 obtain ⟨e1,he1⟩:∃ e,e=amtE c.price:=⟨_,rfl⟩
 obtain ⟨e2,he2⟩:∃ e,e=amtsE c.c0 c.c1:=⟨_,rfl⟩
 obtain ⟨e3,he3⟩:∃ e,e=offsE c.opts:=⟨_,rfl⟩
 rw [←he1] at k2 hr
 rw [←he2] at k3 hr
 rw [←he3] at k4 hr
 obtain ⟨q7,hq7⟩:∃ q,q=(q6&&(q3&&q4)):=⟨_,rfl⟩
 rw [←hq7] at hr
 have w1:=h.want q1 7
 have w2:=h.want q2 1
 have w5:=h.want q5 2
 have w7:=h.want q7 1
 have f:=h.first [wantI q1 7,e1,e2,e3,wantI q2 1,wantI q5 2,wantI q7 1] (by simp)
 rw [←hr] at f
 obtain ⟨v1,hv1⟩:∃ v,v=wantI q1 7:=⟨_,rfl⟩
 rw [←hv1] at w1 f
 clear hv1 h hr hq1 hq3 hq4 he1 he2 he3
 unfold y5Y y12Y
 simp only [List.map] at f k1
 obtain ⟨os,hos⟩:∃ xs,xs=c.opts.map offD:=⟨_,rfl⟩
 have c1:CleanL os:=y8Y (fun _=>⟨rfl,rfl⟩) hos
 rw [←hos] at k4 ⊢
 obtain ⟨z1,hz1⟩:∃ x,x=c.tries:=⟨_,rfl⟩
 obtain ⟨z2,hz2⟩:∃ x,x=c.phase:=⟨_,rfl⟩
 obtain ⟨z3,hz3⟩:∃ x,x=c.id:=⟨_,rfl⟩
 rw [←hz1] at hq2 ⊢
 rw [←hz2] at hq6 ⊢
 rw [←hz3] at hq5 ⊢
 clear hz1 hz2 hz3
 refine y2Y ⟨rfl,by decide⟩ fun O hO V hV=>?_
 subst hV
 have hsl:O .slen ⟨⟨z3⟩⟩=z3.length:=y18Y hO z3
 obtain ⟨n3,hn3⟩:∃ n,n=O .slen ⟨⟨z3⟩⟩:=⟨_,rfl⟩
 subst hq6
 cases q2<;>simp [btw] at hq2<;>cases q5<;>simp at hq5<;>cases q3<;>cases q4<;>cases q7<;>simp [btw] at hq7<;>simp only [y1dY,y4dY] at w2 w5 w7 f<;>conv=>cbv
 all_goals (repeat' (first|(rintro (_|_) h<;>(first|replace h:=ci hO h|replace h:=cs hO h)<;>(dsimp only [CmpI,CmpS] at h)<;>first|(exfalso;omega)|(conv=>cbv))|(refine ⟨_,by assumption,?_⟩;(conv=>cbv))|(refine And.intro (by first|assumption|exact ⟨rfl⟩|exact ⟨rfl,rfl⟩) ?_)))
 all_goals first|trivial|(exfalso;omega)
end Go.Proofs.AM
