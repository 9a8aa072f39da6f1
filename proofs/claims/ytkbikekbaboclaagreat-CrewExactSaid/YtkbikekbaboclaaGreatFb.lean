import Derived.Test.YtkbikekbaboclaaGreatH
import Derived.Test.YtkbikekbaboclaaGreatPkA
set_option linter.unusedVariables false
set_option linter.unusedSimpArgs false
namespace Go.Proofs.YtkbikekbaboclaaGreat.V
open Go Go.Proofs Go.RowKit
def FB (w:World) (b:Nat) (cs:List Value) (T lo hi:Nat):Prop:=w.heap[b]?=some (.cells cs.toArray T (lo,hi))
section
variable {w w':World} {b T lo hi:Nat} {cs:List Value} {F:Nat→Prop}
theorem FB.set (h:FB w b cs T lo hi) {o:Nat} {v:Value} (e:w'=w.setCell ⟨b,o,none⟩ v):FB w' b (cs.set o v) T lo hi:=by
 subst e
 unfold FB World.setCell at *
 simp only [Array.getElem?_modify]
 rw [if_pos trivial,h]
 simp
end
end Go.Proofs.YtkbikekbaboclaaGreat.V
