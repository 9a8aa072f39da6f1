import Derived.Test.YtkbikekbaboclaaGreatGenC
import Derived.Test.YtkbikekbaboclaaGreatPkS
import Derived.Test.YtkbikekbaboclaaGreatPkVa
set_option linter.unusedVariables false
set_option linter.unusedSimpArgs false
namespace Go.Proofs.YtkbikekbaboclaaGreat.rI
open Go Go.Proofs V Vc fv ee qX qn uP Go.RowKit
section
variable {w w':World} {c:ep} {wt:ByteArray} {F G:Nat→Prop} {sv:Value} {sc:List Int}
theorem KZ (hs:IV w sv sc F) (hl:sc.length≤1000000) (draw:Int):Calls Tryz.prog vP #[.int .i64 draw,sv] w (bc fun v w'=>v = .int .i64 (zn draw sc)∧Ch ah w w'):=by
 obtain ⟨o,cc,rfl,h1,h2,hr⟩:=hs
 refine yO.calls _ _ _ _ ?_
 refine ab (ed.zl hr hl cc) ?_
 rintro v w1 ⟨A,C,rfl,hg⟩
 refine ⟨_,_,_,rfl,ab (ed.HE hg.rd (by rw [wS];exact hl) draw C) ?_⟩
 rintro v w2 ⟨rfl,rfl⟩
 refine ⟨_,rfl,?_,hg.2⟩
 unfold zn
 congr 1
 split <;> omega
def a0:ep:=⟨3,2,1,1,1,4⟩
def w18 : ByteArray := ⟨(List.replicate 42 (0 : UInt8)).toArray⟩
end
end Go.Proofs.YtkbikekbaboclaaGreat.rI
