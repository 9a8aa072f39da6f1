import Derived.Test.YtkbikekbaboclaaGreatGenP
import Derived.Test.YtkbikekbaboclaaGreatStp3
import Derived.Test.YtkbikekbaboclaaGreatPkA
import Derived.Test.YtkbikekbaboclaaGreatFb
import Derived.Test.YtkbikekbaboclaaGreatPkB
import Derived.Test.YtkbikekbaboclaaGreatPkV
import Derived.Test.YtkbikekbaboclaaGreatPkVa
set_option linter.unusedVariables false
set_option linter.unusedSimpArgs false
namespace Go.Proofs.YtkbikekbaboclaaGreat.rI
open Go Go.Proofs V Vc fv ee qX qn Go.RowKit
section
variable {c:ep} {wt:ByteArray} {w w':World} {bb:Nat} {v pv sv:Value} {F G:Nat→Prop} {ts sc:List Int} {tk:Nat→List Int→Int}
theorem ND (hs:IV w sv sc F) (hl:sc.length≤1000000) (draw:Int):Calls Tryz.prog KU #[.int .i64 draw,sv] w (bc fun v w'=>v = .int .i64 (zn draw sc)∧Ch ah w w'):=by
 obtain ⟨o,cc,rfl,h1,h2,hr⟩:=hs
 refine NV.calls _ _ _ _ ?_
 refine ab (ed.tR hr hl cc) ?_
 rintro v w1 ⟨A,C,rfl,hg⟩
 refine ⟨_,_,_,rfl,ab (ed.IR hg.rd (by rw [wS];exact hl) draw C) ?_⟩
 rintro v w2 ⟨rfl,rfl⟩
 refine ⟨_,rfl,?_,hg.2⟩
 unfold zn
 congr 1
 split <;> omega
structure SY (c:ep) (wt:ByteArray) (tk:Nat→List Int→Int) (most:Int) (ai:List Int) (w:World) (v:Value) (w':World):Prop where
 ch:Ch ah w w'
 no:mh c most ai≠0→v = .tuple #[.slice none 0 0,.int .i64 (mh c most ai)]
 yes:mh c most ai=0→∃ u:Value,v = .tuple #[u,.int .i64 0]∧IV w' u (LL c wt tk most ai) (db w w')
section
variable {W w1:World} {o:OA} {n cp:Nat} {es:List gr} {A B B':Nat→Prop} {p:Value × Value} {e:gr}
end
theorem ue {p:Value × Value} {e:gr} (h:EV w p e F):∃ (o1:OA) (c1:Nat) (o2:OA) (c2:Nat),p=(.slice o1 e.1.length c1,.slice o2 e.2.length c2):=by
 obtain ⟨a,b⟩:=p
 obtain ⟨⟨o1,c1,_,h1,_⟩,⟨o2,c2,_,h2,_⟩⟩:=h
 exact ⟨o1,c1,o2,c2,by rw [show a=_ from h1,show b=_ from h2]⟩
end
end Go.Proofs.YtkbikekbaboclaaGreat.rI
