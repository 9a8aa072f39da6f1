import Derived.Test.YtkbikekbaboclaaGreatRun
import Derived.Test.YtkbikekbaboclaaGreatStp3
import Derived.Test.YtkbikekbaboclaaGreatPkA
import Derived.Test.YtkbikekbaboclaaGreatFb
import Derived.Test.YtkbikekbaboclaaGreatPkB
import Derived.Test.YtkbikekbaboclaaGreatPkV
import Derived.Test.YtkbikekbaboclaaGreatVc
import Derived.Test.YtkbikekbaboclaaGreatH
import Derived.Test.YtkbikekbaboclaaGreatProg
import Derived.KernelRfl
set_option linter.unusedVariables false
set_option linter.unusedSimpArgs false
namespace Go.Proofs.YtkbikekbaboclaaGreat.qn
open Go Go.Proofs V Vc fv ee qX uP Go.RowKit
section
variable {w w':World} {bb:Nat} {c:ep} {wt:ByteArray} {F G:Nat→Prop}
def a0:ep:=⟨3,2,1,1,1,2⟩
def w17 : ByteArray := ⟨(List.replicate 38 (0 : UInt8)).toArray⟩
theorem ue {p:Value × Value} {e:gr} (h:EV w p e F):∃ (o1:OA) (c1:Nat) (o2:OA) (c2:Nat),p=(.slice o1 e.1.length c1,.slice o2 e.2.length c2):=by
 obtain ⟨a,b⟩:=p
 obtain ⟨⟨o1,c1,_,h1,_⟩,⟨o2,c2,_,h2,_⟩⟩:=h
 exact ⟨o1,c1,o2,c2,by rw [show a=_ from h1,show b=_ from h2]⟩
end
end Go.Proofs.YtkbikekbaboclaaGreat.qn
namespace Go.Proofs.YtkbikekbaboclaaGreat.qn
open Go Go.Proofs V Vc fv ee qX uP Go.RowKit
section
variable {w w':World} {o:OA} {n cp:Nat} {es:List gr} {F:Nat→Prop}
theorem PV.get (h:PV w (.slice o n cp) es F) {j:Nat} (hj:j<es.length):∃ (a:Addr) (o1:OA) (c1:Nat) (o2:OA) (c2:Nat),o=some a∧n=es.length∧EV w (.slice o1 es[j].1.length c1,.slice o2 es[j].2.length c2) es[j] F ∧
  (∀ w',Ch ah w w'→w'.cell? (a.add (j*2))=some (.slice o1 es[j].1.length c1)∧w'.cell? ((a.add (j*2)).add 1)=some (.slice o2 es[j].2.length c2)):=by
 obtain ⟨o',c',ps,e,h1,h2,hr,ha⟩:=h
 injection e with e1 e2 e3
 subst e1;subst e2;subst e3
 have hp:j<ps.length:=by rw [ha.length];exact hj
 have hE:=ha.get j hp hj
 obtain ⟨a,a1,_,_,hc⟩:=Rd.elem (sz:=2) (enc:=ei) hr (fun _=>rfl) (by omega) hp
 obtain ⟨o1,c1,o2,c2,a2⟩:=ue hE
 have a3:=hE
 rw [a2] at a3
 refine ⟨a,o1,c1,o2,c2,a1,rfl,a3,fun w' k=>?_⟩
 obtain ⟨a',a0,_,_,a4⟩:=Rd.elem (sz:=2) (enc:=ei) (hr.aa k) (fun _=>rfl) (by omega) hp
 rw [a1] at a0
 injection a0 with a0
 subst a0
 have h0:=a4 0 _ rfl
 have h1:=a4 1 _ rfl
 rw [cm] at h0
 rw [a2] at h0 h1
 exact ⟨h0,h1⟩
end
def Em (c:ep) (t:Int):Bool:=decide (t<0)||decide (t≥c.vocab)
end Go.Proofs.YtkbikekbaboclaaGreat.qn
