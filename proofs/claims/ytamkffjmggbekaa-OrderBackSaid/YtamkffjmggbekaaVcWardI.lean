import Derived.Test.YtamkffjmggbekaaVc
import Derived.Test.YtamkffjmggbekaaH
import Derived.Test.YtamkffjmggbekaaProg
import Derived.KernelRfl
set_option linter.unusedVariables false
set_option maxRecDepth 100000
namespace Go.Proofs.Ytamkffjmggbekaa.Vc
open Go Go.Proofs Go.Proofs.Ytamkffjmggbekaa.V
/-- function 57 -/
def slices_Insert.vc (sA : Option Addr) (sN : Nat) (sC : Nat) (i : Int) (vA : Option Addr) (vN : Nat) (vC : Nat) (w : World) (R : Value → World → Prop) : Prop :=
  (0 ≤ i ∧ i ≤ ((sN : Nat) : Int)) ∧
  ((((vN : Nat) : Int) == (0 : Int)) = true →
  R (.slice sA sN sC) w) ∧
  ((((vN : Nat) : Int) == (0 : Int)) = false →
  ((i == ((sN : Nat) : Int)) = true →
  ∃ (x25A : Option Addr), ∃ (x25N : Nat), ∃ (x25C : Nat), ∃ w1 : World, (Builtin.append_ #[28, 28] 28 #[(.slice sA sN sC), (.slice vA vN vC)]).run Try.prog w = .ok (.slice x25A x25N x25C) w1 ∧
  R (.slice x25A x25N x25C) w1) ∧
  ((i == ((sN : Nat) : Int)) = false →
  (decide ((IntKind.i64.wrap (((sN : Nat) : Int) + ((vN : Nat) : Int))) > ((sC : Nat) : Int)) = true →
  (0 ≤ i ∧ i ≤ ((sC : Nat) : Int)) ∧
  ∃ (x40A : Option Addr), ∃ (x40N : Nat), ∃ (x40C : Nat), ∃ w2 : World, (Builtin.append_ #[28, 3] 28 #[(.slice (if sC = 0 then sA else sA.map (·.add (0 * 5))) (i.toNat - 0) (sC - 0)), (.int .i64 (IntKind.i64.wrap ((IntKind.i64.wrap (((sN : Nat) : Int) + ((vN : Nat) : Int))) - i)))]).run Try.prog w = .ok (.slice x40A x40N x40C) w2 ∧
  (0 ≤ i ∧ i ≤ ((x40N : Nat) : Int)) ∧
  ∃ (x45 : Int), ∃ w3 : World, (Builtin.copy_ #[28, 28] 3 #[(.slice (if x40C = i.toNat then x40A else x40A.map (·.add (i.toNat * 5))) (x40N - i.toNat) (x40C - i.toNat)), (.slice vA vN vC)]).run Try.prog w2 = .ok (.int .i64 x45) w3 ∧
  ∃ vS : World → Prop, ∀ w4 : World, w4 = w3.drew → vS w4 ∧
  (0 ≤ (IntKind.i64.wrap (i + ((vN : Nat) : Int))) ∧ (IntKind.i64.wrap (i + ((vN : Nat) : Int))) ≤ ((x40N : Nat) : Int)) ∧
  (0 ≤ i ∧ i ≤ ((sN : Nat) : Int)) ∧
  ∃ (x54 : Int), ∃ w5 : World, (Builtin.copy_ #[28, 28] 3 #[(.slice (if x40C = (IntKind.i64.wrap (i + ((vN : Nat) : Int))).toNat then x40A else x40A.map (·.add ((IntKind.i64.wrap (i + ((vN : Nat) : Int))).toNat * 5))) (x40N - (IntKind.i64.wrap (i + ((vN : Nat) : Int))).toNat) (x40C - (IntKind.i64.wrap (i + ((vN : Nat) : Int))).toNat)), (.slice (if sC = i.toNat then sA else sA.map (·.add (i.toNat * 5))) (sN - i.toNat) (sC - i.toNat))]).run Try.prog w4 = .ok (.int .i64 x54) w5 ∧
  vS w5 ∧
  R (.slice x40A x40N x40C) w5) ∧
  (decide ((IntKind.i64.wrap (((sN : Nat) : Int) + ((vN : Nat) : Int))) > ((sC : Nat) : Int)) = false →
  (0 ≤ (IntKind.i64.wrap (((sN : Nat) : Int) + ((vN : Nat) : Int))) ∧ (IntKind.i64.wrap (((sN : Nat) : Int) + ((vN : Nat) : Int))) ≤ ((sC : Nat) : Int)) ∧
  (0 ≤ (IntKind.i64.wrap (i + ((vN : Nat) : Int))) ∧ (IntKind.i64.wrap (i + ((vN : Nat) : Int))) ≤ ((((IntKind.i64.wrap (((sN : Nat) : Int) + ((vN : Nat) : Int))).toNat - 0) : Nat) : Int)) ∧
  ∃ xe : Array Value → Sem Value, Extern.findNext Try.f92 = none ∧ Extern.find Try.f92 = some xe ∧
  ∃ (x67 : Bool), ∃ w6 : World, (xe #[(.slice vA vN vC), (.slice (if (sC - 0) = (IntKind.i64.wrap (i + ((vN : Nat) : Int))).toNat then (if sC = 0 then sA else sA.map (·.add (0 * 5))) else (if sC = 0 then sA else sA.map (·.add (0 * 5))).map (·.add ((IntKind.i64.wrap (i + ((vN : Nat) : Int))).toNat * 5))) (((IntKind.i64.wrap (((sN : Nat) : Int) + ((vN : Nat) : Int))).toNat - 0) - (IntKind.i64.wrap (i + ((vN : Nat) : Int))).toNat) ((sC - 0) - (IntKind.i64.wrap (i + ((vN : Nat) : Int))).toNat))]).run Try.prog w = .ok (.bool x67) w6 ∧
  ((!x67) = true →
  ∃ vS_1 : World → Prop, ∀ w7 : World, w7 = w6.drew → vS_1 w7 ∧
  (0 ≤ (IntKind.i64.wrap (i + ((vN : Nat) : Int))) ∧ (IntKind.i64.wrap (i + ((vN : Nat) : Int))) ≤ ((((IntKind.i64.wrap (((sN : Nat) : Int) + ((vN : Nat) : Int))).toNat - 0) : Nat) : Int)) ∧
  (0 ≤ i ∧ i ≤ ((((IntKind.i64.wrap (((sN : Nat) : Int) + ((vN : Nat) : Int))).toNat - 0) : Nat) : Int)) ∧
  ∃ (x77 : Int), ∃ w8 : World, (Builtin.copy_ #[28, 28] 3 #[(.slice (if (sC - 0) = (IntKind.i64.wrap (i + ((vN : Nat) : Int))).toNat then (if sC = 0 then sA else sA.map (·.add (0 * 5))) else (if sC = 0 then sA else sA.map (·.add (0 * 5))).map (·.add ((IntKind.i64.wrap (i + ((vN : Nat) : Int))).toNat * 5))) (((IntKind.i64.wrap (((sN : Nat) : Int) + ((vN : Nat) : Int))).toNat - 0) - (IntKind.i64.wrap (i + ((vN : Nat) : Int))).toNat) ((sC - 0) - (IntKind.i64.wrap (i + ((vN : Nat) : Int))).toNat)), (.slice (if (sC - 0) = i.toNat then (if sC = 0 then sA else sA.map (·.add (0 * 5))) else (if sC = 0 then sA else sA.map (·.add (0 * 5))).map (·.add (i.toNat * 5))) (((IntKind.i64.wrap (((sN : Nat) : Int) + ((vN : Nat) : Int))).toNat - 0) - i.toNat) ((sC - 0) - i.toNat))]).run Try.prog w7 = .ok (.int .i64 x77) w8 ∧
  vS_1 w8 ∧
  (0 ≤ i ∧ i ≤ ((((IntKind.i64.wrap (((sN : Nat) : Int) + ((vN : Nat) : Int))).toNat - 0) : Nat) : Int)) ∧
  ∃ (x82 : Int), ∃ w9 : World, (Builtin.copy_ #[28, 28] 3 #[(.slice (if (sC - 0) = i.toNat then (if sC = 0 then sA else sA.map (·.add (0 * 5))) else (if sC = 0 then sA else sA.map (·.add (0 * 5))).map (·.add (i.toNat * 5))) (((IntKind.i64.wrap (((sN : Nat) : Int) + ((vN : Nat) : Int))).toNat - 0) - i.toNat) ((sC - 0) - i.toNat)), (.slice vA vN vC)]).run Try.prog w8 = .ok (.int .i64 x82) w9 ∧
  R (.slice (if sC = 0 then sA else sA.map (·.add (0 * 5))) ((IntKind.i64.wrap (((sN : Nat) : Int) + ((vN : Nat) : Int))).toNat - 0) (sC - 0)) w9) ∧
  ((!x67) = false →
  (0 ≤ ((sN : Nat) : Int) ∧ ((sN : Nat) : Int) ≤ ((((IntKind.i64.wrap (((sN : Nat) : Int) + ((vN : Nat) : Int))).toNat - 0) : Nat) : Int)) ∧
  ∃ (x88 : Int), ∃ w10 : World, (Builtin.copy_ #[28, 28] 3 #[(.slice (if (sC - 0) = ((sN : Nat) : Int).toNat then (if sC = 0 then sA else sA.map (·.add (0 * 5))) else (if sC = 0 then sA else sA.map (·.add (0 * 5))).map (·.add (((sN : Nat) : Int).toNat * 5))) (((IntKind.i64.wrap (((sN : Nat) : Int) + ((vN : Nat) : Int))).toNat - 0) - ((sN : Nat) : Int).toNat) ((sC - 0) - ((sN : Nat) : Int).toNat)), (.slice vA vN vC)]).run Try.prog w6 = .ok (.int .i64 x88) w10 ∧
  (0 ≤ i ∧ i ≤ ((((IntKind.i64.wrap (((sN : Nat) : Int) + ((vN : Nat) : Int))).toNat - 0) : Nat) : Int)) ∧
  Calls Try.prog 93 #[(.slice (if (sC - 0) = i.toNat then (if sC = 0 then sA else sA.map (·.add (0 * 5))) else (if sC = 0 then sA else sA.map (·.add (0 * 5))).map (·.add (i.toNat * 5))) (((IntKind.i64.wrap (((sN : Nat) : Int) + ((vN : Nat) : Int))).toNat - 0) - i.toNat) ((sC - 0) - i.toNat)), (.int .i64 ((vN : Nat) : Int))] w10 (Ret fun v w11 => v = .tuple #[] ∧
  R (.slice (if sC = 0 then sA else sA.map (·.add (0 * 5))) ((IntKind.i64.wrap (((sN : Nat) : Int) + ((vN : Nat) : Int))).toNat - 0) (sC - 0)) w11)))))
theorem slices_Insert.vc_eq (sA : Option Addr) (sN : Nat) (sC : Nat) (i : Int) (vA : Option Addr) (vN : Nat) (vC : Nat) (w : World) (R : Value → World → Prop) : fnV Try.prog Try.f57 (.c .nil (.c .nil (.c (.tk 0 (.tk 1 (.tk 2 (.tk 3 (.tk 4 (.tk 5 (.tk 6 (.tk 7 (.alt 8 (.fin .nil) .nil))))))))) (.c (.tk 0 (.tk 1 (.tk 2 (.tk 3 (.tk 4 (.tk 5 (.tk 6 (.tk 7 (.alt 8 (.fin .nil) .nil))))))))) .nil)))) [(.slice sA sN sC), (.int .i64 i), (.slice vA vN vC)] w R = slices_Insert.vc sA sN sC i vA vN vC w R := by kernel_rfl
theorem slices_Insert.calls (sA : Option Addr) (sN : Nat) (sC : Nat) (i : Int) (vA : Option Addr) (vN : Nat) (vC : Nat) {w : World} {R : Value → World → Prop} (h : slices_Insert.vc sA sN sC i vA vN vC w R) : Calls Try.prog 57 #[(.slice sA sN sC), (.int .i64 i), (.slice vA vN vC)] w (Ret R) :=
  calls_V fit Try.func57 (.c .nil (.c .nil (.c (.tk 0 (.tk 1 (.tk 2 (.tk 3 (.tk 4 (.tk 5 (.tk 6 (.tk 7 (.alt 8 (.fin .nil) .nil))))))))) (.c (.tk 0 (.tk 1 (.tk 2 (.tk 3 (.tk 4 (.tk 5 (.tk 6 (.tk 7 (.alt 8 (.fin .nil) .nil))))))))) .nil)))) (by rw [show (#[(.slice sA sN sC), (.int .i64 i), (.slice vA vN vC)] : Array Value).toList = [(.slice sA sN sC), (.int .i64 i), (.slice vA vN vC)] from rfl, slices_Insert.vc_eq]; exact h)
end Go.Proofs.Ytamkffjmggbekaa.Vc
