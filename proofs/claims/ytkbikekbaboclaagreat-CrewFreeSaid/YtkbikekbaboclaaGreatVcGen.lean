import Derived.Test.YtkbikekbaboclaaGreatVc
import Derived.Test.YtkbikekbaboclaaGreatH
import Derived.Test.YtkbikekbaboclaaGreatProg
import Derived.KernelRfl
set_option linter.unusedVariables false
set_option maxRecDepth 100000
namespace Go.Proofs.YtkbikekbaboclaaGreat.Vc
open Go Go.Proofs Go.Proofs.YtkbikekbaboclaaGreat.V
/-- function 53 -/
def gen_Check_c1.vc (n : Int) (c0B : Nat) (w : World) (R : Value → World → Prop) : Prop :=
  (decide (n < (0 : Int)) = true →
  R (.bool true) w) ∧
  (decide (n < (0 : Int)) = false →
  ∃ x8 : Option Addr, w.cell? ⟨c0B, 0, none⟩ = some (.pointer x8) ∧
  someV x8 fun p =>
  ∃ x13 : Int, w.cell? p = some (.int .i64 x13) ∧
  R (.bool (decide (n ≥ x13))) w)
theorem gen_Check_c1.calls (n : Int) (c0B : Nat) {w : World} {R : Value → World → Prop} (h : gen_Check_c1.vc n c0B w R) : Calls Tryz.prog 53 #[(.int .i64 n), (.pointer (some (⟨c0B, 0, none⟩ : Addr)))] w (Ret R) :=
  calls_V fit Tryz.func53 (.at_ 1 2 .nil .nil) (Eq.mpr (by kernel_rfl) h)
/-- function 52 -/
def slices_ContainsFunc.vc_gc (sA : Option Addr) (sN : Nat) (sC : Nat) (c0B : Nat) (w : World) (R : Value → World → Prop) : Prop :=
  Calls Tryz.prog 91 #[(.slice sA sN sC), (.func (.func 53) #[] #[(.pointer (some ⟨c0B, 0, none⟩))])] w (Ret fun v w1 => ∃ x7 : Int, v = (.int .i64 x7) ∧
  R (.bool (decide (x7 ≥ (0 : Int)))) w1)
theorem slices_ContainsFunc.calls_gc (sA : Option Addr) (sN : Nat) (sC : Nat) (c0B : Nat) {w : World} {R : Value → World → Prop} (h : slices_ContainsFunc.vc_gc sA sN sC c0B w R) : Calls Tryz.prog 52 #[(.slice sA sN sC), (.func (.func 53) #[] #[(.pointer (some (⟨c0B, 0, none⟩ : Addr)))])] w (Ret R) :=
  calls_V fit Tryz.func52 .nil (Eq.mpr (by kernel_rfl) h)
/-- function 91 -/
def slices_IndexFunc.vc_gc (sA : Option Addr) (sN : Nat) (sC : Nat) (c0B : Nat) (w : World) (R : Value → World → Prop) : Prop :=
  ∃ vI : Int → Nat → World → Prop, (∃ vk_2 : Nat, vI 0 vk_2 w) ∧
  ∀ (jk : Nat → Value) (x8 : Int), ∀ (vk : Nat) (w1 : World), vI x8 vk w1 →
  (decide (x8 < (sN : Int)) = true →
  (0 ≤ x8 ∧ x8 < (sN : Int)) ∧ someV sA fun p =>
  ∃ x15 : Int, w1.cell? (p.add (x8.toNat * 1)) = some (.int .i64 x15) ∧
  Calls Tryz.prog 53 #[(.int .i64 x15), (.pointer (some ⟨c0B, 0, none⟩))] w1 (Ret fun v w2 => ∃ x16 : Bool, v = (.bool x16) ∧
  (x16 = true →
  R (.int .i64 x8) w2) ∧
  (x16 = false →
  ∃ vk_1 : Nat, vk_1 < vk ∧ vI (IntKind.i64.wrap (x8 + 1)) vk_1 w2))) ∧
  (decide (x8 < (sN : Int)) = false →
  R (.int .i64 (-1)) w1)
theorem slices_IndexFunc.calls_gc (sA : Option Addr) (sN : Nat) (sC : Nat) (c0B : Nat) {w : World} {R : Value → World → Prop} (h : slices_IndexFunc.vc_gc sA sN sC c0B w R) : Calls Tryz.prog 91 #[(.slice sA sN sC), (.func (.func 53) #[] #[(.pointer (some (⟨c0B, 0, none⟩ : Addr)))])] w (Ret R) :=
  calls_V fit Tryz.func91 (.lp ([(4, none), (5, none), (8, some (.int .i64))] ++ nn 9 10) (.c (.c .nil .nil) .nil)) (Eq.mpr (by kernel_rfl) h)
/-- function 21 -/
def gen_Check.vc (bB : Nat) (most : Int) (promptA : Option Addr) (promptN : Nat) (promptC : Nat) (w : World) (R : Value → World → Prop) : Prop :=
  ∀ w1 : World, w1 = w.alloc (.cells #[(.pointer (some ⟨bB, 0, none⟩))] 24 (0, 0)) →
  ∃ x8 : Option Addr, w1.cell? ⟨w.heap.size, 0, none⟩ = some (.pointer x8) ∧
  (x8.isNone = true →
  R (.int .i64 2) w1) ∧
  (x8.isNone = false →
  (((promptN : Int) == (0 : Int)) = true →
  R (.int .i64 1) w1) ∧
  (((promptN : Int) == (0 : Int)) = false →
  (decide (most < (1 : Int)) = true →
  R (.int .i64 1) w1) ∧
  (decide (most < (1 : Int)) = false →
  (decide (most > (32 : Int)) = true →
  R (.int .i64 1) w1) ∧
  (decide (most > (32 : Int)) = false →
  Calls Tryz.prog 52 #[(.slice promptA promptN promptC), (.func (.func 53) #[] #[(.pointer (some ⟨w.heap.size, 0, none⟩))])] w1 (Ret fun v w2 => ∃ x25 : Bool, v = (.bool x25) ∧
  (x25 = true →
  R (.int .i64 3) w2) ∧
  (x25 = false →
  ∃ x31 : Option Addr, w2.cell? ⟨w.heap.size, 0, none⟩ = some (.pointer x31) ∧
  someV x31 fun p =>
  ∃ x36 : Int, w2.cell? (p.add 5) = some (.int .i64 x36) ∧
  (decide ((IntKind.i64.wrap ((promptN : Int) + most)) > x36) = true →
  R (.int .i64 12) w2) ∧
  (decide ((IntKind.i64.wrap ((promptN : Int) + most)) > x36) = false →
  R (.int .i64 0) w2)))))))
theorem gen_Check.calls (bB : Nat) (most : Int) (promptA : Option Addr) (promptN : Nat) (promptC : Nat) {w : World} {R : Value → World → Prop} (h : gen_Check.vc bB most promptA promptN promptC w R) : Calls Tryz.prog 21 #[(.pointer (some (⟨bB, 0, none⟩ : Addr))), (.int .i64 most), (.slice promptA promptN promptC)] w (Ret R) :=
  calls_V fit Tryz.func21 (.c .nil (.at_ 3 3 (.k .nil) (.at_ 3 7 (.k .nil) (.c .nil (.c .nil (.c .nil .nil)))))) (Eq.mpr (by kernel_rfl) h)
/-- function 50 -/
def gen_Next.vc (draw : Int) (scoresA : Option Addr) (scoresN : Nat) (scoresC : Nat) (w : World) (R : Value → World → Prop) : Prop :=
  Calls Tryz.prog 90 #[(.slice scoresA scoresN scoresC)] w (Ret fun v w1 => ∃ (x7A : Option Addr) (x7N x7C : Nat), v = (.slice x7A x7N x7C) ∧
  Calls Tryz.prog 89 #[(.int .i64 draw), (.slice x7A x7N x7C)] w1 (Ret fun v_1 w2 => ∃ x8 : Int, v_1 = (.int .i64 x8) ∧
  R (.int .i64 (if (0 : Int) > x8 then (0 : Int) else x8)) w2))
theorem gen_Next.calls (draw : Int) (scoresA : Option Addr) (scoresN : Nat) (scoresC : Nat) {w : World} {R : Value → World → Prop} (h : gen_Next.vc draw scoresA scoresN scoresC w R) : Calls Tryz.prog 50 #[(.int .i64 draw), (.slice scoresA scoresN scoresC)] w (Ret R) :=
  calls_V fit Tryz.func50 .nil (Eq.mpr (by kernel_rfl) h)
/-- function 49 -/
def gen_Gen_c1.vc (vat : Int) (scoresA : Option Addr) (scoresN : Nat) (scoresC : Nat) (c0B : Nat) (w : World) (R : Value → World → Prop) : Prop :=
  ∃ (x8A : Option Addr) (x8N x8C : Nat), w.cell? ⟨c0B, 0, none⟩ = some (.slice x8A x8N x8C) ∧
  (decide (vat < (x8N : Int)) = true →
  ∃ (x11A : Option Addr) (x11N x11C : Nat), w.cell? ⟨c0B, 0, none⟩ = some (.slice x11A x11N x11C) ∧
  (0 ≤ vat ∧ vat < (x11N : Int)) ∧ someV x11A fun p =>
  ∃ x14 : Int, w.cell? (p.add (vat.toNat * 1)) = some (.int .i64 x14) ∧
  Calls Tryz.prog 50 #[(.int .i64 x14), (.slice scoresA scoresN scoresC)] w (Ret fun v w1 => ∃ x17 : Int, v = (.int .i64 x17) ∧
  R (.int .i64 x17) w1)) ∧
  (decide (vat < (x8N : Int)) = false →
  Calls Tryz.prog 50 #[(.int .i64 0), (.slice scoresA scoresN scoresC)] w (Ret fun v_1 w2 => ∃ x17_1 : Int, v_1 = (.int .i64 x17_1) ∧
  R (.int .i64 x17_1) w2))
theorem gen_Gen_c1.calls (vat : Int) (scoresA : Option Addr) (scoresN : Nat) (scoresC : Nat) (c0B : Nat) {w : World} {R : Value → World → Prop} (h : gen_Gen_c1.vc vat scoresA scoresN scoresC c0B w R) : Calls Tryz.prog 49 #[(.int .i64 vat), (.slice scoresA scoresN scoresC), (.pointer (some (⟨c0B, 0, none⟩ : Addr)))] w (Ret R) :=
  calls_V fit Tryz.func49 (.c .nil .nil) (Eq.mpr (by kernel_rfl) h)
/-- function 17 -/
def gen_Gen.vc (bB : Nat) (promptA : Option Addr) (promptN : Nat) (promptC : Nat) (most : Int) (drawsA : Option Addr) (drawsN : Nat) (drawsC : Nat) (w : World) (R : Value → World → Prop) : Prop :=
  ∀ w1 : World, w1 = w.alloc (.cells #[(.slice drawsA drawsN drawsC)] 35 (0, 0)) →
  Calls Tryz.prog 48 #[(.pointer (some ⟨bB, 0, none⟩)), (.slice promptA promptN promptC), (.int .i64 most), (.func (.func 49) #[] #[(.pointer (some ⟨w.heap.size, 0, none⟩))])] w1 (Ret fun v w2 => ∃ (x14_0A : Option Addr) (x14_0N x14_0C : Nat) (x14_1 : Int), v = (.tuple #[(.slice x14_0A x14_0N x14_0C), (.int .i64 x14_1)]) ∧
  R (.tuple #[(.slice x14_0A x14_0N x14_0C), (.int .i64 x14_1)]) w2)
theorem gen_Gen.calls (bB : Nat) (promptA : Option Addr) (promptN : Nat) (promptC : Nat) (most : Int) (drawsA : Option Addr) (drawsN : Nat) (drawsC : Nat) {w : World} {R : Value → World → Prop} (h : gen_Gen.vc bB promptA promptN promptC most drawsA drawsN drawsC w R) : Calls Tryz.prog 17 #[(.pointer (some (⟨bB, 0, none⟩ : Addr))), (.slice promptA promptN promptC), (.int .i64 most), (.slice drawsA drawsN drawsC)] w (Ret R) :=
  calls_V fit Tryz.func17 .nil (Eq.mpr (by kernel_rfl) h)
end Go.Proofs.YtkbikekbaboclaaGreat.Vc
