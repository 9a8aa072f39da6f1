import Derived.Test.YtkbikekbaboclaaGreatVc
import Derived.Test.YtkbikekbaboclaaGreatH
import Derived.Test.YtkbikekbaboclaaGreatProg
import Derived.KernelRfl
set_option linter.unusedVariables false
set_option maxRecDepth 100000
namespace Go.Proofs.YtkbikekbaboclaaGreat.Vc
open Go Go.Proofs V
def gen_Check_c1.vc (n : Int) (c0B : Nat) (w : World) (R : Value → World → Prop) : Prop :=
 (decide (n < (0 : Int)) = true →
 R (.bool true) w) ∧
 (decide (n < (0 : Int)) = false →
 ∃ x8 : Option Addr, w.cell? ⟨c0B, 0, none⟩ = some (.pointer x8) ∧
 someV x8 fun p =>
 ∃ x13 : Int, w.cell? p = some (.int .i64 x13) ∧
 R (.bool (decide (n ≥ x13))) w)
theorem gen_Check_c1.calls (n : Int) (c0B : Nat) {w : World} {R : Value → World → Prop} (h : gen_Check_c1.vc n c0B w R) : Calls Tryz.prog 53 #[(.int .i64 n), (.pointer (some (⟨c0B, 0, none⟩ : Addr)))] w (Ret R) :=
 calls_V fit Tryz.func53 (.at_ 1 2 .nil .nil) (Eq.mpr (by kernel_rfl) h)
def slices_ContainsFunc.vc_gc (sA : Option Addr) (sN : Nat) (sC : Nat) (c0B : Nat) (w : World) (R : Value → World → Prop) : Prop :=
 Calls Tryz.prog 91 #[(.slice sA sN sC), (.func (.func 53) #[] #[(.pointer (some ⟨c0B, 0, none⟩))])] w (Ret fun v w1 => ∃ x7 : Int, v = (.int .i64 x7) ∧
 R (.bool (decide (x7 ≥ (0 : Int)))) w1)
theorem slices_ContainsFunc.calls_gc (sA : Option Addr) (sN : Nat) (sC : Nat) (c0B : Nat) {w : World} {R : Value → World → Prop} (h : slices_ContainsFunc.vc_gc sA sN sC c0B w R) : Calls Tryz.prog 52 #[(.slice sA sN sC), (.func (.func 53) #[] #[(.pointer (some (⟨c0B, 0, none⟩ : Addr)))])] w (Ret R) :=
 calls_V fit Tryz.func52 .nil (Eq.mpr (by kernel_rfl) h)
def slices_IndexFunc.vc_gc (sA : Option Addr) (sN : Nat) (sC : Nat) (c0B : Nat) (w : World) (R : Value → World → Prop) : Prop :=
 ∃ vI : Int → Nat → World → Prop, (∃ vk_2 : Nat, vI 0 vk_2 w) ∧
 ∀ (jk : Nat → Value) (x8 : Int), ∀ (vk : Nat) (w1 : World), vI x8 vk w1 →
 (decide (x8 < (sN : Int)) = true →
 (0 ≤ x8 ∧ x8 < (sN : Int)) ∧ someV sA fun p =>
 ∃ x15 : Int, w1.cell? (p.add (x8.toNat * 1)) = some (.int .i64 x15) ∧
 Calls Tryz.prog 53 #[(.int .i64 x15), (.pointer (some ⟨c0B, 0, none⟩))] w1 (Ret fun v w2 => ∃ x16 : Bool, v = (.bool x16) ∧
 (x16 = true →
 R (.int .i64 x8) w2) ∧
 (x16 = false →
 ∃ vk_1 : Nat, vk_1 < vk ∧ vI (IntKind.i64.wrap (x8 + 1)) vk_1 w2))) ∧
 (decide (x8 < (sN : Int)) = false →
 R (.int .i64 (-1)) w1)
theorem slices_IndexFunc.calls_gc (sA : Option Addr) (sN : Nat) (sC : Nat) (c0B : Nat) {w : World} {R : Value → World → Prop} (h : slices_IndexFunc.vc_gc sA sN sC c0B w R) : Calls Tryz.prog 91 #[(.slice sA sN sC), (.func (.func 53) #[] #[(.pointer (some (⟨c0B, 0, none⟩ : Addr)))])] w (Ret R) :=
 calls_V fit Tryz.func91 (.lp ([(4, none), (5, none), (8, some (.int .i64))] ++ nn 9 10) (.c (.c .nil .nil) .nil)) (Eq.mpr (by kernel_rfl) h)
def gen_Check.vc (bB : Nat) (most : Int) (promptA : Option Addr) (promptN : Nat) (promptC : Nat) (w : World) (R : Value → World → Prop) : Prop :=
 ∀ w1 : World, w1 = w.alloc (.cells #[(.pointer (some ⟨bB, 0, none⟩))] 24 (0, 0)) →
 ∃ x8 : Option Addr, w1.cell? ⟨w.heap.size, 0, none⟩ = some (.pointer x8) ∧
 (x8.isNone = true →
 R (.int .i64 2) w1) ∧
 (x8.isNone = false →
 (((promptN : Int) == (0 : Int)) = true →
 R (.int .i64 1) w1) ∧
 (((promptN : Int) == (0 : Int)) = false →
 (decide (most < (1 : Int)) = true →
 R (.int .i64 1) w1) ∧
 (decide (most < (1 : Int)) = false →
 (decide (most > (32 : Int)) = true →
 R (.int .i64 1) w1) ∧
 (decide (most > (32 : Int)) = false →
 Calls Tryz.prog 52 #[(.slice promptA promptN promptC), (.func (.func 53) #[] #[(.pointer (some ⟨w.heap.size, 0, none⟩))])] w1 (Ret fun v w2 => ∃ x25 : Bool, v = (.bool x25) ∧
 (x25 = true →
 R (.int .i64 3) w2) ∧
 (x25 = false →
 ∃ x31 : Option Addr, w2.cell? ⟨w.heap.size, 0, none⟩ = some (.pointer x31) ∧
 someV x31 fun p =>
 ∃ x36 : Int, w2.cell? (p.add 5) = some (.int .i64 x36) ∧
 (decide ((IntKind.i64.wrap ((promptN : Int) + most)) > x36) = true →
 R (.int .i64 12) w2) ∧
 (decide ((IntKind.i64.wrap ((promptN : Int) + most)) > x36) = false →
 R (.int .i64 0) w2)))))))
theorem gen_Check.calls (bB : Nat) (most : Int) (promptA : Option Addr) (promptN : Nat) (promptC : Nat) {w : World} {R : Value → World → Prop} (h : gen_Check.vc bB most promptA promptN promptC w R) : Calls Tryz.prog 21 #[(.pointer (some (⟨bB, 0, none⟩ : Addr))), (.int .i64 most), (.slice promptA promptN promptC)] w (Ret R) :=
 calls_V fit Tryz.func21 (.c .nil (.at_ 3 3 (.k .nil) (.at_ 3 7 (.k .nil) (.c .nil (.c .nil (.c .nil .nil)))))) (Eq.mpr (by kernel_rfl) h)
def gen_Next.vc (draw : Int) (scoresA : Option Addr) (scoresN : Nat) (scoresC : Nat) (w : World) (R : Value → World → Prop) : Prop :=
 Calls Tryz.prog 90 #[(.slice scoresA scoresN scoresC)] w (Ret fun v w1 => ∃ (x7A : Option Addr) (x7N x7C : Nat), v = (.slice x7A x7N x7C) ∧
 Calls Tryz.prog 89 #[(.int .i64 draw), (.slice x7A x7N x7C)] w1 (Ret fun v_1 w2 => ∃ x8 : Int, v_1 = (.int .i64 x8) ∧
 R (.int .i64 (if (0 : Int) > x8 then (0 : Int) else x8)) w2))
theorem gen_Next.calls (draw : Int) (scoresA : Option Addr) (scoresN : Nat) (scoresC : Nat) {w : World} {R : Value → World → Prop} (h : gen_Next.vc draw scoresA scoresN scoresC w R) : Calls Tryz.prog 50 #[(.int .i64 draw), (.slice scoresA scoresN scoresC)] w (Ret R) :=
 calls_V fit Tryz.func50 .nil (Eq.mpr (by kernel_rfl) h)
def gen_Gen_c1.vc (vat : Int) (scoresA : Option Addr) (scoresN : Nat) (scoresC : Nat) (c0B : Nat) (w : World) (R : Value → World → Prop) : Prop :=
 ∃ (x8A : Option Addr) (x8N x8C : Nat), w.cell? ⟨c0B, 0, none⟩ = some (.slice x8A x8N x8C) ∧
 (decide (vat < (x8N : Int)) = true →
 ∃ (x11A : Option Addr) (x11N x11C : Nat), w.cell? ⟨c0B, 0, none⟩ = some (.slice x11A x11N x11C) ∧
 (0 ≤ vat ∧ vat < (x11N : Int)) ∧ someV x11A fun p =>
 ∃ x14 : Int, w.cell? (p.add (vat.toNat * 1)) = some (.int .i64 x14) ∧
 Calls Tryz.prog 50 #[(.int .i64 x14), (.slice scoresA scoresN scoresC)] w (Ret fun v w1 => ∃ x17 : Int, v = (.int .i64 x17) ∧
 R (.int .i64 x17) w1)) ∧
 (decide (vat < (x8N : Int)) = false →
 Calls Tryz.prog 50 #[(.int .i64 0), (.slice scoresA scoresN scoresC)] w (Ret fun v_1 w2 => ∃ x17_1 : Int, v_1 = (.int .i64 x17_1) ∧
 R (.int .i64 x17_1) w2))
theorem gen_Gen_c1.calls (vat : Int) (scoresA : Option Addr) (scoresN : Nat) (scoresC : Nat) (c0B : Nat) {w : World} {R : Value → World → Prop} (h : gen_Gen_c1.vc vat scoresA scoresN scoresC c0B w R) : Calls Tryz.prog 49 #[(.int .i64 vat), (.slice scoresA scoresN scoresC), (.pointer (some (⟨c0B, 0, none⟩ : Addr)))] w (Ret R) :=
 calls_V fit Tryz.func49 (.c .nil .nil) (Eq.mpr (by kernel_rfl) h)
def gen_say.vc_gn (bB : Nat) (promptA : Option Addr) (promptN : Nat) (promptC : Nat) (most : Int) (c0B : Nat) (w : World) (R : Value → World → Prop) : Prop :=
 Calls Tryz.prog 21 #[(.pointer (some ⟨bB, 0, none⟩)), (.int .i64 most), (.slice promptA promptN promptC)] w (Ret fun v w1 => ∃ x22 : Int, v = (.int .i64 x22) ∧
 ((x22 != (0 : Int)) = true →
 R (.tuple #[(.slice none 0 0), (.int .i64 x22)]) w1) ∧
 ((x22 != (0 : Int)) = false →
 Calls Tryz.prog 88 #[(.pointer (some ⟨bB, 0, none⟩)), (.slice none 0 0), (.slice promptA promptN promptC)] w1 (Ret fun v_1 w2 => ∃ (x29_0A : Option Addr) (x29_0N x29_0C : Nat) (x29_1A : Option Addr) (x29_1N x29_1C : Nat) (x29_2 : Int), v_1 = (.tuple #[(.slice x29_0A x29_0N x29_0C), (.slice x29_1A x29_1N x29_1C), (.int .i64 x29_2)]) ∧
 ((x29_2 != (0 : Int)) = true →
 R (.tuple #[(.slice none 0 0), (.int .i64 x29_2)]) w2) ∧
 ((x29_2 != (0 : Int)) = false →
 ∃ vI : Option Addr → Nat → Nat → Option Addr → Nat → Nat → Option Addr → Nat → Nat → Nat → World → Prop, (∃ vk_2 : Nat, vI x29_0A x29_0N x29_0C x29_1A x29_1N x29_1C none 0 0 vk_2 w2) ∧
 ∀ (jk : Nat → Value) (pastA : Option Addr) (pastN : Nat) (pastC : Nat) (scoresA : Option Addr) (scoresN : Nat) (scoresC : Nat) (outA : Option Addr) (outN : Nat) (outC : Nat), ∀ (vk : Nat) (w3 : World), vI pastA pastN pastC scoresA scoresN scoresC outA outN outC vk w3 →
 Calls Tryz.prog 49 #[(.int .i64 (outN : Int)), (.slice scoresA scoresN scoresC), (.pointer (some ⟨c0B, 0, none⟩))] w3 (Ret fun v_2 w4 => ∃ x40 : Int, v_2 = (.int .i64 x40) ∧
 ((x40 == (0 : Int)) = true →
 R (.tuple #[(.slice outA outN outC), (.int .i64 0)]) w4) ∧
 ((x40 == (0 : Int)) = false →
 ∀ w5 : World, w5 = w4.alloc (.cells #[(.int .i64 x40)] 3 (0, 0)) →
 ∃ (x47A : Option Addr) (x47N x47C : Nat), ∃ w6 : World, (Builtin.append_ #[35, 35] 35 #[(.slice outA outN outC), (.slice (some ⟨w4.heap.size, 0, none⟩) 1 1)]).run Tryz.prog w5 = .ok (.slice x47A x47N x47C) w6 ∧
 (((x47N : Int) == most) = true →
 R (.tuple #[(.slice x47A x47N x47C), (.int .i64 0)]) w6) ∧
 (((x47N : Int) == most) = false →
 Calls Tryz.prog 79 #[(.pointer (some ⟨bB, 0, none⟩)), (.slice pastA pastN pastC), (.int .i64 x40)] w6 (Ret fun v_3 w7 => ∃ (x57_00A : Option Addr) (x57_00N x57_00C : Nat) (x57_01A : Option Addr) (x57_01N x57_01C : Nat) (x57_1A : Option Addr) (x57_1N x57_1C : Nat) (x57_2 : Int), v_3 = (.tuple #[(.agg #[(.slice x57_00A x57_00N x57_00C), (.slice x57_01A x57_01N x57_01C)]), (.slice x57_1A x57_1N x57_1C), (.int .i64 x57_2)]) ∧
 ∀ w8 : World, w8 = w7.alloc (.cells #[(.slice none 0 0), (.slice none 0 0)] 157 (0, 0)) →
 (Okc w8 ⟨w7.heap.size, 0, none⟩ ∧ Okc w8 ⟨w7.heap.size, 1, none⟩) ∧ ∀ w9 : World, w9 = ((w8.setCell ⟨w7.heap.size, 0, none⟩ (.slice x57_00A x57_00N x57_00C)).setCell ⟨w7.heap.size, 1, none⟩ (.slice x57_01A x57_01N x57_01C)) →
 ((x57_2 != (0 : Int)) = true →
 R (.tuple #[(.slice none 0 0), (.int .i64 x57_2)]) w9) ∧
 ((x57_2 != (0 : Int)) = false →
 ∃ (x650A : Option Addr) (x650N x650C : Nat) (x651A : Option Addr) (x651N x651C : Nat), (w9.cell? ⟨w7.heap.size, 0, none⟩ = some (.slice x650A x650N x650C) ∧ w9.cell? ⟨w7.heap.size, 1, none⟩ = some (.slice x651A x651N x651C)) ∧
 ∀ w10 : World, w10 = w9.alloc (.cells #[(.slice x650A x650N x650C), (.slice x651A x651N x651C)] 157 (0, 0)) →
 ∃ (x67A : Option Addr) (x67N x67C : Nat), ∃ w11 : World, (Builtin.append_ #[160, 160] 160 #[(.slice pastA pastN pastC), (.slice (some ⟨w9.heap.size, 0, none⟩) 1 1)]).run Tryz.prog w10 = .ok (.slice x67A x67N x67C) w11 ∧
 ∃ vk_1 : Nat, vk_1 < vk ∧ vI x67A x67N x67C x57_1A x57_1N x57_1C x47A x47N x47C vk_1 w11)))))))))
theorem gen_say.calls_gn (bB : Nat) (promptA : Option Addr) (promptN : Nat) (promptC : Nat) (most : Int) (c0B : Nat) {w : World} {R : Value → World → Prop} (h : gen_say.vc_gn bB promptA promptN promptC most c0B w R) : Calls Tryz.prog 48 #[(.pointer (some (⟨bB, 0, none⟩ : Addr))), (.slice promptA promptN promptC), (.int .i64 most), (.func (.func 49) #[] #[(.pointer (some (⟨c0B, 0, none⟩ : Addr)))])] w (Ret R) :=
 calls_V fit Tryz.func48 (.c .nil (.c .nil (.lp ([(8, none), (9, none), (11, some (.slice)), (12, some (.slice)), (14, some (.slice))] ++ nn 15 4 ++ nn 36 33) (.c .nil (.c .nil (.c .nil .nil)))))) (Eq.mpr (by kernel_rfl) h)
def gen_Gen.vc (bB : Nat) (promptA : Option Addr) (promptN : Nat) (promptC : Nat) (most : Int) (drawsA : Option Addr) (drawsN : Nat) (drawsC : Nat) (w : World) (R : Value → World → Prop) : Prop :=
 ∀ w1 : World, w1 = w.alloc (.cells #[(.slice drawsA drawsN drawsC)] 35 (0, 0)) →
 Calls Tryz.prog 48 #[(.pointer (some ⟨bB, 0, none⟩)), (.slice promptA promptN promptC), (.int .i64 most), (.func (.func 49) #[] #[(.pointer (some ⟨w.heap.size, 0, none⟩))])] w1 (Ret fun v w2 => ∃ (x14_0A : Option Addr) (x14_0N x14_0C : Nat) (x14_1 : Int), v = (.tuple #[(.slice x14_0A x14_0N x14_0C), (.int .i64 x14_1)]) ∧
 R (.tuple #[(.slice x14_0A x14_0N x14_0C), (.int .i64 x14_1)]) w2)
theorem gen_Gen.calls (bB : Nat) (promptA : Option Addr) (promptN : Nat) (promptC : Nat) (most : Int) (drawsA : Option Addr) (drawsN : Nat) (drawsC : Nat) {w : World} {R : Value → World → Prop} (h : gen_Gen.vc bB promptA promptN promptC most drawsA drawsN drawsC w R) : Calls Tryz.prog 17 #[(.pointer (some (⟨bB, 0, none⟩ : Addr))), (.slice promptA promptN promptC), (.int .i64 most), (.slice drawsA drawsN drawsC)] w (Ret R) :=
 calls_V fit Tryz.func17 .nil (Eq.mpr (by kernel_rfl) h)
end Go.Proofs.YtkbikekbaboclaaGreat.Vc
