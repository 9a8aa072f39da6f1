import Derived.Test.YtkbikekbaboclaaGreatVc
import Derived.Test.YtkbikekbaboclaaGreatVcGen
import Derived.Test.YtkbikekbaboclaaGreatH
import Derived.Test.YtkbikekbaboclaaGreatProg
import Derived.KernelRfl
set_option linter.unusedVariables false
set_option maxRecDepth 100000
namespace Go.Proofs.YtkbikekbaboclaaGreat.Vc
open Go Go.Proofs V
def ward_Need.vc (a0 : Int) (a1 : Int) (a2A : Option Addr) (a2N : Nat) (a2C : Nat) (a3 : Int) (a4A : Option Addr) (a4N : Nat) (a4C : Nat) (w : World) (R : Value → World → Prop) : Prop :=
 ∀ w1 : World, w1 = w.alloc (.cells #[(.int .i64 a0), (.int .i64 a1), (.slice a2A a2N a2C), (.int .i64 a3), (.slice a4A a4N a4C)] 37 (0, 0)) →
 ∃ x5 : Int, w1.cell? ⟨w.heap.size, 3, none⟩ = some (.int .i64 x5) ∧
 (decide (x5 < (1 : Int)) = true →
 R (.int .i64 0) w1) ∧
 (decide (x5 < (1 : Int)) = false →
 ∃ x9 : Int, w1.cell? ⟨w.heap.size, 3, none⟩ = some (.int .i64 x9) ∧
 (decide (x9 > (32 : Int)) = true →
 R (.int .i64 0) w1) ∧
 (decide (x9 > (32 : Int)) = false →
 ∃ (x13A : Option Addr) (x13N x13C : Nat), w1.cell? ⟨w.heap.size, 2, none⟩ = some (.slice x13A x13N x13C) ∧
 ∃ x16 : Int, w1.cell? ⟨w.heap.size, 3, none⟩ = some (.int .i64 x16) ∧
 (4 : Int) ≠ 0 ∧
 R (.int .i64 (IntKind.i64.wrap (Int.tdiv (IntKind.i64.wrap ((IntKind.i64.wrap ((IntKind.i64.wrap ((IntKind.i64.wrap ((x13N : Int) + x16)) - 1)) + 4)) - 1)) 4))) w1))
theorem ward_Need.calls (a0 : Int) (a1 : Int) (a2A : Option Addr) (a2N : Nat) (a2C : Nat) (a3 : Int) (a4A : Option Addr) (a4N : Nat) (a4C : Nat) {w : World} {R : Value → World → Prop} (h : ward_Need.vc a0 a1 a2A a2N a2C a3 a4A a4N a4C w R) : Calls Tryz.prog 22 #[(.agg #[(.int .i64 a0), (.int .i64 a1), (.slice a2A a2N a2C), (.int .i64 a3), (.slice a4A a4N a4C)])] w (Ret R) :=
 calls_V fit Tryz.func22 (.at_ 1 3 (.k .nil) (.c .nil .nil)) (Eq.mpr (by kernel_rfl) h)
def ward_Copy.vc (a0 : Int) (a1 : Int) (a2A : Option Addr) (a2N : Nat) (a2C : Nat) (a3 : Int) (a4A : Option Addr) (a4N : Nat) (a4C : Nat) (w : World) (R : Value → World → Prop) : Prop :=
 ∀ w1 : World, w1 = w.alloc (.cells #[(.int .i64 a0), (.int .i64 a1), (.slice a2A a2N a2C), (.int .i64 a3), (.slice a4A a4N a4C)] 37 (0, 0)) →
 ∀ w2 : World, w2 = w1.alloc (.cells #[(.int .i64 0), (.int .i64 0), (.slice none 0 0), (.int .i64 0), (.slice none 0 0)] 37 (0, 0)) →
 ∃ J : World → Prop, (∃ vS : World → Prop, ∀ w3 : World, w3 = w2.drew → vS w3 ∧
 (∃ (x4A : Option Addr) (x4N x4C : Nat), w3.cell? ⟨w.heap.size, 2, none⟩ = some (.slice x4A x4N x4C) ∧
 vS w3 ∧
 (Calls Tryz.prog 51 #[(.slice x4A x4N x4C)] w3 (Ret fun v w4 => ∃ (x5A : Option Addr) (x5N x5C : Nat), v = (.slice x5A x5N x5C) ∧
 vS w4 ∧
 ∃ (x7A : Option Addr) (x7N x7C : Nat), w4.cell? ⟨w.heap.size, 4, none⟩ = some (.slice x7A x7N x7C) ∧
 vS w4 ∧
 Calls Tryz.prog 51 #[(.slice x7A x7N x7C)] w4 (Ret fun v_1 w5 => ∃ (x8A : Option Addr) (x8N x8C : Nat), v_1 = (.slice x8A x8N x8C) ∧
 vS w5 ∧
 (Okc w5 ⟨w.heap.size, 2, none⟩) ∧ ∀ w6 : World, w6 = (w5.setCell ⟨w.heap.size, 2, none⟩ (.slice x5A x5N x5C)) →
 vS w6 ∧
 (Okc w6 ⟨w.heap.size, 4, none⟩) ∧ ∀ w7 : World, w7 = (w6.setCell ⟨w.heap.size, 4, none⟩ (.slice x8A x8N x8C)) →
 vS w7 ∧
 J w7))) ∧ (∃ (x7A_1 : Option Addr) (x7N_1 x7C_1 : Nat), w3.cell? ⟨w.heap.size, 4, none⟩ = some (.slice x7A_1 x7N_1 x7C_1) ∧
 vS w3 ∧
 Calls Tryz.prog 51 #[(.slice x4A x4N x4C)] w3 (Ret fun v_2 w8 => ∃ (x5A_1 : Option Addr) (x5N_1 x5C_1 : Nat), v_2 = (.slice x5A_1 x5N_1 x5C_1) ∧
 vS w8 ∧
 Calls Tryz.prog 51 #[(.slice x7A_1 x7N_1 x7C_1)] w8 (Ret fun v_3 w9 => ∃ (x8A_1 : Option Addr) (x8N_1 x8C_1 : Nat), v_3 = (.slice x8A_1 x8N_1 x8C_1) ∧
 vS w9 ∧
 (Okc w9 ⟨w.heap.size, 2, none⟩) ∧ ∀ w10 : World, w10 = (w9.setCell ⟨w.heap.size, 2, none⟩ (.slice x5A_1 x5N_1 x5C_1)) →
 vS w10 ∧
 (Okc w10 ⟨w.heap.size, 4, none⟩) ∧ ∀ w11 : World, w11 = (w10.setCell ⟨w.heap.size, 4, none⟩ (.slice x8A_1 x8N_1 x8C_1)) →
 vS w11 ∧
 J w11))) ∧ True) ∧ (∃ (x7A_2 : Option Addr) (x7N_2 x7C_2 : Nat), w3.cell? ⟨w.heap.size, 4, none⟩ = some (.slice x7A_2 x7N_2 x7C_2) ∧
 vS w3 ∧
 ∃ (x4A_1 : Option Addr) (x4N_1 x4C_1 : Nat), w3.cell? ⟨w.heap.size, 2, none⟩ = some (.slice x4A_1 x4N_1 x4C_1) ∧
 vS w3 ∧
 Calls Tryz.prog 51 #[(.slice x4A_1 x4N_1 x4C_1)] w3 (Ret fun v_4 w12 => ∃ (x5A_2 : Option Addr) (x5N_2 x5C_2 : Nat), v_4 = (.slice x5A_2 x5N_2 x5C_2) ∧
 vS w12 ∧
 Calls Tryz.prog 51 #[(.slice x7A_2 x7N_2 x7C_2)] w12 (Ret fun v_5 w13 => ∃ (x8A_2 : Option Addr) (x8N_2 x8C_2 : Nat), v_5 = (.slice x8A_2 x8N_2 x8C_2) ∧
 vS w13 ∧
 (Okc w13 ⟨w.heap.size, 2, none⟩) ∧ ∀ w14 : World, w14 = (w13.setCell ⟨w.heap.size, 2, none⟩ (.slice x5A_2 x5N_2 x5C_2)) →
 vS w14 ∧
 (Okc w14 ⟨w.heap.size, 4, none⟩) ∧ ∀ w15 : World, w15 = (w14.setCell ⟨w.heap.size, 4, none⟩ (.slice x8A_2 x8N_2 x8C_2)) →
 vS w15 ∧
 J w15))) ∧ True) ∧
 ∀ (jk : Nat → Value), ∀ w16 : World, J w16 →
 ∃ (x110 x111 : Int) (x112A : Option Addr) (x112N x112C : Nat) (x113 : Int) (x114A : Option Addr) (x114N x114C : Nat), (w16.cell? ⟨w.heap.size, 0, none⟩ = some (.int .i64 x110) ∧ w16.cell? ⟨w.heap.size, 1, none⟩ = some (.int .i64 x111) ∧ w16.cell? ⟨w.heap.size, 2, none⟩ = some (.slice x112A x112N x112C) ∧ w16.cell? ⟨w.heap.size, 3, none⟩ = some (.int .i64 x113) ∧ w16.cell? ⟨w.heap.size, 4, none⟩ = some (.slice x114A x114N x114C)) ∧
 (Okc w16 ⟨w1.heap.size, 0, none⟩ ∧ Okc w16 ⟨w1.heap.size, 1, none⟩ ∧ Okc w16 ⟨w1.heap.size, 2, none⟩ ∧ Okc w16 ⟨w1.heap.size, 3, none⟩ ∧ Okc w16 ⟨w1.heap.size, 4, none⟩) ∧ ∀ w17 : World, w17 = (((((w16.setCell ⟨w1.heap.size, 0, none⟩ (.int .i64 x110)).setCell ⟨w1.heap.size, 1, none⟩ (.int .i64 x111)).setCell ⟨w1.heap.size, 2, none⟩ (.slice x112A x112N x112C)).setCell ⟨w1.heap.size, 3, none⟩ (.int .i64 x113)).setCell ⟨w1.heap.size, 4, none⟩ (.slice x114A x114N x114C)) →
 ∃ (r00 r01 : Int) (r02A : Option Addr) (r02N r02C : Nat) (r03 : Int) (r04A : Option Addr) (r04N r04C : Nat), (w17.cell? ⟨w1.heap.size, 0, none⟩ = some (.int .i64 r00) ∧ w17.cell? ⟨w1.heap.size, 1, none⟩ = some (.int .i64 r01) ∧ w17.cell? ⟨w1.heap.size, 2, none⟩ = some (.slice r02A r02N r02C) ∧ w17.cell? ⟨w1.heap.size, 3, none⟩ = some (.int .i64 r03) ∧ w17.cell? ⟨w1.heap.size, 4, none⟩ = some (.slice r04A r04N r04C)) ∧
 R (.agg #[(.int .i64 r00), (.int .i64 r01), (.slice r02A r02N r02C), (.int .i64 r03), (.slice r04A r04N r04C)]) w17
theorem ward_Copy.calls (a0 : Int) (a1 : Int) (a2A : Option Addr) (a2N : Nat) (a2C : Nat) (a3 : Int) (a4A : Option Addr) (a4N : Nat) (a4C : Nat) {w : World} {R : Value → World → Prop} (h : ward_Copy.vc a0 a1 a2A a2N a2C a3 a4A a4N a4C w R) : Calls Tryz.prog 20 #[(.agg #[(.int .i64 a0), (.int .i64 a1), (.slice a2A a2N a2C), (.int .i64 a3), (.slice a4A a4N a4C)])] w (Ret R) :=
 calls_V fit Tryz.func20 (.cut 1 (nn 3 8) (.tk 0 (.tk 3 (.alt 1 (.alt 2 (.alt 4 (.tk 6 (.alt 5 (.alt 7 (.tk 8 (.alt 9 (.fin .nil) .nil)) .nil) .nil)) .nil) (.alt 4 (.alt 2 (.tk 6 (.alt 5 (.alt 7 (.tk 8 (.alt 9 (.fin .nil) .nil)) .nil) .nil)) .nil) .nil)) (.alt 4 (.alt 1 (.alt 2 (.tk 6 (.alt 5 (.alt 7 (.tk 8 (.alt 9 (.fin .nil) .nil)) .nil) .nil)) .nil) .nil) .nil)))) .nil) (Eq.mpr (by kernel_rfl) h)
def ward_New.vc (pages : Int) (w : World) (R : Value → World → Prop) : Prop :=
 (decide (pages < (1 : Int)) = true →
 R (.pointer none) w) ∧
 (decide (pages < (1 : Int)) = false →
 (decide (pages > (64 : Int)) = true →
 R (.pointer none) w) ∧
 (decide (pages > (64 : Int)) = false →
 ∀ w1 : World, w1 = w.alloc (.cells #[(.int .i64 pages), (.slice none 0 0)] 177 (0, 0)) →
 R (.pointer (some ⟨w.heap.size, 0, none⟩)) w1))
theorem ward_New.calls (pages : Int) {w : World} {R : Value → World → Prop} (h : ward_New.vc pages w R) : Calls Tryz.prog 68 #[(.int .i64 pages)] w (Ret R) :=
 calls_V fit Tryz.func68 (.at_ 1 2 (.k .nil) (.c .nil .nil)) (Eq.mpr (by kernel_rfl) h)
def ward_Ward_at_c1.vc (a0 : Int) (a1 : Int) (a2A : Option Addr) (a2N : Nat) (a2C : Nat) (a3 : Int) (a4A : Option Addr) (a4N : Nat) (a4C : Nat) (c0B : Nat) (w : World) (R : Value → World → Prop) : Prop :=
 ∀ w1 : World, w1 = w.alloc (.cells #[(.int .i64 a0), (.int .i64 a1), (.slice a2A a2N a2C), (.int .i64 a3), (.slice a4A a4N a4C)] 37 (0, 0)) →
 ∃ x5 : Int, w1.cell? ⟨w.heap.size, 0, none⟩ = some (.int .i64 x5) ∧
 ∃ x6 : Int, w1.cell? ⟨c0B, 0, none⟩ = some (.int .i64 x6) ∧
 R (.bool (x5 == x6)) w1
theorem ward_Ward_at_c1.calls (a0 : Int) (a1 : Int) (a2A : Option Addr) (a2N : Nat) (a2C : Nat) (a3 : Int) (a4A : Option Addr) (a4N : Nat) (a4C : Nat) (c0B : Nat) {w : World} {R : Value → World → Prop} (h : ward_Ward_at_c1.vc a0 a1 a2A a2N a2C a3 a4A a4N a4C c0B w R) : Calls Tryz.prog 145 #[(.agg #[(.int .i64 a0), (.int .i64 a1), (.slice a2A a2N a2C), (.int .i64 a3), (.slice a4A a4N a4C)]), (.pointer (some (⟨c0B, 0, none⟩ : Addr)))] w (Ret R) :=
 calls_V fit Tryz.func145 .nil (Eq.mpr (by kernel_rfl) h)
def slices_IndexFunc.vc_at (sA : Option Addr) (sN : Nat) (sC : Nat) (c0B : Nat) (w : World) (R : Value → World → Prop) : Prop :=
 ∃ vI : Int → Nat → World → Prop, (∃ vk_2 : Nat, vI 0 vk_2 w) ∧
 ∀ (jk : Nat → Value) (x8 : Int), ∀ (vk : Nat) (w1 : World), vI x8 vk w1 →
 (decide (x8 < (sN : Int)) = true →
 (0 ≤ x8 ∧ x8 < (sN : Int)) ∧ someV sA fun p =>
 ∃ (x150 x151 : Int) (x152A : Option Addr) (x152N x152C : Nat) (x153 : Int) (x154A : Option Addr) (x154N x154C : Nat), (w1.cell? (p.add (x8.toNat * 5)) = some (.int .i64 x150) ∧ w1.cell? ((p.add (x8.toNat * 5)).add 1) = some (.int .i64 x151) ∧ w1.cell? ((p.add (x8.toNat * 5)).add 2) = some (.slice x152A x152N x152C) ∧ w1.cell? ((p.add (x8.toNat * 5)).add 3) = some (.int .i64 x153) ∧ w1.cell? ((p.add (x8.toNat * 5)).add 4) = some (.slice x154A x154N x154C)) ∧
 Calls Tryz.prog 145 #[(.agg #[(.int .i64 x150), (.int .i64 x151), (.slice x152A x152N x152C), (.int .i64 x153), (.slice x154A x154N x154C)]), (.pointer (some ⟨c0B, 0, none⟩))] w1 (Ret fun v w2 => ∃ x16 : Bool, v = (.bool x16) ∧
 (x16 = true →
 R (.int .i64 x8) w2) ∧
 (x16 = false →
 ∃ vk_1 : Nat, vk_1 < vk ∧ vI (IntKind.i64.wrap (x8 + 1)) vk_1 w2))) ∧
 (decide (x8 < (sN : Int)) = false →
 R (.int .i64 (-1)) w1)
theorem slices_IndexFunc.calls_at (sA : Option Addr) (sN : Nat) (sC : Nat) (c0B : Nat) {w : World} {R : Value → World → Prop} (h : slices_IndexFunc.vc_at sA sN sC c0B w R) : Calls Tryz.prog 144 #[(.slice sA sN sC), (.func (.func 145) #[] #[(.pointer (some (⟨c0B, 0, none⟩ : Addr)))])] w (Ret R) :=
 calls_V fit Tryz.func144 (.lp ([(4, none), (5, none), (8, some (.int .i64))] ++ nn 9 10) (.c (.c .nil .nil) .nil)) (Eq.mpr (by kernel_rfl) h)
def ward_Ward_at.vc (wB : Nat) (id : Int) (w : World) (R : Value → World → Prop) : Prop :=
 ∀ w1 : World, w1 = w.alloc (.cells #[(.int .i64 id)] 3 (0, 0)) →
 ∃ (x8A : Option Addr) (x8N x8C : Nat), w1.cell? ⟨wB, 1, none⟩ = some (.slice x8A x8N x8C) ∧
 Calls Tryz.prog 144 #[(.slice x8A x8N x8C), (.func (.func 145) #[] #[(.pointer (some ⟨w.heap.size, 0, none⟩))])] w1 (Ret fun v w2 => ∃ x10 : Int, v = (.int .i64 x10) ∧
 R (.int .i64 x10) w2)
theorem ward_Ward_at.calls (wB : Nat) (id : Int) {w : World} {R : Value → World → Prop} (h : ward_Ward_at.vc wB id w R) : Calls Tryz.prog 102 #[(.pointer (some (⟨wB, 0, none⟩ : Addr))), (.int .i64 id)] w (Ret R) :=
 calls_V fit Tryz.func102 .nil (Eq.mpr (by kernel_rfl) h)
def ward_Ward_Submit.vc (wB : Nat) (bB : Nat) (a0 : Int) (a1 : Int) (a2A : Option Addr) (a2N : Nat) (a2C : Nat) (a3 : Int) (a4A : Option Addr) (a4N : Nat) (a4C : Nat) (w : World) (R : Value → World → Prop) : Prop :=
 ∀ w1 : World, w1 = w.alloc (.cells #[(.int .i64 a0), (.int .i64 a1), (.slice a2A a2N a2C), (.int .i64 a3), (.slice a4A a4N a4C)] 37 (0, 0)) →
 ∃ x17 : Int, w1.cell? ⟨w.heap.size, 0, none⟩ = some (.int .i64 x17) ∧
 (decide (x17 < (1 : Int)) = true →
 R (.int .i64 1) w1) ∧
 (decide (x17 < (1 : Int)) = false →
 ∃ x21 : Int, w1.cell? ⟨w.heap.size, 0, none⟩ = some (.int .i64 x21) ∧
 (decide (x21 > (2147483647 : Int)) = true →
 R (.int .i64 1) w1) ∧
 (decide (x21 > (2147483647 : Int)) = false →
 ∃ (x26A : Option Addr) (x26N x26C : Nat), w1.cell? ⟨w.heap.size, 4, none⟩ = some (.slice x26A x26N x26C) ∧
 (decide ((x26N : Int) > (32 : Int)) = true →
 R (.int .i64 1) w1) ∧
 (decide ((x26N : Int) > (32 : Int)) = false →
 ∃ x33 : Int, w1.cell? ⟨w.heap.size, 0, none⟩ = some (.int .i64 x33) ∧
 Calls Tryz.prog 102 #[(.pointer (some ⟨wB, 0, none⟩)), (.int .i64 x33)] w1 (Ret fun v w2 => ∃ x34 : Int, v = (.int .i64 x34) ∧
 (decide (x34 ≥ (0 : Int)) = true →
 R (.int .i64 9) w2) ∧
 (decide (x34 ≥ (0 : Int)) = false →
 ∃ x38 : Int, w2.cell? ⟨w.heap.size, 3, none⟩ = some (.int .i64 x38) ∧
 ∃ (x40A : Option Addr) (x40N x40C : Nat), w2.cell? ⟨w.heap.size, 2, none⟩ = some (.slice x40A x40N x40C) ∧
 Calls Tryz.prog 21 #[(.pointer (some ⟨bB, 0, none⟩)), (.int .i64 x38), (.slice x40A x40N x40C)] w2 (Ret fun v_1 w3 => ∃ x41 : Int, v_1 = (.int .i64 x41) ∧
 ((x41 != (0 : Int)) = true →
 R (.int .i64 x41) w3) ∧
 ((x41 != (0 : Int)) = false →
 ∃ vS : World → Prop, ∀ w4 : World, w4 = w3.drew → vS w4 ∧
 ∃ (x460 x461 : Int) (x462A : Option Addr) (x462N x462C : Nat) (x463 : Int) (x464A : Option Addr) (x464N x464C : Nat), ((∀ w5, vS w5 → w5.cell? ⟨w.heap.size, 0, none⟩ = some (.int .i64 x460)) ∧ (∀ w5, vS w5 → w5.cell? ⟨w.heap.size, 1, none⟩ = some (.int .i64 x461)) ∧ (∀ w5, vS w5 → w5.cell? ⟨w.heap.size, 2, none⟩ = some (.slice x462A x462N x462C)) ∧ (∀ w5, vS w5 → w5.cell? ⟨w.heap.size, 3, none⟩ = some (.int .i64 x463)) ∧ (∀ w5, vS w5 → w5.cell? ⟨w.heap.size, 4, none⟩ = some (.slice x464A x464N x464C))) ∧
 ∃ x51 : Int, (∀ w6, vS w6 → w6.cell? ⟨wB, 0, none⟩ = some (.int .i64 x51)) ∧
 Calls Tryz.prog 22 #[(.agg #[(.int .i64 x460), (.int .i64 x461), (.slice x462A x462N x462C), (.int .i64 x463), (.slice x464A x464N x464C)])] w4 (Ret fun v_2 w7 => ∃ x47 : Int, v_2 = (.int .i64 x47) ∧
 vS w7 ∧
 (decide (x47 > x51) = true →
 R (.int .i64 11) w7) ∧
 (decide (x47 > x51) = false →
 ∃ (x57A : Option Addr) (x57N x57C : Nat), w7.cell? ⟨wB, 1, none⟩ = some (.slice x57A x57N x57C) ∧
 (decide ((x57N : Int) ≥ (16 : Int)) = true →
 R (.int .i64 10) w7) ∧
 (decide ((x57N : Int) ≥ (16 : Int)) = false →
 ∃ vS_1 : World → Prop, ∀ w8 : World, w8 = w7.drew → vS_1 w8 ∧
 ∃ (x64A : Option Addr) (x64N x64C : Nat), (∀ w9, vS_1 w9 → w9.cell? ⟨wB, 1, none⟩ = some (.slice x64A x64N x64C)) ∧
 ∃ (x650 x651 : Int) (x652A : Option Addr) (x652N x652C : Nat) (x653 : Int) (x654A : Option Addr) (x654N x654C : Nat), ((∀ w10, vS_1 w10 → w10.cell? ⟨w.heap.size, 0, none⟩ = some (.int .i64 x650)) ∧ (∀ w10, vS_1 w10 → w10.cell? ⟨w.heap.size, 1, none⟩ = some (.int .i64 x651)) ∧ (∀ w10, vS_1 w10 → w10.cell? ⟨w.heap.size, 2, none⟩ = some (.slice x652A x652N x652C)) ∧ (∀ w10, vS_1 w10 → w10.cell? ⟨w.heap.size, 3, none⟩ = some (.int .i64 x653)) ∧ (∀ w10, vS_1 w10 → w10.cell? ⟨w.heap.size, 4, none⟩ = some (.slice x654A x654N x654C))) ∧
 Calls Tryz.prog 20 #[(.agg #[(.int .i64 x650), (.int .i64 x651), (.slice x652A x652N x652C), (.int .i64 x653), (.slice x654A x654N x654C)])] w8 (Ret fun v_3 w11 => ∃ (x660 x661 : Int) (x662A : Option Addr) (x662N x662C : Nat) (x663 : Int) (x664A : Option Addr) (x664N x664C : Nat), v_3 = (.agg #[(.int .i64 x660), (.int .i64 x661), (.slice x662A x662N x662C), (.int .i64 x663), (.slice x664A x664N x664C)]) ∧
 vS_1 w11 ∧
 ∀ w12 : World, w12 = w11.alloc (.cells #[(.int .i64 x660), (.int .i64 x661), (.slice x662A x662N x662C), (.int .i64 x663), (.slice x664A x664N x664C)] 37 (0, 0)) →
 vS_1 w12 ∧
 ∃ (x68A : Option Addr) (x68N x68C : Nat), ∃ w13 : World, (Builtin.append_ #[43, 43] 43 #[(.slice x64A x64N x64C), (.slice (some ⟨w11.heap.size, 0, none⟩) 1 1)]).run Tryz.prog w12 = .ok (.slice x68A x68N x68C) w13 ∧
 vS_1 w13 ∧
 (Okc w13 ⟨wB, 1, none⟩) ∧ ∀ w14 : World, w14 = (w13.setCell ⟨wB, 1, none⟩ (.slice x68A x68N x68C)) →
 R (.int .i64 0) w14)))))))))))
theorem ward_Ward_Submit.calls (wB : Nat) (bB : Nat) (a0 : Int) (a1 : Int) (a2A : Option Addr) (a2N : Nat) (a2C : Nat) (a3 : Int) (a4A : Option Addr) (a4N : Nat) (a4C : Nat) {w : World} {R : Value → World → Prop} (h : ward_Ward_Submit.vc wB bB a0 a1 a2A a2N a2C a3 a4A a4N a4C w R) : Calls Tryz.prog 70 #[(.pointer (some (⟨wB, 0, none⟩ : Addr))), (.pointer (some (⟨bB, 0, none⟩ : Addr))), (.agg #[(.int .i64 a0), (.int .i64 a1), (.slice a2A a2N a2C), (.int .i64 a3), (.slice a4A a4N a4C)])] w (Ret R) :=
 calls_V fit Tryz.func70 (.k (.at_ 3 3 (.k .nil) (.at_ 3 8 (.k .nil) (.c .nil (.c .nil (.c .nil (.tk 0 (.tk 2 (.tk 3 (.tk 4 (.tk 5 (.alt 1 (.tk 6 (.tk 7 (.fin (.c .nil (.c .nil (.tk 0 (.tk 1 (.tk 2 (.tk 3 (.tk 4 (.tk 5 (.alt 6 (.alt 7 (.alt 8 (.tk 9 (.tk 10 (.last 11 (.fin .nil)))) .nil) .nil) .nil)))))))))))) .nil)))))))))))) (Eq.mpr (by kernel_rfl) h)
end Go.Proofs.YtkbikekbaboclaaGreat.Vc
