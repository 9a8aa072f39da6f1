import Derived.Test.YtpcddfhfchempaaVc
import Derived.Test.YtpcddfhfchempaaH
import Derived.Test.YtpcddfhfchempaaProg
import Derived.KernelRfl
set_option linter.unusedVariables false
set_option maxRecDepth 100000
namespace Go.Proofs.Ytpcddfhfchempaa.Vc
open Go Go.Proofs Go.Proofs.Ytpcddfhfchempaa.V
/-- function 16 -/
def coadjutorlaw22_entry.vc (n : Int) (w : World) (R : Value → World → Prop) : Prop :=
  ∀ w1 : World, w1 = w.alloc (.cells #[(.slice none 0 0), (.slice none 0 0)] 35 (0, 0)) →
  ∀ w2 : World, w2 = w1.alloc (.cells #[(.int .i64 n)] 3 (0, 0)) →
  ∀ w3 : World, w3 = w2.alloc (.cells #[(.slice (some (⟨w1.heap.size, 0, none⟩ : Addr)) 1 1)] 27 (0, 0)) →
  ∀ w4 : World, w4 = w3.alloc (.cells #[(.int .i64 (IntKind.i64.wrap (0 - n))), (.int .i64 n)] 3 (0, 0)) →
  ∀ w5 : World, w5 = w4.alloc (.cells #[(.slice (some (⟨w3.heap.size, 0, none⟩ : Addr)) 2 2)] 27 (0, 0)) →
  (((∃ u, w5.cell? (⟨w.heap.size, 0, none⟩ : Addr) = some u) ∧ w5.frozen? (⟨w.heap.size, 0, none⟩ : Addr) = false) ∧ ((∃ u, w5.cell? (⟨w.heap.size, 1, none⟩ : Addr) = some u) ∧ w5.frozen? (⟨w.heap.size, 1, none⟩ : Addr) = false)) ∧ ∀ w6 : World, w6 = ((w5.setCell (⟨w.heap.size, 0, none⟩ : Addr) (.slice (some (⟨w2.heap.size, 0, none⟩ : Addr)) 1 1)).setCell (⟨w.heap.size, 1, none⟩ : Addr) (.slice (some (⟨w4.heap.size, 0, none⟩ : Addr)) 1 1)) →
  ∃ (r00A : Option Addr), ∃ (r00N : Nat), ∃ (r00C : Nat), ∃ (r01A : Option Addr), ∃ (r01N : Nat), ∃ (r01C : Nat), (w6.cell? (⟨w.heap.size, 0, none⟩ : Addr) = some (.slice r00A r00N r00C) ∧ w6.cell? (⟨w.heap.size, 1, none⟩ : Addr) = some (.slice r01A r01N r01C)) ∧
  R (.agg #[(.slice r00A r00N r00C), (.slice r01A r01N r01C)]) w6
theorem coadjutorlaw22_entry.vc_eq (n : Int) (w : World) (R : Value → World → Prop) : fnV Try.prog Try.f16 .nil [(.int .i64 n)] w R = coadjutorlaw22_entry.vc n w R := by kernel_rfl
theorem coadjutorlaw22_entry.calls (n : Int) {w : World} {R : Value → World → Prop} (h : coadjutorlaw22_entry.vc n w R) : Calls Try.prog 16 #[(.int .i64 n)] w (Ret R) :=
  calls_V fit Try.func16 .nil (by rw [show (#[(.int .i64 n)] : Array Value).toList = [(.int .i64 n)] from rfl, coadjutorlaw22_entry.vc_eq]; exact h)
/-- function 11 -/
def coadjutorlaw22_awake.vc (w : World) (R : Value → World → Prop) : Prop :=
  Calls Try.prog 12 #[(.int .i64 2)] w (Ret fun v w1 => ∃ (x8 : Option Addr), v = (.pointer x8) ∧
  (x8.isNone = true →
  R (.bool false) w1) ∧
  (x8.isNone = false →
  Calls Try.prog 12 #[(.int .i64 0)] w1 (Ret fun v_1 w2 => ∃ (x12 : Option Addr), v_1 = (.pointer x12) ∧
  ((!x12.isNone) = true →
  R (.bool false) w2) ∧
  ((!x12.isNone) = false →
  Calls Try.prog 17 #[(.pointer x8), (.int .i64 7)] w2 (Ret fun v_2 w3 => ∃ (x17_0 : Int), ∃ (x17_1 : Int), v_2 = (.tuple #[(.int .i64 x17_0), (.int .i64 x17_1)]) ∧
  Calls Try.prog 16 #[(.int .i64 5)] w3 (Ret fun v_3 w4 => ∃ (x220A : Option Addr), ∃ (x220N : Nat), ∃ (x220C : Nat), ∃ (x221A : Option Addr), ∃ (x221N : Nat), ∃ (x221C : Nat), v_3 = (.agg #[(.slice x220A x220N x220C), (.slice x221A x221N x221C)]) ∧
  Calls Try.prog 15 #[(.pointer x8), (.int .i64 x17_0), (.agg #[(.slice x220A x220N x220C), (.slice x221A x221N x221C)])] w4 (Ret fun v_4 w5 => ∃ (x23 : Int), v_4 = (.int .i64 x23) ∧
  ∀ w6 : World, w6 = w5.alloc (.cells #[(.int .i64 x17_0)] 3 (0, 0)) →
  Calls Try.prog 13 #[(.pointer x8), (.slice (some (⟨w5.heap.size, 0, none⟩ : Addr)) 1 1)] w6 (Ret fun v_5 w7 => ∃ (x27 : Int), v_5 = (.int .i64 x27) ∧
  Calls Try.prog 16 #[(.int .i64 6)] w7 (Ret fun v_6 w8 => ∃ (x300A : Option Addr), ∃ (x300N : Nat), ∃ (x300C : Nat), ∃ (x301A : Option Addr), ∃ (x301N : Nat), ∃ (x301C : Nat), v_6 = (.agg #[(.slice x300A x300N x300C), (.slice x301A x301N x301C)]) ∧
  Calls Try.prog 15 #[(.pointer x8), (.int .i64 x17_0), (.agg #[(.slice x300A x300N x300C), (.slice x301A x301N x301C)])] w8 (Ret fun v_7 w9 => ∃ (x31 : Int), v_7 = (.int .i64 x31) ∧
  ∀ w10 : World, w10 = w9.alloc (.cells #[(.int .i64 x17_0), (.int .i64 x17_0)] 3 (0, 0)) →
  Calls Try.prog 14 #[(.pointer x8), (.slice (some (⟨w9.heap.size, 0, none⟩ : Addr)) 2 2)] w10 (Ret fun v_8 w11 => ∃ (x36 : Int), v_8 = (.int .i64 x36) ∧
  ((x17_0 == (0 : Int)) = true →
  ((x17_1 == (0 : Int)) = true →
  ((x23 == (0 : Int)) = true →
  ((x27 == (0 : Int)) = true →
  ((x31 == (7 : Int)) = true →
  ((x36 == (0 : Int)) = true →
  Calls Try.prog 19 #[(.pointer x8)] w11 (Ret fun v_9 w12 => ∃ (x61 : Int), v_9 = (.int .i64 x61) ∧
  ((x61 == (2 : Int)) = true →
  Calls Try.prog 29 #[(.pointer x8), (.int .i64 x17_0)] w12 (Ret fun v_10 w13 => ∃ (x67 : Int), v_10 = (.int .i64 x67) ∧
  ((x67 == (0 : Int)) = true →
  ∀ w14 : World, w14 = w13.alloc (.cells #[(.int .i64 x17_0)] 3 (0, 0)) →
  Calls Try.prog 14 #[(.pointer x8), (.slice (some (⟨w13.heap.size, 0, none⟩ : Addr)) 1 1)] w14 (Ret fun v_11 w15 => ∃ (x74 : Int), v_11 = (.int .i64 x74) ∧
  R (.bool (x74 == (8 : Int))) w15)) ∧
  ((x67 == (0 : Int)) = false →
  R (.bool false) w13))) ∧
  ((x61 == (2 : Int)) = false →
  R (.bool false) w12))) ∧
  ((x36 == (0 : Int)) = false →
  R (.bool false) w11)) ∧
  ((x31 == (7 : Int)) = false →
  R (.bool false) w11)) ∧
  ((x27 == (0 : Int)) = false →
  R (.bool false) w11)) ∧
  ((x23 == (0 : Int)) = false →
  R (.bool false) w11)) ∧
  ((x17_1 == (0 : Int)) = false →
  R (.bool false) w11)) ∧
  ((x17_0 == (0 : Int)) = false →
  R (.bool false) w11))))))))))))
theorem coadjutorlaw22_awake.vc_eq (w : World) (R : Value → World → Prop) : fnV Try.prog Try.f11 (.at_ 2 2 (.k .nil) (.c .nil (.at_ 9 2 (.at_ 9 6 (.at_ 9 10 (.at_ 9 14 (.at_ 9 18 (.at_ 9 22 (.at_ 9 27 (.at_ 9 33 .nil .nil) .nil) .nil) .nil) .nil) .nil) .nil) .nil))) [] w R = coadjutorlaw22_awake.vc  w R := by kernel_rfl
theorem coadjutorlaw22_awake.calls {w : World} {R : Value → World → Prop} (h : coadjutorlaw22_awake.vc  w R) : Calls Try.prog 11 #[] w (Ret R) :=
  calls_V fit Try.func11 (.at_ 2 2 (.k .nil) (.c .nil (.at_ 9 2 (.at_ 9 6 (.at_ 9 10 (.at_ 9 14 (.at_ 9 18 (.at_ 9 22 (.at_ 9 27 (.at_ 9 33 .nil .nil) .nil) .nil) .nil) .nil) .nil) .nil) .nil))) (by rw [show (#[] : Array Value).toList = [] from rfl, coadjutorlaw22_awake.vc_eq]; exact h)
/-- function 3 -/
def coadjutorlaw22_PagesUsers.vc (n : Int) (actsA : Option Addr) (actsN : Nat) (actsC : Nat) (w : World) (R : Value → World → Prop) : Prop :=
  Calls Try.prog 11 #[] w (Ret fun v w1 => ∃ (x13 : Bool), v = (.bool x13) ∧
  ((!x13) = true →
  R (.bool false) w1) ∧
  ((!x13) = false →
  (20 : Int) ≠ 0 ∧
  Calls Try.prog 12 #[(.int .i64 (IntKind.i64.wrap (1 + (IntKind.i64.wrap (Int.tmod (IntKind.u64.wrap n) 20)))))] w1 (Ret fun v_1 w2 => ∃ (x21 : Option Addr), v_1 = (.pointer x21) ∧
  ∃ J : World → Prop, (∃ vI : Int → Nat → World → Prop, (∃ vk_2 : Nat, vI 0 vk_2 w2) ∧
  ∀ (jk : Nat → Value) (i : Int), ∀ (vk : Nat) (w3 : World), vI i vk w3 →
  (decide (i < ((actsN : Nat) : Int)) = true →
  (decide (i < (60 : Int)) = true →
  ∃ J_1 : World → Prop, ((0 ≤ i ∧ i < ((actsN : Nat) : Int)) ∧ someV actsA fun p =>
  ∃ (x350 : Int), ∃ (x351 : Int), ∃ (x352 : Int), ∃ (x353A : Option Addr), ∃ (x353N : Nat), ∃ (x353C : Nat), (w3.cell? (p.add (i.toNat * 4)) = some (.int .i64 x350) ∧ w3.cell? ((p.add (i.toNat * 4)).add 1) = some (.int .i64 x351) ∧ w3.cell? ((p.add (i.toNat * 4)).add 2) = some (.int .i64 x352) ∧ w3.cell? ((p.add (i.toNat * 4)).add 3) = some (.slice x353A x353N x353C)) ∧
  ∀ w4 : World, w4 = w3.alloc (.cells #[(.int .i64 0), (.int .i64 0), (.int .i64 0), (.slice none 0 0)] 29 (0, 0)) →
  (((∃ u, w4.cell? (⟨w3.heap.size, 0, none⟩ : Addr) = some u) ∧ w4.frozen? (⟨w3.heap.size, 0, none⟩ : Addr) = false) ∧ ((∃ u, w4.cell? (⟨w3.heap.size, 1, none⟩ : Addr) = some u) ∧ w4.frozen? (⟨w3.heap.size, 1, none⟩ : Addr) = false) ∧ ((∃ u, w4.cell? (⟨w3.heap.size, 2, none⟩ : Addr) = some u) ∧ w4.frozen? (⟨w3.heap.size, 2, none⟩ : Addr) = false) ∧ ((∃ u, w4.cell? (⟨w3.heap.size, 3, none⟩ : Addr) = some u) ∧ w4.frozen? (⟨w3.heap.size, 3, none⟩ : Addr) = false)) ∧ ∀ w5 : World, w5 = ((((w4.setCell (⟨w3.heap.size, 0, none⟩ : Addr) (.int .i64 x350)).setCell (⟨w3.heap.size, 1, none⟩ : Addr) (.int .i64 x351)).setCell (⟨w3.heap.size, 2, none⟩ : Addr) (.int .i64 x352)).setCell (⟨w3.heap.size, 3, none⟩ : Addr) (.slice x353A x353N x353C)) →
  ∃ (x37A : Option Addr), ∃ (x37N : Nat), ∃ (x37C : Nat), w5.cell? (⟨w3.heap.size, 3, none⟩ : Addr) = some (.slice x37A x37N x37C) ∧
  (decide (((x37N : Nat) : Int) > (10 : Int)) = true →
  R (.bool true) w5) ∧
  (decide (((x37N : Nat) : Int) > (10 : Int)) = false →
  ∃ (x41 : Int), w5.cell? (⟨w3.heap.size, 0, none⟩ : Addr) = some (.int .i64 x41) ∧
  ((x41 == (3 : Int)) = true →
  ∃ (x54A : Option Addr), ∃ (x54N : Nat), ∃ (x54C : Nat), w5.cell? (⟨w3.heap.size, 3, none⟩ : Addr) = some (.slice x54A x54N x54C) ∧
  Calls Try.prog 13 #[(.pointer x21), (.slice x54A x54N x54C)] w5 (Ret fun v_2 w6 => ∃ (x55 : Int), v_2 = (.int .i64 x55) ∧
  J_1 w6)) ∧
  ((x41 == (3 : Int)) = false →
  ((x41 == (4 : Int)) = true →
  ∃ (x60A : Option Addr), ∃ (x60N : Nat), ∃ (x60C : Nat), w5.cell? (⟨w3.heap.size, 3, none⟩ : Addr) = some (.slice x60A x60N x60C) ∧
  Calls Try.prog 14 #[(.pointer x21), (.slice x60A x60N x60C)] w5 (Ret fun v_3 w7 => ∃ (x61 : Int), v_3 = (.int .i64 x61) ∧
  J_1 w7)) ∧
  ((x41 == (4 : Int)) = false →
  ((x41 == (5 : Int)) = true →
  ((x41 == (5 : Int)) = true →
  ∃ vS : World → Prop, ∀ w8 : World, w8 = w5.drew → vS w8 ∧
  ∃ (x68 : Int), (∀ w9, vS w9 → w9.cell? (⟨w3.heap.size, 1, none⟩ : Addr) = some (.int .i64 x68)) ∧
  ∃ (x70 : Int), (∀ w10, vS w10 → w10.cell? (⟨w3.heap.size, 2, none⟩ : Addr) = some (.int .i64 x70)) ∧
  Calls Try.prog 16 #[(.int .i64 x70)] w8 (Ret fun v_4 w11 => ∃ (x710A : Option Addr), ∃ (x710N : Nat), ∃ (x710C : Nat), ∃ (x711A : Option Addr), ∃ (x711N : Nat), ∃ (x711C : Nat), v_4 = (.agg #[(.slice x710A x710N x710C), (.slice x711A x711N x711C)]) ∧
  vS w11 ∧
  Calls Try.prog 15 #[(.pointer x21), (.int .i64 x68), (.agg #[(.slice x710A x710N x710C), (.slice x711A x711N x711C)])] w11 (Ret fun v_5 w12 => ∃ (x72 : Int), v_5 = (.int .i64 x72) ∧
  vS w12 ∧
  J_1 w12))) ∧
  ((x41 == (5 : Int)) = false →
  ∃ (x44 : Int), w5.cell? (⟨w3.heap.size, 2, none⟩ : Addr) = some (.int .i64 x44) ∧
  (4 : Int) ≠ 0 ∧
  Calls Try.prog 17 #[(.pointer x21), (.int .i64 (IntKind.i64.wrap (1 + (IntKind.i64.wrap (Int.tmod (IntKind.u64.wrap x44) 4)))))] w5 (Ret fun v_6 w13 => ∃ (x49_0 : Int), ∃ (x49_1 : Int), v_6 = (.tuple #[(.int .i64 x49_0), (.int .i64 x49_1)]) ∧
  J_1 w13))) ∧
  ((x41 == (5 : Int)) = false →
  ((x41 == (6 : Int)) = true →
  ((x41 == (6 : Int)) = true →
  ∃ vS_1 : World → Prop, ∀ w14 : World, w14 = w5.drew → vS_1 w14 ∧
  ∃ (x68_1 : Int), (∀ w15, vS_1 w15 → w15.cell? (⟨w3.heap.size, 1, none⟩ : Addr) = some (.int .i64 x68_1)) ∧
  ∃ (x70_1 : Int), (∀ w16, vS_1 w16 → w16.cell? (⟨w3.heap.size, 2, none⟩ : Addr) = some (.int .i64 x70_1)) ∧
  Calls Try.prog 16 #[(.int .i64 x70_1)] w14 (Ret fun v_7 w17 => ∃ (x710A_1 : Option Addr), ∃ (x710N_1 : Nat), ∃ (x710C_1 : Nat), ∃ (x711A_1 : Option Addr), ∃ (x711N_1 : Nat), ∃ (x711C_1 : Nat), v_7 = (.agg #[(.slice x710A_1 x710N_1 x710C_1), (.slice x711A_1 x711N_1 x711C_1)]) ∧
  vS_1 w17 ∧
  Calls Try.prog 15 #[(.pointer x21), (.int .i64 x68_1), (.agg #[(.slice x710A_1 x710N_1 x710C_1), (.slice x711A_1 x711N_1 x711C_1)])] w17 (Ret fun v_8 w18 => ∃ (x72_1 : Int), v_8 = (.int .i64 x72_1) ∧
  vS_1 w18 ∧
  J_1 w18))) ∧
  ((x41 == (6 : Int)) = false →
  ∃ (x44_1 : Int), w5.cell? (⟨w3.heap.size, 2, none⟩ : Addr) = some (.int .i64 x44_1) ∧
  (4 : Int) ≠ 0 ∧
  Calls Try.prog 17 #[(.pointer x21), (.int .i64 (IntKind.i64.wrap (1 + (IntKind.i64.wrap (Int.tmod (IntKind.u64.wrap x44_1) 4)))))] w5 (Ret fun v_9 w19 => ∃ (x49_0_1 : Int), ∃ (x49_1_1 : Int), v_9 = (.tuple #[(.int .i64 x49_0_1), (.int .i64 x49_1_1)]) ∧
  J_1 w19))) ∧
  ((x41 == (6 : Int)) = false →
  ((x41 == (7 : Int)) = true →
  ∃ vS_2 : World → Prop, ∀ w20 : World, w20 = w5.drew → vS_2 w20 ∧
  ∃ (x68_2 : Int), (∀ w21, vS_2 w21 → w21.cell? (⟨w3.heap.size, 1, none⟩ : Addr) = some (.int .i64 x68_2)) ∧
  ∃ (x70_2 : Int), (∀ w22, vS_2 w22 → w22.cell? (⟨w3.heap.size, 2, none⟩ : Addr) = some (.int .i64 x70_2)) ∧
  Calls Try.prog 16 #[(.int .i64 x70_2)] w20 (Ret fun v_10 w23 => ∃ (x710A_2 : Option Addr), ∃ (x710N_2 : Nat), ∃ (x710C_2 : Nat), ∃ (x711A_2 : Option Addr), ∃ (x711N_2 : Nat), ∃ (x711C_2 : Nat), v_10 = (.agg #[(.slice x710A_2 x710N_2 x710C_2), (.slice x711A_2 x711N_2 x711C_2)]) ∧
  vS_2 w23 ∧
  Calls Try.prog 15 #[(.pointer x21), (.int .i64 x68_2), (.agg #[(.slice x710A_2 x710N_2 x710C_2), (.slice x711A_2 x711N_2 x711C_2)])] w23 (Ret fun v_11 w24 => ∃ (x72_2 : Int), v_11 = (.int .i64 x72_2) ∧
  vS_2 w24 ∧
  J_1 w24))) ∧
  ((x41 == (7 : Int)) = false →
  ∃ (x44_2 : Int), w5.cell? (⟨w3.heap.size, 2, none⟩ : Addr) = some (.int .i64 x44_2) ∧
  (4 : Int) ≠ 0 ∧
  Calls Try.prog 17 #[(.pointer x21), (.int .i64 (IntKind.i64.wrap (1 + (IntKind.i64.wrap (Int.tmod (IntKind.u64.wrap x44_2) 4)))))] w5 (Ret fun v_12 w25 => ∃ (x49_0_2 : Int), ∃ (x49_1_2 : Int), v_12 = (.tuple #[(.int .i64 x49_0_2), (.int .i64 x49_1_2)]) ∧
  J_1 w25)))))))) ∧
  ∀ (jk : Nat → Value), ∀ w26 : World, J_1 w26 →
  ∃ vk_1 : Nat, vk_1 < vk ∧ vI (IntKind.i64.wrap (i + 1)) vk_1 w26) ∧
  (decide (i < (60 : Int)) = false →
  J w3)) ∧
  (decide (i < ((actsN : Nat) : Int)) = false →
  J w3)) ∧
  ∀ (jk : Nat → Value), ∀ w27 : World, J w27 →
  ∃ vI_1 : Int → Int → Nat → World → Prop, (∃ vk_5 : Nat, vI_1 0 1 vk_5 w27) ∧
  ∀ (jk : Nat → Value) (used : Int) (v_13 : Int), ∀ (vk_3 : Nat) (w28 : World), vI_1 used v_13 vk_3 w28 →
  (decide (v_13 ≤ (4 : Int)) = true →
  Calls Try.prog 18 #[(.pointer x21), (.int .i64 v_13)] w28 (Ret fun v_14 w29 => ∃ (x80A : Option Addr), ∃ (x80N : Nat), ∃ (x80C : Nat), v_14 = (.slice x80A x80N x80C) ∧
  ∃ vk_4 : Nat, vk_4 < vk_3 ∧ vI_1 (IntKind.i64.wrap (used + ((x80N : Nat) : Int))) (IntKind.i64.wrap (v_13 + 1)) vk_4 w29)) ∧
  (decide (v_13 ≤ (4 : Int)) = false →
  Calls Try.prog 19 #[(.pointer x21)] w28 (Ret fun v_15 w30 => ∃ (x85 : Int), v_15 = (.int .i64 x85) ∧
  (((IntKind.i64.wrap (used + x85)) != (IntKind.i64.wrap (1 + (IntKind.i64.wrap (Int.tmod (IntKind.u64.wrap n) 20))))) = true →
  R (.bool false) w30) ∧
  (((IntKind.i64.wrap (used + x85)) != (IntKind.i64.wrap (1 + (IntKind.i64.wrap (Int.tmod (IntKind.u64.wrap n) 20))))) = false →
  ∃ vI_2 : Int → Nat → World → Prop, (∃ vk_8 : Nat, vI_2 0 vk_8 w30) ∧
  ∀ (jk : Nat → Value) (id : Int), ∀ (vk_6 : Nat) (w31 : World), vI_2 id vk_6 w31 →
  (decide (id < (IntKind.i64.wrap (1 + (IntKind.i64.wrap (Int.tmod (IntKind.u64.wrap n) 20))))) = true →
  ∃ vI_3 : Nat → World → Prop, (∃ vk_11 : Nat, vI_3 vk_11 w31) ∧
  ∀ (jk : Nat → Value), ∀ (vk_9 : Nat) (w32 : World), vI_3 vk_9 w32 →
  Calls Try.prog 20 #[(.pointer x21), (.int .i64 id)] w32 (Ret fun v_16 w33 => ∃ (x96 : Int), v_16 = (.int .i64 x96) ∧
  (decide (x96 > (0 : Int)) = true →
  Calls Try.prog 20 #[(.pointer x21), (.int .i64 id)] w33 (Ret fun v_17 w34 => ∃ (x100 : Int), v_17 = (.int .i64 x100) ∧
  ∀ w35 : World, w35 = w34.alloc (.cells #[(.int .i64 id)] 3 (0, 0)) →
  Calls Try.prog 14 #[(.pointer x21), (.slice (some (⟨w34.heap.size, 0, none⟩ : Addr)) 1 1)] w35 (Ret fun v_18 w36 => ∃ (x104 : Int), v_18 = (.int .i64 x104) ∧
  ((x104 != (0 : Int)) = true →
  R (.bool false) w36) ∧
  ((x104 != (0 : Int)) = false →
  Calls Try.prog 20 #[(.pointer x21), (.int .i64 id)] w36 (Ret fun v_19 w37 => ∃ (x109 : Int), v_19 = (.int .i64 x109) ∧
  ((x109 != (IntKind.i64.wrap (x100 - 1))) = true →
  R (.bool false) w37) ∧
  ((x109 != (IntKind.i64.wrap (x100 - 1))) = false →
  ∃ vk_10 : Nat, vk_10 < vk_9 ∧ vI_3 vk_10 w37)))))) ∧
  (decide (x96 > (0 : Int)) = false →
  ∃ vk_7 : Nat, vk_7 < vk_6 ∧ vI_2 (IntKind.i64.wrap (id + 1)) vk_7 w33))) ∧
  (decide (id < (IntKind.i64.wrap (1 + (IntKind.i64.wrap (Int.tmod (IntKind.u64.wrap n) 20))))) = false →
  Calls Try.prog 19 #[(.pointer x21)] w31 (Ret fun v_20 w38 => ∃ (x115 : Int), v_20 = (.int .i64 x115) ∧
  ((x115 == (IntKind.i64.wrap (1 + (IntKind.i64.wrap (Int.tmod (IntKind.u64.wrap n) 20))))) = true →
  Calls Try.prog 18 #[(.pointer x21), (.int .i64 1)] w38 (Ret fun v_21 w39 => ∃ (x120A : Option Addr), ∃ (x120N : Nat), ∃ (x120C : Nat), v_21 = (.slice x120A x120N x120C) ∧
  R (.bool (((x120N : Nat) : Int) == (0 : Int))) w39)) ∧
  ((x115 == (IntKind.i64.wrap (1 + (IntKind.i64.wrap (Int.tmod (IntKind.u64.wrap n) 20))))) = false →
  R (.bool false) w38)))))))))
theorem coadjutorlaw22_PagesUsers.vc_eq (n : Int) (actsA : Option Addr) (actsN : Nat) (actsC : Nat) (w : World) (R : Value → World → Prop) : fnV Try.prog Try.f3 (.c .nil (.cut 2 [(4, none), (7, none), (8, none), (22, none), (23, none), (24, none), (25, none), (26, none), (27, none), (28, none), (29, none), (30, none), (31, none), (32, none), (33, none), (34, none), (35, none), (36, none), (37, none), (38, none), (39, none), (40, none), (41, none), (42, none), (43, none), (44, none), (45, none), (46, none), (47, none), (48, none), (49, none), (50, none), (51, none), (52, none), (53, none), (54, none), (55, none), (56, none), (57, none), (58, none), (59, none), (60, none), (61, none), (62, none), (63, none), (64, none), (65, none), (66, none), (67, none), (68, none), (69, none), (70, none), (71, none), (72, none)] (.lp [(4, none), (7, some (.int .i64)), (8, none), (22, none), (23, none), (24, none), (25, none), (26, none), (27, none), (28, none), (29, none), (30, none), (31, none), (32, none), (33, none), (34, none), (35, none), (36, none), (37, none), (38, none), (39, none), (40, none), (41, none), (42, none), (43, none), (44, none), (45, none), (46, none), (47, none), (48, none), (49, none), (50, none), (51, none), (52, none), (53, none), (54, none), (55, none), (56, none), (57, none), (58, none), (59, none), (60, none), (61, none), (62, none), (63, none), (64, none), (65, none), (66, none), (67, none), (68, none), (69, none), (70, none), (71, none), (72, none)] (.at_ 6 4 (.c (.cut 0 [(4, none), (8, none), (32, none), (33, none), (34, none), (35, none), (36, none), (37, none), (38, none), (39, none), (40, none), (41, none), (42, none), (43, none), (44, none), (45, none), (46, none), (47, none), (48, none), (49, none), (50, none), (51, none), (52, none), (53, none), (54, none), (55, none), (56, none), (57, none), (58, none), (59, none), (60, none), (61, none), (62, none), (63, none), (64, none), (65, none), (66, none), (67, none), (68, none), (69, none), (70, none), (71, none), (72, none)] (.c .nil (.c .nil (.c .nil (.c (.c (.tk 0 (.tk 1 (.tk 2 (.tk 3 (.tk 4 (.alt 5 (.alt 6 (.fin .nil) .nil) .nil)))))) .nil) (.c (.c (.tk 0 (.tk 1 (.tk 2 (.tk 3 (.tk 4 (.alt 5 (.alt 6 (.fin .nil) .nil) .nil)))))) .nil) (.c (.tk 0 (.tk 1 (.tk 2 (.tk 3 (.tk 4 (.alt 5 (.alt 6 (.fin .nil) .nil) .nil)))))) .nil)))))) .nil) .nil) (.k .nil))) (.lp [(9, some (.int .i64)), (10, some (.int .i64)), (73, none), (74, none), (75, none), (76, none), (77, none), (78, none), (79, none), (80, none), (81, none), (82, none)] (.c .nil (.c .nil (.lp [(4, none), (11, some (.int .i64)), (12, none), (89, none), (90, none), (91, none), (92, none), (93, none), (94, none), (95, none), (96, none), (97, none), (98, none), (99, none), (100, none), (101, none), (102, none), (103, none), (104, none), (105, none), (106, none), (107, none), (108, none), (109, none), (110, none), (111, none), (112, none), (113, none)] (.c (.lp [(4, none), (12, none), (94, none), (95, none), (96, none), (97, none), (98, none), (99, none), (100, none), (101, none), (102, none), (103, none), (104, none), (105, none), (106, none), (107, none), (108, none), (109, none), (110, none), (111, none), (112, none), (113, none)] (.c (.at_ 33 5 (.k .nil) (.c .nil .nil)) .nil)) (.at_ 35 4 .nil .nil)))))))) [(.int .i64 n), (.slice actsA actsN actsC)] w R = coadjutorlaw22_PagesUsers.vc n actsA actsN actsC w R := by kernel_rfl
theorem coadjutorlaw22_PagesUsers.calls (n : Int) (actsA : Option Addr) (actsN : Nat) (actsC : Nat) {w : World} {R : Value → World → Prop} (h : coadjutorlaw22_PagesUsers.vc n actsA actsN actsC w R) : Calls Try.prog 3 #[(.int .i64 n), (.slice actsA actsN actsC)] w (Ret R) :=
  calls_V fit Try.func3 (.c .nil (.cut 2 [(4, none), (7, none), (8, none), (22, none), (23, none), (24, none), (25, none), (26, none), (27, none), (28, none), (29, none), (30, none), (31, none), (32, none), (33, none), (34, none), (35, none), (36, none), (37, none), (38, none), (39, none), (40, none), (41, none), (42, none), (43, none), (44, none), (45, none), (46, none), (47, none), (48, none), (49, none), (50, none), (51, none), (52, none), (53, none), (54, none), (55, none), (56, none), (57, none), (58, none), (59, none), (60, none), (61, none), (62, none), (63, none), (64, none), (65, none), (66, none), (67, none), (68, none), (69, none), (70, none), (71, none), (72, none)] (.lp [(4, none), (7, some (.int .i64)), (8, none), (22, none), (23, none), (24, none), (25, none), (26, none), (27, none), (28, none), (29, none), (30, none), (31, none), (32, none), (33, none), (34, none), (35, none), (36, none), (37, none), (38, none), (39, none), (40, none), (41, none), (42, none), (43, none), (44, none), (45, none), (46, none), (47, none), (48, none), (49, none), (50, none), (51, none), (52, none), (53, none), (54, none), (55, none), (56, none), (57, none), (58, none), (59, none), (60, none), (61, none), (62, none), (63, none), (64, none), (65, none), (66, none), (67, none), (68, none), (69, none), (70, none), (71, none), (72, none)] (.at_ 6 4 (.c (.cut 0 [(4, none), (8, none), (32, none), (33, none), (34, none), (35, none), (36, none), (37, none), (38, none), (39, none), (40, none), (41, none), (42, none), (43, none), (44, none), (45, none), (46, none), (47, none), (48, none), (49, none), (50, none), (51, none), (52, none), (53, none), (54, none), (55, none), (56, none), (57, none), (58, none), (59, none), (60, none), (61, none), (62, none), (63, none), (64, none), (65, none), (66, none), (67, none), (68, none), (69, none), (70, none), (71, none), (72, none)] (.c .nil (.c .nil (.c .nil (.c (.c (.tk 0 (.tk 1 (.tk 2 (.tk 3 (.tk 4 (.alt 5 (.alt 6 (.fin .nil) .nil) .nil)))))) .nil) (.c (.c (.tk 0 (.tk 1 (.tk 2 (.tk 3 (.tk 4 (.alt 5 (.alt 6 (.fin .nil) .nil) .nil)))))) .nil) (.c (.tk 0 (.tk 1 (.tk 2 (.tk 3 (.tk 4 (.alt 5 (.alt 6 (.fin .nil) .nil) .nil)))))) .nil)))))) .nil) .nil) (.k .nil))) (.lp [(9, some (.int .i64)), (10, some (.int .i64)), (73, none), (74, none), (75, none), (76, none), (77, none), (78, none), (79, none), (80, none), (81, none), (82, none)] (.c .nil (.c .nil (.lp [(4, none), (11, some (.int .i64)), (12, none), (89, none), (90, none), (91, none), (92, none), (93, none), (94, none), (95, none), (96, none), (97, none), (98, none), (99, none), (100, none), (101, none), (102, none), (103, none), (104, none), (105, none), (106, none), (107, none), (108, none), (109, none), (110, none), (111, none), (112, none), (113, none)] (.c (.lp [(4, none), (12, none), (94, none), (95, none), (96, none), (97, none), (98, none), (99, none), (100, none), (101, none), (102, none), (103, none), (104, none), (105, none), (106, none), (107, none), (108, none), (109, none), (110, none), (111, none), (112, none), (113, none)] (.c (.at_ 33 5 (.k .nil) (.c .nil .nil)) .nil)) (.at_ 35 4 .nil .nil)))))))) (by rw [show (#[(.int .i64 n), (.slice actsA actsN actsC)] : Array Value).toList = [(.int .i64 n), (.slice actsA actsN actsC)] from rfl, coadjutorlaw22_PagesUsers.vc_eq]; exact h)
end Go.Proofs.Ytpcddfhfchempaa.Vc
