import Derived.Test.YtpcddfhfchempaaVc
import Derived.Test.YtpcddfhfchempaaH
import Derived.Test.YtpcddfhfchempaaProg
import Derived.KernelRfl
set_option linter.unusedVariables false
set_option maxRecDepth 100000
namespace Go.Proofs.Ytpcddfhfchempaa.Vc
open Go Go.Proofs Go.Proofs.Ytpcddfhfchempaa.V
/-- function 90 -/
def patch_read.vc (eB : Nat) (w : World) (R : Value → World → Prop) : Prop :=
  ∀ w1 : World, w1 = w.alloc (.cells #[(.int .i64 0), (.int .i64 0), (.int .i64 0), (.string ByteArray.empty)] 126 (0, 0)) →
  Calls Try.prog 108 #[(.pointer (some (⟨eB, 0, none⟩ : Addr)))] w1 (Ret fun v w2 => ∃ (x5 : Int), v = (.int .u8 x5) ∧
  ∀ w3 : World, w3 = w2.alloc (.cells #[(.int .i64 0), (.int .i64 0), (.int .i64 0), (.string ByteArray.empty)] 126 (0, 0)) →
  (((∃ u, w3.cell? (⟨w2.heap.size, 0, none⟩ : Addr) = some u) ∧ w3.frozen? (⟨w2.heap.size, 0, none⟩ : Addr) = false) ∧ ((∃ u, w3.cell? (⟨w2.heap.size, 1, none⟩ : Addr) = some u) ∧ w3.frozen? (⟨w2.heap.size, 1, none⟩ : Addr) = false) ∧ ((∃ u, w3.cell? (⟨w2.heap.size, 2, none⟩ : Addr) = some u) ∧ w3.frozen? (⟨w2.heap.size, 2, none⟩ : Addr) = false) ∧ ((∃ u, w3.cell? (⟨w2.heap.size, 3, none⟩ : Addr) = some u) ∧ w3.frozen? (⟨w2.heap.size, 3, none⟩ : Addr) = false)) ∧ ∀ w4 : World, w4 = ((((w3.setCell (⟨w2.heap.size, 0, none⟩ : Addr) (.int .i64 (IntKind.i64.wrap x5))).setCell (⟨w2.heap.size, 1, none⟩ : Addr) (.int .i64 0)).setCell (⟨w2.heap.size, 2, none⟩ : Addr) (.int .i64 0)).setCell (⟨w2.heap.size, 3, none⟩ : Addr) (.string ByteArray.empty)) →
  ∃ J : World → Prop, (∃ (x9 : Int), w4.cell? (⟨w2.heap.size, 0, none⟩ : Addr) = some (.int .i64 x9) ∧
  ((x9 != (2 : Int)) = true →
  Calls Try.prog 89 #[(.pointer (some (⟨eB, 0, none⟩ : Addr))), (.int .i64 2147483647)] w4 (Ret fun v_1 w5 => ∃ (x12 : Int), v_1 = (.int .i64 x12) ∧
  (((∃ u, w5.cell? (⟨w2.heap.size, 1, none⟩ : Addr) = some u) ∧ w5.frozen? (⟨w2.heap.size, 1, none⟩ : Addr) = false)) ∧ ∀ w6 : World, w6 = (w5.setCell (⟨w2.heap.size, 1, none⟩ : Addr) (.int .i64 x12)) →
  J w6)) ∧
  ((x9 != (2 : Int)) = false →
  J w4)) ∧
  ∀ (jk : Nat → Value), ∀ w7 : World, J w7 →
  ∃ (x15 : Int), w7.cell? (⟨w2.heap.size, 0, none⟩ : Addr) = some (.int .i64 x15) ∧
  ((x15 == (1 : Int)) = true →
  Calls Try.prog 89 #[(.pointer (some (⟨eB, 0, none⟩ : Addr))), (.int .i64 2147483647)] w7 (Ret fun v_2 w8 => ∃ (x18 : Int), v_2 = (.int .i64 x18) ∧
  (((∃ u, w8.cell? (⟨w2.heap.size, 2, none⟩ : Addr) = some u) ∧ w8.frozen? (⟨w2.heap.size, 2, none⟩ : Addr) = false)) ∧ ∀ w9 : World, w9 = (w8.setCell (⟨w2.heap.size, 2, none⟩ : Addr) (.int .i64 x18)) →
  ∃ (x230 : Int), ∃ (x231 : Int), ∃ (x232 : Int), ∃ (x233 : ByteArray), (w9.cell? (⟨w2.heap.size, 0, none⟩ : Addr) = some (.int .i64 x230) ∧ w9.cell? (⟨w2.heap.size, 1, none⟩ : Addr) = some (.int .i64 x231) ∧ w9.cell? (⟨w2.heap.size, 2, none⟩ : Addr) = some (.int .i64 x232) ∧ w9.cell? (⟨w2.heap.size, 3, none⟩ : Addr) = some (.string x233)) ∧
  (((∃ u, w9.cell? (⟨w.heap.size, 0, none⟩ : Addr) = some u) ∧ w9.frozen? (⟨w.heap.size, 0, none⟩ : Addr) = false) ∧ ((∃ u, w9.cell? (⟨w.heap.size, 1, none⟩ : Addr) = some u) ∧ w9.frozen? (⟨w.heap.size, 1, none⟩ : Addr) = false) ∧ ((∃ u, w9.cell? (⟨w.heap.size, 2, none⟩ : Addr) = some u) ∧ w9.frozen? (⟨w.heap.size, 2, none⟩ : Addr) = false) ∧ ((∃ u, w9.cell? (⟨w.heap.size, 3, none⟩ : Addr) = some u) ∧ w9.frozen? (⟨w.heap.size, 3, none⟩ : Addr) = false)) ∧ ∀ w10 : World, w10 = ((((w9.setCell (⟨w.heap.size, 0, none⟩ : Addr) (.int .i64 x230)).setCell (⟨w.heap.size, 1, none⟩ : Addr) (.int .i64 x231)).setCell (⟨w.heap.size, 2, none⟩ : Addr) (.int .i64 x232)).setCell (⟨w.heap.size, 3, none⟩ : Addr) (.string x233)) →
  ∃ (r00 : Int), ∃ (r01 : Int), ∃ (r02 : Int), ∃ (r03 : ByteArray), (w10.cell? (⟨w.heap.size, 0, none⟩ : Addr) = some (.int .i64 r00) ∧ w10.cell? (⟨w.heap.size, 1, none⟩ : Addr) = some (.int .i64 r01) ∧ w10.cell? (⟨w.heap.size, 2, none⟩ : Addr) = some (.int .i64 r02) ∧ w10.cell? (⟨w.heap.size, 3, none⟩ : Addr) = some (.string r03)) ∧
  R (.agg #[(.int .i64 r00), (.int .i64 r01), (.int .i64 r02), (.string r03)]) w10)) ∧
  ((x15 == (1 : Int)) = false →
  Calls Try.prog 109 #[(.pointer (some (⟨eB, 0, none⟩ : Addr))), (.int .i64 8192)] w7 (Ret fun v_3 w11 => ∃ (x21 : ByteArray), v_3 = (.string x21) ∧
  (((∃ u, w11.cell? (⟨w2.heap.size, 3, none⟩ : Addr) = some u) ∧ w11.frozen? (⟨w2.heap.size, 3, none⟩ : Addr) = false)) ∧ ∀ w12 : World, w12 = (w11.setCell (⟨w2.heap.size, 3, none⟩ : Addr) (.string x21)) →
  ∃ (x230_1 : Int), ∃ (x231_1 : Int), ∃ (x232_1 : Int), ∃ (x233_1 : ByteArray), (w12.cell? (⟨w2.heap.size, 0, none⟩ : Addr) = some (.int .i64 x230_1) ∧ w12.cell? (⟨w2.heap.size, 1, none⟩ : Addr) = some (.int .i64 x231_1) ∧ w12.cell? (⟨w2.heap.size, 2, none⟩ : Addr) = some (.int .i64 x232_1) ∧ w12.cell? (⟨w2.heap.size, 3, none⟩ : Addr) = some (.string x233_1)) ∧
  (((∃ u, w12.cell? (⟨w.heap.size, 0, none⟩ : Addr) = some u) ∧ w12.frozen? (⟨w.heap.size, 0, none⟩ : Addr) = false) ∧ ((∃ u, w12.cell? (⟨w.heap.size, 1, none⟩ : Addr) = some u) ∧ w12.frozen? (⟨w.heap.size, 1, none⟩ : Addr) = false) ∧ ((∃ u, w12.cell? (⟨w.heap.size, 2, none⟩ : Addr) = some u) ∧ w12.frozen? (⟨w.heap.size, 2, none⟩ : Addr) = false) ∧ ((∃ u, w12.cell? (⟨w.heap.size, 3, none⟩ : Addr) = some u) ∧ w12.frozen? (⟨w.heap.size, 3, none⟩ : Addr) = false)) ∧ ∀ w13 : World, w13 = ((((w12.setCell (⟨w.heap.size, 0, none⟩ : Addr) (.int .i64 x230_1)).setCell (⟨w.heap.size, 1, none⟩ : Addr) (.int .i64 x231_1)).setCell (⟨w.heap.size, 2, none⟩ : Addr) (.int .i64 x232_1)).setCell (⟨w.heap.size, 3, none⟩ : Addr) (.string x233_1)) →
  ∃ (r00_1 : Int), ∃ (r01_1 : Int), ∃ (r02_1 : Int), ∃ (r03_1 : ByteArray), (w13.cell? (⟨w.heap.size, 0, none⟩ : Addr) = some (.int .i64 r00_1) ∧ w13.cell? (⟨w.heap.size, 1, none⟩ : Addr) = some (.int .i64 r01_1) ∧ w13.cell? (⟨w.heap.size, 2, none⟩ : Addr) = some (.int .i64 r02_1) ∧ w13.cell? (⟨w.heap.size, 3, none⟩ : Addr) = some (.string r03_1)) ∧
  R (.agg #[(.int .i64 r00_1), (.int .i64 r01_1), (.int .i64 r02_1), (.string r03_1)]) w13)))
theorem patch_read.vc_eq (eB : Nat) (w : World) (R : Value → World → Prop) : fnV Try.prog Try.f90 (.cut 2 [(8, none), (9, none), (10, none), (11, none), (12, none), (13, none)] (.c .nil .nil) (.c .nil .nil)) [(.pointer (some (⟨eB, 0, none⟩ : Addr)))] w R = patch_read.vc eB w R := by kernel_rfl
theorem patch_read.calls (eB : Nat) {w : World} {R : Value → World → Prop} (h : patch_read.vc eB w R) : Calls Try.prog 90 #[(.pointer (some (⟨eB, 0, none⟩ : Addr)))] w (Ret R) :=
  calls_V fit Try.func90 (.cut 2 [(8, none), (9, none), (10, none), (11, none), (12, none), (13, none)] (.c .nil .nil) (.c .nil .nil)) (by rw [show (#[(.pointer (some (⟨eB, 0, none⟩ : Addr)))] : Array Value).toList = [(.pointer (some (⟨eB, 0, none⟩ : Addr)))] from rfl, patch_read.vc_eq]; exact h)
/-- function 55 -/
def patch_Parse.vc (s : ByteArray) (w : World) (R : Value → World → Prop) : Prop :=
  Calls Try.prog 88 #[(.string s)] w (Ret fun v w1 => ∃ (x10 : Option Addr), v = (.pointer x10) ∧
  Calls Try.prog 89 #[(.pointer x10), (.int .i64 256)] w1 (Ret fun v_1 w2 => ∃ (x12 : Int), v_1 = (.int .i64 x12) ∧
  ∃ vI : Option Addr → Nat → Nat → Int → Nat → World → Prop, (∃ vk_2 : Nat, vI none 0 0 0 vk_2 w2) ∧
  ∀ (jk : Nat → Value) (outA : Option Addr) (outN : Nat) (outC : Nat) (x14 : Int), ∀ (vk : Nat) (w3 : World), vI outA outN outC x14 vk w3 →
  (decide (x14 < x12) = true →
  Calls Try.prog 90 #[(.pointer x10)] w3 (Ret fun v_2 w4 => ∃ (x170 : Int), ∃ (x171 : Int), ∃ (x172 : Int), ∃ (x173 : ByteArray), v_2 = (.agg #[(.int .i64 x170), (.int .i64 x171), (.int .i64 x172), (.string x173)]) ∧
  ∀ w5 : World, w5 = w4.alloc (.cells #[(.int .i64 0), (.int .i64 0), (.int .i64 0), (.string ByteArray.empty)] 126 (0, 0)) →
  (((∃ u, w5.cell? (⟨w4.heap.size, 0, none⟩ : Addr) = some u) ∧ w5.frozen? (⟨w4.heap.size, 0, none⟩ : Addr) = false) ∧ ((∃ u, w5.cell? (⟨w4.heap.size, 1, none⟩ : Addr) = some u) ∧ w5.frozen? (⟨w4.heap.size, 1, none⟩ : Addr) = false) ∧ ((∃ u, w5.cell? (⟨w4.heap.size, 2, none⟩ : Addr) = some u) ∧ w5.frozen? (⟨w4.heap.size, 2, none⟩ : Addr) = false) ∧ ((∃ u, w5.cell? (⟨w4.heap.size, 3, none⟩ : Addr) = some u) ∧ w5.frozen? (⟨w4.heap.size, 3, none⟩ : Addr) = false)) ∧ ∀ w6 : World, w6 = ((((w5.setCell (⟨w4.heap.size, 0, none⟩ : Addr) (.int .i64 x170)).setCell (⟨w4.heap.size, 1, none⟩ : Addr) (.int .i64 x171)).setCell (⟨w4.heap.size, 2, none⟩ : Addr) (.int .i64 x172)).setCell (⟨w4.heap.size, 3, none⟩ : Addr) (.string x173)) →
  Calls Try.prog 91 #[(.pointer x10)] w6 (Ret fun v_3 w7 => ∃ (x19 : Int), v_3 = (.int .i64 x19) ∧
  ((x19 != (0 : Int)) = true →
  R (.tuple #[(.slice none 0 0), (.int .i64 5)]) w7) ∧
  ((x19 != (0 : Int)) = false →
  ∃ (x220 : Int), ∃ (x221 : Int), ∃ (x222 : Int), ∃ (x223 : ByteArray), (w7.cell? (⟨w4.heap.size, 0, none⟩ : Addr) = some (.int .i64 x220) ∧ w7.cell? (⟨w4.heap.size, 1, none⟩ : Addr) = some (.int .i64 x221) ∧ w7.cell? (⟨w4.heap.size, 2, none⟩ : Addr) = some (.int .i64 x222) ∧ w7.cell? (⟨w4.heap.size, 3, none⟩ : Addr) = some (.string x223)) ∧
  Calls Try.prog 74 #[(.int .i64 2147483647), (.agg #[(.int .i64 x220), (.int .i64 x221), (.int .i64 x222), (.string x223)])] w7 (Ret fun v_4 w8 => ∃ (x23 : Bool), v_4 = (.bool x23) ∧
  ((!x23) = true →
  R (.tuple #[(.slice none 0 0), (.int .i64 5)]) w8) ∧
  ((!x23) = false →
  ∃ (x270 : Int), ∃ (x271 : Int), ∃ (x272 : Int), ∃ (x273 : ByteArray), (w8.cell? (⟨w4.heap.size, 0, none⟩ : Addr) = some (.int .i64 x270) ∧ w8.cell? (⟨w4.heap.size, 1, none⟩ : Addr) = some (.int .i64 x271) ∧ w8.cell? (⟨w4.heap.size, 2, none⟩ : Addr) = some (.int .i64 x272) ∧ w8.cell? (⟨w4.heap.size, 3, none⟩ : Addr) = some (.string x273)) ∧
  ∀ w9 : World, w9 = w8.alloc (.cells #[(.int .i64 x270), (.int .i64 x271), (.int .i64 x272), (.string x273)] 126 (0, 0)) →
  ∃ (x29A : Option Addr), ∃ (x29N : Nat), ∃ (x29C : Nat), ∃ w10 : World, (Builtin.append_ #[86, 86] 86 #[(.slice outA outN outC), (.slice (some (⟨w8.heap.size, 0, none⟩ : Addr)) 1 1)]).run Try.prog w9 = .ok (.slice x29A x29N x29C) w10 ∧
  ∃ vk_1 : Nat, vk_1 < vk ∧ vI x29A x29N x29C (IntKind.i64.wrap (x14 + 1)) vk_1 w10)))))) ∧
  (decide (x14 < x12) = false →
  Calls Try.prog 92 #[(.pointer x10)] w3 (Ret fun v_5 w11 => ∃ (x32 : Int), v_5 = (.int .i64 x32) ∧
  ((x32 != (0 : Int)) = true →
  R (.tuple #[(.slice none 0 0), (.int .i64 x32)]) w11) ∧
  ((x32 != (0 : Int)) = false →
  R (.tuple #[(.slice outA outN outC), (.int .i64 0)]) w11)))))
theorem patch_Parse.vc_eq (s : ByteArray) (w : World) (R : Value → World → Prop) : fnV Try.prog Try.f55 (.lp [(2, none), (3, none), (6, some (.slice)), (7, none), (14, some (.int .i64)), (15, none), (16, none), (17, none), (18, none), (19, none), (20, none), (21, none), (22, none), (23, none), (24, none), (25, none), (26, none), (27, none), (28, none), (29, none), (30, none)] (.c (.at_ 7 3 (.k .nil) (.c .nil .nil)) (.c .nil .nil))) [(.string s)] w R = patch_Parse.vc s w R := by kernel_rfl
theorem patch_Parse.calls (s : ByteArray) {w : World} {R : Value → World → Prop} (h : patch_Parse.vc s w R) : Calls Try.prog 55 #[(.string s)] w (Ret R) :=
  calls_V fit Try.func55 (.lp [(2, none), (3, none), (6, some (.slice)), (7, none), (14, some (.int .i64)), (15, none), (16, none), (17, none), (18, none), (19, none), (20, none), (21, none), (22, none), (23, none), (24, none), (25, none), (26, none), (27, none), (28, none), (29, none), (30, none)] (.c (.at_ 7 3 (.k .nil) (.c .nil .nil)) (.c .nil .nil))) (by rw [show (#[(.string s)] : Array Value).toList = [(.string s)] from rfl, patch_Parse.vc_eq]; exact h)
/-- function 86 -/
def coadjutorref19_Good.vc (n : Int) (op0 : Int) (op1 : Int) (op2 : Int) (op3 : ByteArray) (w : World) (R : Value → World → Prop) : Prop :=
  ∀ w1 : World, w1 = w.alloc (.cells #[(.int .i64 op0), (.int .i64 op1), (.int .i64 op2), (.string op3)] 102 (0, 0)) →
  ∃ (x6 : Int), w1.cell? (⟨w.heap.size, 0, none⟩ : Addr) = some (.int .i64 x6) ∧
  ((x6 == (1 : Int)) = true →
  ∃ (x10 : Int), w1.cell? (⟨w.heap.size, 2, none⟩ : Addr) = some (.int .i64 x10) ∧
  (decide (x10 ≥ (1 : Int)) = true →
  ∃ (x14 : Int), w1.cell? (⟨w.heap.size, 1, none⟩ : Addr) = some (.int .i64 x14) ∧
  (decide (x14 ≥ (0 : Int)) = true →
  ∃ (x19 : Int), w1.cell? (⟨w.heap.size, 1, none⟩ : Addr) = some (.int .i64 x19) ∧
  (decide (x19 ≤ n) = true →
  ∃ (x25 : Int), w1.cell? (⟨w.heap.size, 2, none⟩ : Addr) = some (.int .i64 x25) ∧
  ∃ (x28 : Int), w1.cell? (⟨w.heap.size, 1, none⟩ : Addr) = some (.int .i64 x28) ∧
  (decide (x25 ≤ (IntKind.i64.wrap (n - x28))) = true →
  ∃ (x34 : ByteArray), w1.cell? (⟨w.heap.size, 3, none⟩ : Addr) = some (.string x34) ∧
  R (.bool (x34.toList == (ByteArray.mk #[]).toList)) w1) ∧
  (decide (x25 ≤ (IntKind.i64.wrap (n - x28))) = false →
  R (.bool false) w1)) ∧
  (decide (x19 ≤ n) = false →
  R (.bool false) w1)) ∧
  (decide (x14 ≥ (0 : Int)) = false →
  R (.bool false) w1)) ∧
  (decide (x10 ≥ (1 : Int)) = false →
  R (.bool false) w1)) ∧
  ((x6 == (1 : Int)) = false →
  ((x6 == (2 : Int)) = true →
  ∃ (x40 : Int), w1.cell? (⟨w.heap.size, 1, none⟩ : Addr) = some (.int .i64 x40) ∧
  ((x40 == (0 : Int)) = true →
  ∃ (x44 : Int), w1.cell? (⟨w.heap.size, 2, none⟩ : Addr) = some (.int .i64 x44) ∧
  ((x44 == (0 : Int)) = true →
  ∃ (x49 : ByteArray), w1.cell? (⟨w.heap.size, 3, none⟩ : Addr) = some (.string x49) ∧
  (decide (((x49.size : Nat) : Int) ≥ (1 : Int)) = true →
  ∃ (x55 : ByteArray), w1.cell? (⟨w.heap.size, 3, none⟩ : Addr) = some (.string x55) ∧
  R (.bool (decide (((x55.size : Nat) : Int) ≤ (8192 : Int)))) w1) ∧
  (decide (((x49.size : Nat) : Int) ≥ (1 : Int)) = false →
  R (.bool false) w1)) ∧
  ((x44 == (0 : Int)) = false →
  R (.bool false) w1)) ∧
  ((x40 == (0 : Int)) = false →
  R (.bool false) w1)) ∧
  ((x6 == (2 : Int)) = false →
  ((x6 == (3 : Int)) = true →
  ∃ (x62 : Int), w1.cell? (⟨w.heap.size, 2, none⟩ : Addr) = some (.int .i64 x62) ∧
  ((x62 == (0 : Int)) = true →
  ∃ (x66 : ByteArray), w1.cell? (⟨w.heap.size, 3, none⟩ : Addr) = some (.string x66) ∧
  (decide (((x66.size : Nat) : Int) ≥ (1 : Int)) = true →
  ∃ (x72 : ByteArray), w1.cell? (⟨w.heap.size, 3, none⟩ : Addr) = some (.string x72) ∧
  (decide (((x72.size : Nat) : Int) ≤ (8192 : Int)) = true →
  ∃ (x78 : Int), w1.cell? (⟨w.heap.size, 1, none⟩ : Addr) = some (.int .i64 x78) ∧
  (decide (x78 ≥ (0 : Int)) = true →
  ∃ (x83 : Int), w1.cell? (⟨w.heap.size, 1, none⟩ : Addr) = some (.int .i64 x83) ∧
  (decide (x83 ≤ n) = true →
  ∃ (x89 : ByteArray), w1.cell? (⟨w.heap.size, 3, none⟩ : Addr) = some (.string x89) ∧
  ∃ (x93 : Int), w1.cell? (⟨w.heap.size, 1, none⟩ : Addr) = some (.int .i64 x93) ∧
  R (.bool (decide (((x89.size : Nat) : Int) ≤ (IntKind.i64.wrap (n - x93))))) w1) ∧
  (decide (x83 ≤ n) = false →
  R (.bool false) w1)) ∧
  (decide (x78 ≥ (0 : Int)) = false →
  R (.bool false) w1)) ∧
  (decide (((x72.size : Nat) : Int) ≤ (8192 : Int)) = false →
  R (.bool false) w1)) ∧
  (decide (((x66.size : Nat) : Int) ≥ (1 : Int)) = false →
  R (.bool false) w1)) ∧
  ((x62 == (0 : Int)) = false →
  R (.bool false) w1)) ∧
  ((x6 == (3 : Int)) = false →
  R (.bool false) w1)))
theorem coadjutorref19_Good.vc_eq (n : Int) (op0 : Int) (op1 : Int) (op2 : Int) (op3 : ByteArray) (w : World) (R : Value → World → Prop) : fnV Try.prog Try.f86 (.c (.at_ 3 3 (.at_ 3 8 (.at_ 3 14 (.at_ 3 23 .nil .nil) .nil) .nil) .nil) (.c (.at_ 5 3 (.at_ 5 8 (.at_ 5 14 .nil .nil) .nil) .nil) (.c (.at_ 7 3 (.at_ 7 9 (.at_ 7 15 (.at_ 7 20 (.at_ 7 26 .nil .nil) .nil) .nil) .nil) .nil) .nil))) [(.int .i64 n), (.agg #[(.int .i64 op0), (.int .i64 op1), (.int .i64 op2), (.string op3)])] w R = coadjutorref19_Good.vc n op0 op1 op2 op3 w R := by kernel_rfl
theorem coadjutorref19_Good.calls (n : Int) (op0 : Int) (op1 : Int) (op2 : Int) (op3 : ByteArray) {w : World} {R : Value → World → Prop} (h : coadjutorref19_Good.vc n op0 op1 op2 op3 w R) : Calls Try.prog 86 #[(.int .i64 n), (.agg #[(.int .i64 op0), (.int .i64 op1), (.int .i64 op2), (.string op3)])] w (Ret R) :=
  calls_V fit Try.func86 (.c (.at_ 3 3 (.at_ 3 8 (.at_ 3 14 (.at_ 3 23 .nil .nil) .nil) .nil) .nil) (.c (.at_ 5 3 (.at_ 5 8 (.at_ 5 14 .nil .nil) .nil) .nil) (.c (.at_ 7 3 (.at_ 7 9 (.at_ 7 15 (.at_ 7 20 (.at_ 7 26 .nil .nil) .nil) .nil) .nil) .nil) .nil))) (by rw [show (#[(.int .i64 n), (.agg #[(.int .i64 op0), (.int .i64 op1), (.int .i64 op2), (.string op3)])] : Array Value).toList = [(.int .i64 n), (.agg #[(.int .i64 op0), (.int .i64 op1), (.int .i64 op2), (.string op3)])] from rfl, coadjutorref19_Good.vc_eq]; exact h)
/-- function 52 -/
def coadjutorref19_Bytes.vc (opsA : Option Addr) (opsN : Nat) (opsC : Nat) (w : World) (R : Value → World → Prop) : Prop :=
  (decide (((opsN : Nat) : Int) > (256 : Int)) = true →
  R (.tuple #[(.string (ByteArray.mk #[])), (.bool false)]) w) ∧
  (decide (((opsN : Nat) : Int) > (256 : Int)) = false →
  Calls Try.prog 85 #[(.int .i64 ((opsN : Nat) : Int))] w (Ret fun v w1 => ∃ (x18_0 : ByteArray), ∃ (x18_1 : Bool), v = (.tuple #[(.string x18_0), (.bool x18_1)]) ∧
  ∃ vI : ByteArray → Int → Nat → World → Prop, (∃ vk_2 : Nat, vI x18_0 0 vk_2 w1) ∧
  ∀ (jk : Nat → Value) (s : ByteArray) (i : Int), ∀ (vk : Nat) (w2 : World), vI s i vk w2 →
  (decide (i < ((opsN : Nat) : Int)) = true →
  (0 ≤ i ∧ i < ((opsN : Nat) : Int)) ∧ someV opsA fun p =>
  ∃ (x300 : Int), ∃ (x301 : Int), ∃ (x302 : Int), ∃ (x303 : ByteArray), (w2.cell? (p.add (i.toNat * 4)) = some (.int .i64 x300) ∧ w2.cell? ((p.add (i.toNat * 4)).add 1) = some (.int .i64 x301) ∧ w2.cell? ((p.add (i.toNat * 4)).add 2) = some (.int .i64 x302) ∧ w2.cell? ((p.add (i.toNat * 4)).add 3) = some (.string x303)) ∧
  ∀ w3 : World, w3 = w2.alloc (.cells #[(.int .i64 0), (.int .i64 0), (.int .i64 0), (.string ByteArray.empty)] 102 (0, 0)) →
  (((∃ u, w3.cell? (⟨w2.heap.size, 0, none⟩ : Addr) = some u) ∧ w3.frozen? (⟨w2.heap.size, 0, none⟩ : Addr) = false) ∧ ((∃ u, w3.cell? (⟨w2.heap.size, 1, none⟩ : Addr) = some u) ∧ w3.frozen? (⟨w2.heap.size, 1, none⟩ : Addr) = false) ∧ ((∃ u, w3.cell? (⟨w2.heap.size, 2, none⟩ : Addr) = some u) ∧ w3.frozen? (⟨w2.heap.size, 2, none⟩ : Addr) = false) ∧ ((∃ u, w3.cell? (⟨w2.heap.size, 3, none⟩ : Addr) = some u) ∧ w3.frozen? (⟨w2.heap.size, 3, none⟩ : Addr) = false)) ∧ ∀ w4 : World, w4 = ((((w3.setCell (⟨w2.heap.size, 0, none⟩ : Addr) (.int .i64 x300)).setCell (⟨w2.heap.size, 1, none⟩ : Addr) (.int .i64 x301)).setCell (⟨w2.heap.size, 2, none⟩ : Addr) (.int .i64 x302)).setCell (⟨w2.heap.size, 3, none⟩ : Addr) (.string x303)) →
  ∃ (x310 : Int), ∃ (x311 : Int), ∃ (x312 : Int), ∃ (x313 : ByteArray), (w4.cell? (⟨w2.heap.size, 0, none⟩ : Addr) = some (.int .i64 x310) ∧ w4.cell? (⟨w2.heap.size, 1, none⟩ : Addr) = some (.int .i64 x311) ∧ w4.cell? (⟨w2.heap.size, 2, none⟩ : Addr) = some (.int .i64 x312) ∧ w4.cell? (⟨w2.heap.size, 3, none⟩ : Addr) = some (.string x313)) ∧
  Calls Try.prog 86 #[(.int .i64 2147483647), (.agg #[(.int .i64 x310), (.int .i64 x311), (.int .i64 x312), (.string x313)])] w4 (Ret fun v_1 w5 => ∃ (x32 : Bool), v_1 = (.bool x32) ∧
  ((!x32) = true →
  R (.tuple #[(.string (ByteArray.mk #[])), (.bool false)]) w5) ∧
  ((!x32) = false →
  ∃ (x36 : Int), w5.cell? (⟨w2.heap.size, 0, none⟩ : Addr) = some (.int .i64 x36) ∧
  ∀ w6 : World, w6 = w5.alloc (.cells #[(.int .u8 (IntKind.u8.wrap x36))] 5 (0, 0)) →
  ∃ (x39 : ByteArray), ∃ w7 : World, (convert 128 9 (.slice (some (⟨w5.heap.size, 0, none⟩ : Addr)) 1 1)).run Try.prog w6 = .ok (.string x39) w7 ∧
  ((s.size + x39.size : Nat) : Int) ≤ 9223372036854775807 ∧
  ∃ (x43 : Int), w7.cell? (⟨w2.heap.size, 1, none⟩ : Addr) = some (.int .i64 x43) ∧
  Calls Try.prog 85 #[(.int .i64 x43)] w7 (Ret fun v_2 w8 => ∃ (x44_0 : ByteArray), ∃ (x44_1 : Bool), v_2 = (.tuple #[(.string x44_0), (.bool x44_1)]) ∧
  ∃ (x49 : Int), w8.cell? (⟨w2.heap.size, 2, none⟩ : Addr) = some (.int .i64 x49) ∧
  Calls Try.prog 85 #[(.int .i64 x49)] w8 (Ret fun v_3 w9 => ∃ (x50_0 : ByteArray), ∃ (x50_1 : Bool), v_3 = (.tuple #[(.string x50_0), (.bool x50_1)]) ∧
  ∃ (x54 : Int), w9.cell? (⟨w2.heap.size, 0, none⟩ : Addr) = some (.int .i64 x54) ∧
  ((x54 == (1 : Int)) = true →
  (((s ++ x39).size + x44_0.size : Nat) : Int) ≤ 9223372036854775807 ∧
  ((((s ++ x39) ++ x44_0).size + x50_0.size : Nat) : Int) ≤ 9223372036854775807 ∧
  ∃ vk_1 : Nat, vk_1 < vk ∧ vI (((s ++ x39) ++ x44_0) ++ x50_0) (IntKind.i64.wrap (i + 1)) vk_1 w9) ∧
  ((x54 == (1 : Int)) = false →
  ((x54 == (2 : Int)) = true →
  ∃ (x73 : ByteArray), w9.cell? (⟨w2.heap.size, 3, none⟩ : Addr) = some (.string x73) ∧
  Calls Try.prog 87 #[(.string x73)] w9 (Ret fun v_4 w10 => ∃ (x74 : ByteArray), v_4 = (.string x74) ∧
  (((s ++ x39).size + x74.size : Nat) : Int) ≤ 9223372036854775807 ∧
  ∃ vk_1 : Nat, vk_1 < vk ∧ vI ((s ++ x39) ++ x74) (IntKind.i64.wrap (i + 1)) vk_1 w10)) ∧
  ((x54 == (2 : Int)) = false →
  (((s ++ x39).size + x44_0.size : Nat) : Int) ≤ 9223372036854775807 ∧
  ∃ (x59 : ByteArray), w9.cell? (⟨w2.heap.size, 3, none⟩ : Addr) = some (.string x59) ∧
  Calls Try.prog 87 #[(.string x59)] w9 (Ret fun v_5 w11 => ∃ (x60 : ByteArray), v_5 = (.string x60) ∧
  ((((s ++ x39) ++ x44_0).size + x60.size : Nat) : Int) ≤ 9223372036854775807 ∧
  ∃ vk_1 : Nat, vk_1 < vk ∧ vI (((s ++ x39) ++ x44_0) ++ x60) (IntKind.i64.wrap (i + 1)) vk_1 w11)))))))) ∧
  (decide (i < ((opsN : Nat) : Int)) = false →
  R (.tuple #[(.string s), (.bool true)]) w2)))
theorem coadjutorref19_Bytes.vc_eq (opsA : Option Addr) (opsN : Nat) (opsC : Nat) (w : World) (R : Value → World → Prop) : fnV Try.prog Try.f52 (.c .nil (.lp [(2, none), (3, none), (4, some (.str)), (6, some (.int .i64)), (7, none), (8, none), (9, none), (10, none), (11, none), (21, none), (22, none), (23, none), (24, none), (25, none), (26, none), (27, none), (28, none), (29, none), (30, none), (31, none), (32, none), (33, none), (34, none), (35, none), (36, none), (37, none), (38, none), (39, none), (40, none), (41, none), (42, none), (43, none), (44, none), (45, none), (46, none), (47, none), (48, none), (49, none), (50, none), (51, none), (52, none), (53, none), (54, none), (55, none), (56, none), (57, none), (58, none), (59, none), (60, none), (61, none), (62, none), (63, none), (64, none), (65, none), (66, none), (67, none), (68, none), (69, none), (70, none), (71, none), (72, none), (73, none), (74, none), (75, none)] (.c (.c .nil (.c .nil (.c .nil .nil))) .nil))) [(.slice opsA opsN opsC)] w R = coadjutorref19_Bytes.vc opsA opsN opsC w R := by kernel_rfl
theorem coadjutorref19_Bytes.calls (opsA : Option Addr) (opsN : Nat) (opsC : Nat) {w : World} {R : Value → World → Prop} (h : coadjutorref19_Bytes.vc opsA opsN opsC w R) : Calls Try.prog 52 #[(.slice opsA opsN opsC)] w (Ret R) :=
  calls_V fit Try.func52 (.c .nil (.lp [(2, none), (3, none), (4, some (.str)), (6, some (.int .i64)), (7, none), (8, none), (9, none), (10, none), (11, none), (21, none), (22, none), (23, none), (24, none), (25, none), (26, none), (27, none), (28, none), (29, none), (30, none), (31, none), (32, none), (33, none), (34, none), (35, none), (36, none), (37, none), (38, none), (39, none), (40, none), (41, none), (42, none), (43, none), (44, none), (45, none), (46, none), (47, none), (48, none), (49, none), (50, none), (51, none), (52, none), (53, none), (54, none), (55, none), (56, none), (57, none), (58, none), (59, none), (60, none), (61, none), (62, none), (63, none), (64, none), (65, none), (66, none), (67, none), (68, none), (69, none), (70, none), (71, none), (72, none), (73, none), (74, none), (75, none)] (.c (.c .nil (.c .nil (.c .nil .nil))) .nil))) (by rw [show (#[(.slice opsA opsN opsC)] : Array Value).toList = [(.slice opsA opsN opsC)] from rfl, coadjutorref19_Bytes.vc_eq]; exact h)
/-- function 56 -/
def coadjutorref19_Parse.vc (s : ByteArray) (w : World) (R : Value → World → Prop) : Prop :=
  ∀ w1 : World, w1 = w.alloc (.cells #[(.string s), (.bool false)] 153 (0, 0)) →
  Calls Try.prog 93 #[(.pointer (some (⟨w.heap.size, 0, none⟩ : Addr))), (.int .i64 256)] w1 (Ret fun v w2 => ∃ (x14 : Int), v = (.int .i64 x14) ∧
  ∀ w3 : World, w3 = w2.alloc (.cells #[] 102 (0, 0)) →
  ∃ J : Option Addr → Nat → Nat → World → Prop, (∃ vI : Option Addr → Nat → Nat → Int → Nat → World → Prop, (∃ vk_2 : Nat, vI (some (⟨w2.heap.size, 0, none⟩ : Addr)) 0 0 0 vk_2 w3) ∧
  ∀ (jk : Nat → Value) (outA : Option Addr) (outN : Nat) (outC : Nat) (i : Int), ∀ (vk : Nat) (w4 : World), vI outA outN outC i vk w4 →
  (decide (i < x14) = true →
  ∃ (x23 : Bool), w4.cell? (⟨w.heap.size, 1, none⟩ : Addr) = some (.bool x23) ∧
  ((!x23) = true →
  Calls Try.prog 94 #[(.pointer (some (⟨w.heap.size, 0, none⟩ : Addr))), (.int .i64 1)] w4 (Ret fun v_1 w5 => ∃ (x29 : ByteArray), v_1 = (.string x29) ∧
  ∃ (x33 : Bool), w5.cell? (⟨w.heap.size, 1, none⟩ : Addr) = some (.bool x33) ∧
  (x33 = true →
  R (.tuple #[(.slice none 0 0), (.bool false)]) w5) ∧
  (x33 = false →
  (0 ≤ (0 : Int) ∧ (0 : Int) < ((x29.size : Nat) : Int)) ∧
  ∀ w6 : World, w6 = w5.alloc (.cells #[(.int .i64 0), (.int .i64 0), (.int .i64 0), (.string ByteArray.empty)] 102 (0, 0)) →
  (((∃ u, w6.cell? (⟨w5.heap.size, 0, none⟩ : Addr) = some u) ∧ w6.frozen? (⟨w5.heap.size, 0, none⟩ : Addr) = false) ∧ ((∃ u, w6.cell? (⟨w5.heap.size, 1, none⟩ : Addr) = some u) ∧ w6.frozen? (⟨w5.heap.size, 1, none⟩ : Addr) = false) ∧ ((∃ u, w6.cell? (⟨w5.heap.size, 2, none⟩ : Addr) = some u) ∧ w6.frozen? (⟨w5.heap.size, 2, none⟩ : Addr) = false) ∧ ((∃ u, w6.cell? (⟨w5.heap.size, 3, none⟩ : Addr) = some u) ∧ w6.frozen? (⟨w5.heap.size, 3, none⟩ : Addr) = false)) ∧ ∀ w7 : World, w7 = ((((w6.setCell (⟨w5.heap.size, 0, none⟩ : Addr) (.int .i64 (IntKind.i64.wrap (bt x29 0)))).setCell (⟨w5.heap.size, 1, none⟩ : Addr) (.int .i64 0)).setCell (⟨w5.heap.size, 2, none⟩ : Addr) (.int .i64 0)).setCell (⟨w5.heap.size, 3, none⟩ : Addr) (.string ByteArray.empty)) →
  ∃ J_1 : World → Prop, (∃ (x39 : Int), w7.cell? (⟨w5.heap.size, 0, none⟩ : Addr) = some (.int .i64 x39) ∧
  ((x39 != (2 : Int)) = true →
  Calls Try.prog 93 #[(.pointer (some (⟨w.heap.size, 0, none⟩ : Addr))), (.int .i64 2147483647)] w7 (Ret fun v_2 w8 => ∃ (x42 : Int), v_2 = (.int .i64 x42) ∧
  (((∃ u, w8.cell? (⟨w5.heap.size, 1, none⟩ : Addr) = some u) ∧ w8.frozen? (⟨w5.heap.size, 1, none⟩ : Addr) = false)) ∧ ∀ w9 : World, w9 = (w8.setCell (⟨w5.heap.size, 1, none⟩ : Addr) (.int .i64 x42)) →
  J_1 w9)) ∧
  ((x39 != (2 : Int)) = false →
  J_1 w7)) ∧
  ∀ (jk : Nat → Value), ∀ w10 : World, J_1 w10 →
  ∃ J_2 : World → Prop, (∃ (x45 : Int), w10.cell? (⟨w5.heap.size, 0, none⟩ : Addr) = some (.int .i64 x45) ∧
  ((x45 == (1 : Int)) = true →
  Calls Try.prog 93 #[(.pointer (some (⟨w.heap.size, 0, none⟩ : Addr))), (.int .i64 2147483647)] w10 (Ret fun v_3 w11 => ∃ (x48 : Int), v_3 = (.int .i64 x48) ∧
  (((∃ u, w11.cell? (⟨w5.heap.size, 2, none⟩ : Addr) = some u) ∧ w11.frozen? (⟨w5.heap.size, 2, none⟩ : Addr) = false)) ∧ ∀ w12 : World, w12 = (w11.setCell (⟨w5.heap.size, 2, none⟩ : Addr) (.int .i64 x48)) →
  J_2 w12)) ∧
  ((x45 == (1 : Int)) = false →
  Calls Try.prog 95 #[(.pointer (some (⟨w.heap.size, 0, none⟩ : Addr))), (.int .i64 8192)] w10 (Ret fun v_4 w13 => ∃ (x51 : ByteArray), v_4 = (.string x51) ∧
  (((∃ u, w13.cell? (⟨w5.heap.size, 3, none⟩ : Addr) = some u) ∧ w13.frozen? (⟨w5.heap.size, 3, none⟩ : Addr) = false)) ∧ ∀ w14 : World, w14 = (w13.setCell (⟨w5.heap.size, 3, none⟩ : Addr) (.string x51)) →
  J_2 w14))) ∧
  ∀ (jk : Nat → Value), ∀ w15 : World, J_2 w15 →
  ∃ (x56 : Bool), w15.cell? (⟨w.heap.size, 1, none⟩ : Addr) = some (.bool x56) ∧
  (x56 = true →
  R (.tuple #[(.slice none 0 0), (.bool false)]) w15) ∧
  (x56 = false →
  ∃ (x580 : Int), ∃ (x581 : Int), ∃ (x582 : Int), ∃ (x583 : ByteArray), (w15.cell? (⟨w5.heap.size, 0, none⟩ : Addr) = some (.int .i64 x580) ∧ w15.cell? (⟨w5.heap.size, 1, none⟩ : Addr) = some (.int .i64 x581) ∧ w15.cell? (⟨w5.heap.size, 2, none⟩ : Addr) = some (.int .i64 x582) ∧ w15.cell? (⟨w5.heap.size, 3, none⟩ : Addr) = some (.string x583)) ∧
  Calls Try.prog 86 #[(.int .i64 2147483647), (.agg #[(.int .i64 x580), (.int .i64 x581), (.int .i64 x582), (.string x583)])] w15 (Ret fun v_5 w16 => ∃ (x59 : Bool), v_5 = (.bool x59) ∧
  ((!x59) = true →
  R (.tuple #[(.slice none 0 0), (.bool false)]) w16) ∧
  ((!x59) = false →
  ∃ (x630 : Int), ∃ (x631 : Int), ∃ (x632 : Int), ∃ (x633 : ByteArray), (w16.cell? (⟨w5.heap.size, 0, none⟩ : Addr) = some (.int .i64 x630) ∧ w16.cell? (⟨w5.heap.size, 1, none⟩ : Addr) = some (.int .i64 x631) ∧ w16.cell? (⟨w5.heap.size, 2, none⟩ : Addr) = some (.int .i64 x632) ∧ w16.cell? (⟨w5.heap.size, 3, none⟩ : Addr) = some (.string x633)) ∧
  ∀ w17 : World, w17 = w16.alloc (.cells #[(.int .i64 x630), (.int .i64 x631), (.int .i64 x632), (.string x633)] 102 (0, 0)) →
  ∃ (x65A : Option Addr), ∃ (x65N : Nat), ∃ (x65C : Nat), ∃ w18 : World, (Builtin.append_ #[94, 94] 94 #[(.slice outA outN outC), (.slice (some (⟨w16.heap.size, 0, none⟩ : Addr)) 1 1)]).run Try.prog w17 = .ok (.slice x65A x65N x65C) w18 ∧
  ∃ vk_1 : Nat, vk_1 < vk ∧ vI x65A x65N x65C (IntKind.i64.wrap (i + 1)) vk_1 w18)))))) ∧
  ((!x23) = false →
  J outA outN outC w4)) ∧
  (decide (i < x14) = false →
  J outA outN outC w4)) ∧
  ∀ (jk : Nat → Value) (outA_1 : Option Addr) (outN_1 : Nat) (outC_1 : Nat), ∀ w19 : World, J outA_1 outN_1 outC_1 w19 →
  ∃ vS : World → Prop, ∀ w20 : World, w20 = w19.drew → vS w20 ∧
  ∃ (x70 : Bool), (∀ w21, vS w21 → w21.cell? (⟨w.heap.size, 1, none⟩ : Addr) = some (.bool x70)) ∧
  ((!x70) = true →
  ∃ (x76 : ByteArray), (∀ w22, vS w22 → w22.cell? (⟨w.heap.size, 0, none⟩ : Addr) = some (.string x76)) ∧
  R (.tuple #[(.slice outA_1 outN_1 outC_1), (.bool (((x76.size : Nat) : Int) == (0 : Int)))]) w20) ∧
  ((!x70) = false →
  R (.tuple #[(.slice outA_1 outN_1 outC_1), (.bool false)]) w20))
theorem coadjutorref19_Parse.vc_eq (s : ByteArray) (w : World) (R : Value → World → Prop) : fnV Try.prog Try.f56 (.cut 4 [(2, none), (3, none), (6, some (.slice)), (7, none), (8, none), (9, none), (16, none), (17, none), (18, none), (19, none), (20, none), (21, none), (22, none), (23, none), (24, none), (25, none), (26, none), (27, none), (28, none), (29, none), (30, none), (31, none), (32, none), (33, none), (34, none), (35, none), (36, none), (37, none), (38, none), (39, none), (40, none), (41, none), (42, none), (43, none), (44, none), (45, none), (46, none), (47, none), (48, none), (49, none), (50, none), (51, none), (52, none), (53, none), (54, none), (55, none), (56, none), (57, none), (58, none), (59, none), (60, none), (61, none), (62, none), (63, none), (64, none), (65, none)] (.lp [(2, none), (3, none), (6, some (.slice)), (7, some (.int .i64)), (8, none), (9, none), (16, none), (17, none), (18, none), (19, none), (20, none), (21, none), (22, none), (23, none), (24, none), (25, none), (26, none), (27, none), (28, none), (29, none), (30, none), (31, none), (32, none), (33, none), (34, none), (35, none), (36, none), (37, none), (38, none), (39, none), (40, none), (41, none), (42, none), (43, none), (44, none), (45, none), (46, none), (47, none), (48, none), (49, none), (50, none), (51, none), (52, none), (53, none), (54, none), (55, none), (56, none), (57, none), (58, none), (59, none), (60, none), (61, none), (62, none), (63, none), (64, none), (65, none)] (.at_ 5 3 (.c (.c .nil (.cut 1 [(38, none), (39, none), (40, none), (41, none), (42, none), (43, none)] (.c .nil .nil) (.cut 0 [(44, none), (45, none), (46, none), (47, none), (48, none), (49, none), (50, none), (51, none), (52, none)] (.c .nil .nil) (.at_ 16 4 (.k .nil) (.c .nil .nil))))) .nil) (.k .nil))) (.tk 0 (.tk 1 (.tk 2 (.tk 3 (.tk 4 (.tk 5 (.tks 6 (.tk 7 (.tk 8 (.tk 9 (.tk 10 (.tk 11 (.tk 12 (.tk 13 (.tk 14 (.tk 15 (.fin .nil)))))))))) (.tk 7 (.tk 8 (.tk 9 (.tk 10 (.tk 11 (.tk 12 (.tk 13 (.tk 14 (.tk 15 (.fin .nil)))))))))))))))))) [(.string s)] w R = coadjutorref19_Parse.vc s w R := by kernel_rfl
theorem coadjutorref19_Parse.calls (s : ByteArray) {w : World} {R : Value → World → Prop} (h : coadjutorref19_Parse.vc s w R) : Calls Try.prog 56 #[(.string s)] w (Ret R) :=
  calls_V fit Try.func56 (.cut 4 [(2, none), (3, none), (6, some (.slice)), (7, none), (8, none), (9, none), (16, none), (17, none), (18, none), (19, none), (20, none), (21, none), (22, none), (23, none), (24, none), (25, none), (26, none), (27, none), (28, none), (29, none), (30, none), (31, none), (32, none), (33, none), (34, none), (35, none), (36, none), (37, none), (38, none), (39, none), (40, none), (41, none), (42, none), (43, none), (44, none), (45, none), (46, none), (47, none), (48, none), (49, none), (50, none), (51, none), (52, none), (53, none), (54, none), (55, none), (56, none), (57, none), (58, none), (59, none), (60, none), (61, none), (62, none), (63, none), (64, none), (65, none)] (.lp [(2, none), (3, none), (6, some (.slice)), (7, some (.int .i64)), (8, none), (9, none), (16, none), (17, none), (18, none), (19, none), (20, none), (21, none), (22, none), (23, none), (24, none), (25, none), (26, none), (27, none), (28, none), (29, none), (30, none), (31, none), (32, none), (33, none), (34, none), (35, none), (36, none), (37, none), (38, none), (39, none), (40, none), (41, none), (42, none), (43, none), (44, none), (45, none), (46, none), (47, none), (48, none), (49, none), (50, none), (51, none), (52, none), (53, none), (54, none), (55, none), (56, none), (57, none), (58, none), (59, none), (60, none), (61, none), (62, none), (63, none), (64, none), (65, none)] (.at_ 5 3 (.c (.c .nil (.cut 1 [(38, none), (39, none), (40, none), (41, none), (42, none), (43, none)] (.c .nil .nil) (.cut 0 [(44, none), (45, none), (46, none), (47, none), (48, none), (49, none), (50, none), (51, none), (52, none)] (.c .nil .nil) (.at_ 16 4 (.k .nil) (.c .nil .nil))))) .nil) (.k .nil))) (.tk 0 (.tk 1 (.tk 2 (.tk 3 (.tk 4 (.tk 5 (.tks 6 (.tk 7 (.tk 8 (.tk 9 (.tk 10 (.tk 11 (.tk 12 (.tk 13 (.tk 14 (.tk 15 (.fin .nil)))))))))) (.tk 7 (.tk 8 (.tk 9 (.tk 10 (.tk 11 (.tk 12 (.tk 13 (.tk 14 (.tk 15 (.fin .nil)))))))))))))))))) (by rw [show (#[(.string s)] : Array Value).toList = [(.string s)] from rfl, coadjutorref19_Parse.vc_eq]; exact h)
/-- function 53 -/
def coadjutorlaw19_forms.vc (lA : Option Addr) (lN : Nat) (lC : Nat) (w : World) (R : Value → World → Prop) : Prop :=
  ∀ w1 : World, w1 = w.alloc (.cells #[] 102 (0, 0)) →
  ∃ vI : Option Addr → Nat → Nat → Int → Nat → World → Prop, (∃ vk_2 : Nat, vI (some (⟨w.heap.size, 0, none⟩ : Addr)) 0 0 0 vk_2 w1) ∧
  ∀ (jk : Nat → Value) (outA : Option Addr) (outN : Nat) (outC : Nat) (i : Int), ∀ (vk : Nat) (w2 : World), vI outA outN outC i vk w2 →
  (decide (i < ((lN : Nat) : Int)) = true →
  ∃ vS : World → Prop, ∀ w3 : World, w3 = w2.drew → vS w3 ∧
  (0 ≤ i ∧ i < ((lN : Nat) : Int)) ∧ someV lA fun p =>
  ∃ (x17 : Int), (∀ w4, vS w4 → w4.cell? (p.add (i.toNat * 4)) = some (.int .i64 x17)) ∧
  (0 ≤ i ∧ i < ((lN : Nat) : Int)) ∧ someV lA fun p_1 =>
  ∃ (x22 : Int), (∀ w5, vS w5 → w5.cell? ((p_1.add (i.toNat * 4)).add 1) = some (.int .i64 x22)) ∧
  (0 ≤ i ∧ i < ((lN : Nat) : Int)) ∧ someV lA fun p_2 =>
  ∃ (x27 : Int), (∀ w6, vS w6 → w6.cell? ((p_2.add (i.toNat * 4)).add 2) = some (.int .i64 x27)) ∧
  (0 ≤ i ∧ i < ((lN : Nat) : Int)) ∧ someV lA fun p_3 =>
  ∃ (x32 : ByteArray), (∀ w7, vS w7 → w7.cell? ((p_3.add (i.toNat * 4)).add 3) = some (.string x32)) ∧
  ∀ w8 : World, w8 = w3.alloc (.cells #[(.int .i64 x17), (.int .i64 x22), (.int .i64 x27), (.string x32)] 102 (0, 0)) →
  vS w8 ∧
  ∃ (x35A : Option Addr), ∃ (x35N : Nat), ∃ (x35C : Nat), ∃ w9 : World, (Builtin.append_ #[94, 94] 94 #[(.slice outA outN outC), (.slice (some (⟨w3.heap.size, 0, none⟩ : Addr)) 1 1)]).run Try.prog w8 = .ok (.slice x35A x35N x35C) w9 ∧
  vS w9 ∧
  ∃ vk_1 : Nat, vk_1 < vk ∧ vI x35A x35N x35C (IntKind.i64.wrap (i + 1)) vk_1 w9) ∧
  (decide (i < ((lN : Nat) : Int)) = false →
  R (.slice outA outN outC) w2)
theorem coadjutorlaw19_forms.vc_eq (lA : Option Addr) (lN : Nat) (lC : Nat) (w : World) (R : Value → World → Prop) : fnV Try.prog Try.f53 (.lp [(3, some (.slice)), (4, some (.int .i64)), (6, none), (7, none), (8, none), (9, none), (10, none), (11, none), (12, none), (13, none), (14, none), (15, none), (16, none), (17, none), (18, none), (19, none), (20, none), (21, none), (22, none), (23, none), (24, none), (25, none), (26, none), (27, none), (28, none), (29, none), (30, none), (31, none), (32, none), (33, none), (34, none), (35, none)] (.c (.tk 0 (.tk 1 (.tk 2 (.tk 3 (.tk 4 (.tk 5 (.tk 6 (.tk 7 (.tk 8 (.tk 9 (.tk 10 (.tk 11 (.tk 12 (.tk 13 (.tk 14 (.tk 15 (.tk 16 (.tk 17 (.tk 18 (.tk 19 (.tk 20 (.tk 21 (.alt 22 (.alt 23 (.tk 24 (.fin .nil)) .nil) .nil))))))))))))))))))))))) .nil)) [(.slice lA lN lC)] w R = coadjutorlaw19_forms.vc lA lN lC w R := by kernel_rfl
theorem coadjutorlaw19_forms.calls (lA : Option Addr) (lN : Nat) (lC : Nat) {w : World} {R : Value → World → Prop} (h : coadjutorlaw19_forms.vc lA lN lC w R) : Calls Try.prog 53 #[(.slice lA lN lC)] w (Ret R) :=
  calls_V fit Try.func53 (.lp [(3, some (.slice)), (4, some (.int .i64)), (6, none), (7, none), (8, none), (9, none), (10, none), (11, none), (12, none), (13, none), (14, none), (15, none), (16, none), (17, none), (18, none), (19, none), (20, none), (21, none), (22, none), (23, none), (24, none), (25, none), (26, none), (27, none), (28, none), (29, none), (30, none), (31, none), (32, none), (33, none), (34, none), (35, none)] (.c (.tk 0 (.tk 1 (.tk 2 (.tk 3 (.tk 4 (.tk 5 (.tk 6 (.tk 7 (.tk 8 (.tk 9 (.tk 10 (.tk 11 (.tk 12 (.tk 13 (.tk 14 (.tk 15 (.tk 16 (.tk 17 (.tk 18 (.tk 19 (.tk 20 (.tk 21 (.alt 22 (.alt 23 (.tk 24 (.fin .nil)) .nil) .nil))))))))))))))))))))))) .nil)) (by rw [show (#[(.slice lA lN lC)] : Array Value).toList = [(.slice lA lN lC)] from rfl, coadjutorlaw19_forms.vc_eq]; exact h)
/-- function 10 -/
def coadjutorlaw19_PatchBytes.vc (opsA : Option Addr) (opsN : Nat) (opsC : Nat) (s : ByteArray) (w : World) (R : Value → World → Prop) : Prop :=
  Calls Try.prog 48 #[] w (Ret fun v w1 => ∃ (x15 : Bool), v = (.bool x15) ∧
  ((!x15) = true →
  R (.bool false) w1) ∧
  ((!x15) = false →
  Calls Try.prog 49 #[(.slice opsA opsN opsC)] w1 (Ret fun v_1 w2 => ∃ (x18 : Bool), v_1 = (.bool x18) ∧
  (x18 = true →
  R (.bool true) w2) ∧
  (x18 = false →
  (decide (((s.size : Nat) : Int) > (4096 : Int)) = true →
  R (.bool true) w2) ∧
  (decide (((s.size : Nat) : Int) > (4096 : Int)) = false →
  Calls Try.prog 51 #[(.slice opsA opsN opsC)] w2 (Ret fun v_2 w3 => ∃ (x26_0 : ByteArray), ∃ (x26_1 : Int), v_2 = (.tuple #[(.string x26_0), (.int .i64 x26_1)]) ∧
  Calls Try.prog 53 #[(.slice opsA opsN opsC)] w3 (Ret fun v_3 w4 => ∃ (x31A : Option Addr), ∃ (x31N : Nat), ∃ (x31C : Nat), v_3 = (.slice x31A x31N x31C) ∧
  Calls Try.prog 52 #[(.slice x31A x31N x31C)] w4 (Ret fun v_4 w5 => ∃ (x32_0 : ByteArray), ∃ (x32_1 : Bool), v_4 = (.tuple #[(.string x32_0), (.bool x32_1)]) ∧
  ∃ J : World → Prop, (((!(x32_1 == (x26_1 == (0 : Int)))) = true →
  R (.bool false) w5) ∧
  ((!(x32_1 == (x26_1 == (0 : Int)))) = false →
  ((!x32_1) = true →
  ((x26_1 != (1 : Int)) = true →
  R (.bool false) w5) ∧
  ((x26_1 != (1 : Int)) = false →
  ((!(x26_0.toList == x32_0.toList)) = true →
  R (.bool false) w5) ∧
  ((!(x26_0.toList == x32_0.toList)) = false →
  Calls Try.prog 54 #[(.slice opsA opsN opsC)] w5 (Ret fun v_5 w6 => ∃ (x54 : Int), v_5 = (.int .i64 x54) ∧
  ((x54 != ((x32_0.size : Nat) : Int)) = true →
  R (.bool false) w6) ∧
  ((x54 != ((x32_0.size : Nat) : Int)) = false →
  J w6))))) ∧
  ((!x32_1) = false →
  ((!(x26_0.toList == x32_0.toList)) = true →
  R (.bool false) w5) ∧
  ((!(x26_0.toList == x32_0.toList)) = false →
  Calls Try.prog 54 #[(.slice opsA opsN opsC)] w5 (Ret fun v_6 w7 => ∃ (x54_1 : Int), v_6 = (.int .i64 x54_1) ∧
  ((x54_1 != ((x32_0.size : Nat) : Int)) = true →
  R (.bool false) w7) ∧
  ((x54_1 != ((x32_0.size : Nat) : Int)) = false →
  J w7)))))) ∧
  ∀ (jk : Nat → Value), ∀ w8 : World, J w8 →
  Calls Try.prog 55 #[(.string s)] w8 (Ret fun v_7 w9 => ∃ (x61_0A : Option Addr), ∃ (x61_0N : Nat), ∃ (x61_0C : Nat), ∃ (x61_1 : Int), v_7 = (.tuple #[(.slice x61_0A x61_0N x61_0C), (.int .i64 x61_1)]) ∧
  Calls Try.prog 56 #[(.string s)] w9 (Ret fun v_8 w10 => ∃ (x66_0A : Option Addr), ∃ (x66_0N : Nat), ∃ (x66_0C : Nat), ∃ (x66_1 : Bool), v_8 = (.tuple #[(.slice x66_0A x66_0N x66_0C), (.bool x66_1)]) ∧
  ∃ J_1 : World → Prop, (((!(x66_1 == (x61_1 == (0 : Int)))) = true →
  R (.bool false) w10) ∧
  ((!(x66_1 == (x61_1 == (0 : Int)))) = false →
  ((!x66_1) = true →
  ((x61_1 != (5 : Int)) = true →
  R (.bool false) w10) ∧
  ((x61_1 != (5 : Int)) = false →
  ((((x61_0N : Nat) : Int) != (0 : Int)) = true →
  R (.bool false) w10) ∧
  ((((x61_0N : Nat) : Int) != (0 : Int)) = false →
  (x66_1 = true →
  ((((x61_0N : Nat) : Int) != ((x66_0N : Nat) : Int)) = true →
  R (.bool false) w10) ∧
  ((((x61_0N : Nat) : Int) != ((x66_0N : Nat) : Int)) = false →
  J_1 w10)) ∧
  (x66_1 = false →
  J_1 w10)))) ∧
  ((!x66_1) = false →
  (x66_1 = true →
  ((((x61_0N : Nat) : Int) != ((x66_0N : Nat) : Int)) = true →
  R (.bool false) w10) ∧
  ((((x61_0N : Nat) : Int) != ((x66_0N : Nat) : Int)) = false →
  J_1 w10)) ∧
  (x66_1 = false →
  J_1 w10)))) ∧
  ∀ (jk : Nat → Value), ∀ w11 : World, J_1 w11 →
  Calls Try.prog 53 #[(.slice x61_0A x61_0N x61_0C)] w11 (Ret fun v_9 w12 => ∃ (x97A : Option Addr), ∃ (x97N : Nat), ∃ (x97C : Nat), v_9 = (.slice x97A x97N x97C) ∧
  ∃ vI : Int → Nat → World → Prop, (∃ vk_2 : Nat, vI 0 vk_2 w12) ∧
  ∀ (jk : Nat → Value) (i : Int), ∀ (vk : Nat) (w13 : World), vI i vk w13 →
  (decide (i < ((x61_0N : Nat) : Int)) = true →
  ∃ vS : World → Prop, ∀ w14 : World, w14 = w13.drew → vS w14 ∧
  (0 ≤ i ∧ i < ((x97N : Nat) : Int)) ∧ someV x97A fun p =>
  ∃ (x1070 : Int), ∃ (x1071 : Int), ∃ (x1072 : Int), ∃ (x1073 : ByteArray), ((∀ w15, vS w15 → w15.cell? (p.add (i.toNat * 4)) = some (.int .i64 x1070)) ∧ (∀ w15, vS w15 → w15.cell? ((p.add (i.toNat * 4)).add 1) = some (.int .i64 x1071)) ∧ (∀ w15, vS w15 → w15.cell? ((p.add (i.toNat * 4)).add 2) = some (.int .i64 x1072)) ∧ (∀ w15, vS w15 → w15.cell? ((p.add (i.toNat * 4)).add 3) = some (.string x1073))) ∧
  (0 ≤ i ∧ i < ((x66_0N : Nat) : Int)) ∧ someV x66_0A fun p_1 =>
  ∃ (x1110 : Int), ∃ (x1111 : Int), ∃ (x1112 : Int), ∃ (x1113 : ByteArray), ((∀ w16, vS w16 → w16.cell? (p_1.add (i.toNat * 4)) = some (.int .i64 x1110)) ∧ (∀ w16, vS w16 → w16.cell? ((p_1.add (i.toNat * 4)).add 1) = some (.int .i64 x1111)) ∧ (∀ w16, vS w16 → w16.cell? ((p_1.add (i.toNat * 4)).add 2) = some (.int .i64 x1112)) ∧ (∀ w16, vS w16 → w16.cell? ((p_1.add (i.toNat * 4)).add 3) = some (.string x1113))) ∧
  ((!((x1070 == x1110) && ((x1071 == x1111) && ((x1072 == x1112) && ((x1073.toList == x1113.toList) && true))))) = true →
  R (.bool false) w14) ∧
  ((!((x1070 == x1110) && ((x1071 == x1111) && ((x1072 == x1112) && ((x1073.toList == x1113.toList) && true))))) = false →
  ∃ vk_1 : Nat, vk_1 < vk ∧ vI (IntKind.i64.wrap (i + 1)) vk_1 w14)) ∧
  (decide (i < ((x61_0N : Nat) : Int)) = false →
  R (.bool true) w13))))))))))))
theorem coadjutorlaw19_PatchBytes.vc_eq (opsA : Option Addr) (opsN : Nat) (opsC : Nat) (s : ByteArray) (w : World) (R : Value → World → Prop) : fnV Try.prog Try.f10 (.c .nil (.at_ 3 2 (.k .nil) (.c .nil (.cut 2 [(4, none), (35, none), (36, none), (37, none), (38, none), (39, none), (40, none), (41, none), (42, none), (43, none), (44, none), (45, none), (46, none), (47, none), (48, none), (49, none), (50, none), (51, none), (52, none), (53, none), (54, none), (55, none), (56, none), (57, none), (58, none)] (.at_ 7 4 (.k .nil) (.at_ 7 7 (.at_ 7 12 (.k .nil) (.at_ 7 17 (.k .nil) (.c .nil .nil))) (.at_ 7 17 (.k .nil) (.c .nil .nil)))) (.cut 2 [(4, none), (69, none), (70, none), (71, none), (72, none), (73, none), (74, none), (75, none), (76, none), (77, none), (78, none), (79, none), (80, none), (81, none), (82, none), (83, none), (84, none), (85, none), (86, none), (87, none), (88, none), (89, none), (90, none), (91, none), (92, none), (93, none), (94, none), (95, none)] (.at_ 11 4 (.k .nil) (.at_ 11 7 (.at_ 11 10 (.k .nil) (.at_ 11 17 (.k .nil) (.at_ 11 19 (.c .nil .nil) (.k .nil)))) (.at_ 11 19 (.c .nil .nil) (.k .nil)))) (.lp [(4, none), (14, some (.int .i64)), (98, none), (99, none), (100, none), (101, none), (102, none), (103, none), (104, none), (105, none), (106, none), (107, none), (108, none), (109, none), (110, none), (111, none), (112, none)] (.c (.tk 0 (.tk 1 (.tk 2 (.tk 3 (.tk 4 (.tk 5 (.tk 6 (.tk 7 (.tk 8 (.fin (.c .nil .nil))))))))))) .nil))))))) [(.slice opsA opsN opsC), (.string s)] w R = coadjutorlaw19_PatchBytes.vc opsA opsN opsC s w R := by kernel_rfl
theorem coadjutorlaw19_PatchBytes.calls (opsA : Option Addr) (opsN : Nat) (opsC : Nat) (s : ByteArray) {w : World} {R : Value → World → Prop} (h : coadjutorlaw19_PatchBytes.vc opsA opsN opsC s w R) : Calls Try.prog 10 #[(.slice opsA opsN opsC), (.string s)] w (Ret R) :=
  calls_V fit Try.func10 (.c .nil (.at_ 3 2 (.k .nil) (.c .nil (.cut 2 [(4, none), (35, none), (36, none), (37, none), (38, none), (39, none), (40, none), (41, none), (42, none), (43, none), (44, none), (45, none), (46, none), (47, none), (48, none), (49, none), (50, none), (51, none), (52, none), (53, none), (54, none), (55, none), (56, none), (57, none), (58, none)] (.at_ 7 4 (.k .nil) (.at_ 7 7 (.at_ 7 12 (.k .nil) (.at_ 7 17 (.k .nil) (.c .nil .nil))) (.at_ 7 17 (.k .nil) (.c .nil .nil)))) (.cut 2 [(4, none), (69, none), (70, none), (71, none), (72, none), (73, none), (74, none), (75, none), (76, none), (77, none), (78, none), (79, none), (80, none), (81, none), (82, none), (83, none), (84, none), (85, none), (86, none), (87, none), (88, none), (89, none), (90, none), (91, none), (92, none), (93, none), (94, none), (95, none)] (.at_ 11 4 (.k .nil) (.at_ 11 7 (.at_ 11 10 (.k .nil) (.at_ 11 17 (.k .nil) (.at_ 11 19 (.c .nil .nil) (.k .nil)))) (.at_ 11 19 (.c .nil .nil) (.k .nil)))) (.lp [(4, none), (14, some (.int .i64)), (98, none), (99, none), (100, none), (101, none), (102, none), (103, none), (104, none), (105, none), (106, none), (107, none), (108, none), (109, none), (110, none), (111, none), (112, none)] (.c (.tk 0 (.tk 1 (.tk 2 (.tk 3 (.tk 4 (.tk 5 (.tk 6 (.tk 7 (.tk 8 (.fin (.c .nil .nil))))))))))) .nil))))))) (by rw [show (#[(.slice opsA opsN opsC), (.string s)] : Array Value).toList = [(.slice opsA opsN opsC), (.string s)] from rfl, coadjutorlaw19_PatchBytes.vc_eq]; exact h)
end Go.Proofs.Ytpcddfhfchempaa.Vc
