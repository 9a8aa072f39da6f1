import Derived.Test.YtamkffjmggbekaaVc
import Derived.Test.YtamkffjmggbekaaH
import Derived.Test.YtamkffjmggbekaaProg
import Derived.KernelRfl
set_option linter.unusedVariables false
set_option maxRecDepth 100000
namespace Go.Proofs.Ytamkffjmggbekaa.Vc
open Go Go.Proofs Go.Proofs.Ytamkffjmggbekaa.V
/-- function 22 -/
def coadjutorref24_Need.vc (a0 : Int) (a1 : Int) (a2A : Option Addr) (a2N : Nat) (a2C : Nat) (a3 : Int) (a4A : Option Addr) (a4N : Nat) (a4C : Nat) (w : World) (R : Value → World → Prop) : Prop :=
  ∀ w1 : World, w1 = w.alloc (.cells #[(.int .i64 a0), (.int .i64 a1), (.slice a2A a2N a2C), (.int .i64 a3), (.slice a4A a4N a4C)] 59 (0, 0)) →
  ∃ (x4 : Int), w1.cell? (⟨w.heap.size, 3, none⟩ : Addr) = some (.int .i64 x4) ∧
  (decide (x4 < (1 : Int)) = true →
  R (.int .i64 0) w1) ∧
  (decide (x4 < (1 : Int)) = false →
  ∃ (x8 : Int), w1.cell? (⟨w.heap.size, 3, none⟩ : Addr) = some (.int .i64 x8) ∧
  (decide (x8 > (32 : Int)) = true →
  R (.int .i64 0) w1) ∧
  (decide (x8 > (32 : Int)) = false →
  ∃ (x12A : Option Addr), ∃ (x12N : Nat), ∃ (x12C : Nat), w1.cell? (⟨w.heap.size, 2, none⟩ : Addr) = some (.slice x12A x12N x12C) ∧
  ∃ (x15 : Int), w1.cell? (⟨w.heap.size, 3, none⟩ : Addr) = some (.int .i64 x15) ∧
  (4 : Int) ≠ 0 ∧
  R (.int .i64 (IntKind.i64.wrap (Int.tdiv (IntKind.i64.wrap ((IntKind.i64.wrap ((IntKind.i64.wrap (((x12N : Nat) : Int) + x15)) - 1)) + 3)) 4))) w1))
theorem coadjutorref24_Need.vc_eq (a0 : Int) (a1 : Int) (a2A : Option Addr) (a2N : Nat) (a2C : Nat) (a3 : Int) (a4A : Option Addr) (a4N : Nat) (a4C : Nat) (w : World) (R : Value → World → Prop) : fnV Try.prog Try.f22 (.at_ 1 3 (.k .nil) (.c .nil .nil)) [(.agg #[(.int .i64 a0), (.int .i64 a1), (.slice a2A a2N a2C), (.int .i64 a3), (.slice a4A a4N a4C)])] w R = coadjutorref24_Need.vc a0 a1 a2A a2N a2C a3 a4A a4N a4C w R := by kernel_rfl
theorem coadjutorref24_Need.calls (a0 : Int) (a1 : Int) (a2A : Option Addr) (a2N : Nat) (a2C : Nat) (a3 : Int) (a4A : Option Addr) (a4N : Nat) (a4C : Nat) {w : World} {R : Value → World → Prop} (h : coadjutorref24_Need.vc a0 a1 a2A a2N a2C a3 a4A a4N a4C w R) : Calls Try.prog 22 #[(.agg #[(.int .i64 a0), (.int .i64 a1), (.slice a2A a2N a2C), (.int .i64 a3), (.slice a4A a4N a4C)])] w (Ret R) :=
  calls_V fit Try.func22 (.at_ 1 3 (.k .nil) (.c .nil .nil)) (by rw [show (#[(.agg #[(.int .i64 a0), (.int .i64 a1), (.slice a2A a2N a2C), (.int .i64 a3), (.slice a4A a4N a4C)])] : Array Value).toList = [(.agg #[(.int .i64 a0), (.int .i64 a1), (.slice a2A a2N a2C), (.int .i64 a3), (.slice a4A a4N a4C)])] from rfl, coadjutorref24_Need.vc_eq]; exact h)
/-- function 25 -/
def coadjutorref24_Ward_At.vc (wB : Nat) (id : Int) (w : World) (R : Value → World → Prop) : Prop :=
  ∃ vI : Int → Nat → World → Prop, (∃ vk_2 : Nat, vI 0 vk_2 w) ∧
  ∀ (jk : Nat → Value) (i : Int), ∀ (vk : Nat) (w1 : World), vI i vk w1 →
  ∃ (x10A : Option Addr), ∃ (x10N : Nat), ∃ (x10C : Nat), w1.cell? (⟨wB, 1, none⟩ : Addr) = some (.slice x10A x10N x10C) ∧
  (decide (i < ((x10N : Nat) : Int)) = true →
  ∃ (x18A : Option Addr), ∃ (x18N : Nat), ∃ (x18C : Nat), w1.cell? (⟨wB, 1, none⟩ : Addr) = some (.slice x18A x18N x18C) ∧
  (0 ≤ i ∧ i < ((x18N : Nat) : Int)) ∧ someV x18A fun p =>
  ∃ (x22 : Int), w1.cell? (p.add (i.toNat * 5)) = some (.int .i64 x22) ∧
  ((x22 == id) = true →
  R (.int .i64 i) w1) ∧
  ((x22 == id) = false →
  ∃ vk_1 : Nat, vk_1 < vk ∧ vI (IntKind.i64.wrap (i + 1)) vk_1 w1)) ∧
  (decide (i < ((x10N : Nat) : Int)) = false →
  R (.int .i64 (-1)) w1)
theorem coadjutorref24_Ward_At.vc_eq (wB : Nat) (id : Int) (w : World) (R : Value → World → Prop) : fnV Try.prog Try.f25 (.lp [(4, none), (5, some (.int .i64)), (6, none), (7, none), (8, none), (9, none), (10, none), (11, none), (12, none), (13, none), (14, none), (15, none), (16, none), (17, none), (18, none), (19, none), (20, none), (21, none), (22, none), (23, none), (24, none), (25, none)] (.c (.c .nil .nil) .nil)) [(.pointer (some (⟨wB, 0, none⟩ : Addr))), (.int .i64 id)] w R = coadjutorref24_Ward_At.vc wB id w R := by kernel_rfl
theorem coadjutorref24_Ward_At.calls (wB : Nat) (id : Int) {w : World} {R : Value → World → Prop} (h : coadjutorref24_Ward_At.vc wB id w R) : Calls Try.prog 25 #[(.pointer (some (⟨wB, 0, none⟩ : Addr))), (.int .i64 id)] w (Ret R) :=
  calls_V fit Try.func25 (.lp [(4, none), (5, some (.int .i64)), (6, none), (7, none), (8, none), (9, none), (10, none), (11, none), (12, none), (13, none), (14, none), (15, none), (16, none), (17, none), (18, none), (19, none), (20, none), (21, none), (22, none), (23, none), (24, none), (25, none)] (.c (.c .nil .nil) .nil)) (by rw [show (#[(.pointer (some (⟨wB, 0, none⟩ : Addr))), (.int .i64 id)] : Array Value).toList = [(.pointer (some (⟨wB, 0, none⟩ : Addr))), (.int .i64 id)] from rfl, coadjutorref24_Ward_At.vc_eq]; exact h)
/-- function 94 -/
def coadjutorref18_Check.vc (m0 : Int) (m1 : Int) (m2 : Int) (m3 : Int) (m4 : Int) (m5 : Int) (m6 : ByteArray) (most : Int) (promptA : Option Addr) (promptN : Nat) (promptC : Nat) (w : World) (R : Value → World → Prop) : Prop :=
  ∀ w1 : World, w1 = w.alloc (.cells #[(.int .i64 m0), (.int .i64 m1), (.int .i64 m2), (.int .i64 m3), (.int .i64 m4), (.int .i64 m5), (.string m6)] 50 (0, 0)) →
  ((((promptN : Nat) : Int) == (0 : Int)) = true →
  R (.int .i64 1) w1) ∧
  ((((promptN : Nat) : Int) == (0 : Int)) = false →
  (decide (most < (1 : Int)) = true →
  R (.int .i64 1) w1) ∧
  (decide (most < (1 : Int)) = false →
  (decide (most > (32 : Int)) = true →
  R (.int .i64 1) w1) ∧
  (decide (most > (32 : Int)) = false →
  ∃ vI : Int → Nat → World → Prop, (∃ vk_2 : Nat, vI 0 vk_2 w1) ∧
  ∀ (jk : Nat → Value) (i : Int), ∀ (vk : Nat) (w2 : World), vI i vk w2 →
  (decide (i < ((promptN : Nat) : Int)) = true →
  ∃ vS : World → Prop, ∀ w3 : World, w3 = w2.drew → vS w3 ∧
  (0 ≤ i ∧ i < ((promptN : Nat) : Int)) ∧ someV promptA fun p =>
  ∃ (x28 : Int), (∀ w4, vS w4 → w4.cell? (p.add (i.toNat * 1)) = some (.int .i64 x28)) ∧
  (decide (x28 < (0 : Int)) = true →
  R (.int .i64 3) w3) ∧
  (decide (x28 < (0 : Int)) = false →
  (0 ≤ i ∧ i < ((promptN : Nat) : Int)) ∧ someV promptA fun p_1 =>
  ∃ (x34 : Int), (∀ w5, vS w5 → w5.cell? (p_1.add (i.toNat * 1)) = some (.int .i64 x34)) ∧
  ∃ (x37 : Int), (∀ w6, vS w6 → w6.cell? (⟨w.heap.size, 0, none⟩ : Addr) = some (.int .i64 x37)) ∧
  (decide (x34 ≥ x37) = true →
  R (.int .i64 3) w3) ∧
  (decide (x34 ≥ x37) = false →
  ∃ vk_1 : Nat, vk_1 < vk ∧ vI (IntKind.i64.wrap (i + 1)) vk_1 w3))) ∧
  (decide (i < ((promptN : Nat) : Int)) = false →
  ∃ (x44 : Int), w2.cell? (⟨w.heap.size, 5, none⟩ : Addr) = some (.int .i64 x44) ∧
  (decide (((promptN : Nat) : Int) > (IntKind.i64.wrap (x44 - most))) = true →
  R (.int .i64 12) w2) ∧
  (decide (((promptN : Nat) : Int) > (IntKind.i64.wrap (x44 - most))) = false →
  R (.int .i64 0) w2)))))
theorem coadjutorref18_Check.vc_eq (m0 : Int) (m1 : Int) (m2 : Int) (m3 : Int) (m4 : Int) (m5 : Int) (m6 : ByteArray) (most : Int) (promptA : Option Addr) (promptN : Nat) (promptC : Nat) (w : World) (R : Value → World → Prop) : fnV Try.prog Try.f94 (.at_ 1 3 (.k .nil) (.at_ 1 7 (.k .nil) (.c .nil (.lp [(6, none), (7, some (.int .i64)), (19, none), (20, none), (21, none), (22, none), (23, none), (24, none), (25, none), (26, none), (27, none), (28, none), (29, none), (30, none), (31, none), (32, none), (33, none), (34, none), (35, none), (36, none), (37, none), (38, none), (39, none)] (.c (.tk 0 (.tk 1 (.tk 2 (.tk 3 (.tk 4 (.tks 5 (.tk 6 (.tk 7 (.tk 8 (.tk 9 (.tk 10 (.tk 11 (.tk 12 (.tk 13 (.tk 14 (.fin (.k .nil))))))))))) (.tk 6 (.tk 7 (.tk 8 (.tk 9 (.tk 10 (.tk 11 (.tk 12 (.tk 13 (.tk 14 (.fin (.c .nil .nil))))))))))))))))) (.c .nil .nil)))))) [(.agg #[(.int .i64 m0), (.int .i64 m1), (.int .i64 m2), (.int .i64 m3), (.int .i64 m4), (.int .i64 m5), (.string m6)]), (.int .i64 most), (.slice promptA promptN promptC)] w R = coadjutorref18_Check.vc m0 m1 m2 m3 m4 m5 m6 most promptA promptN promptC w R := by kernel_rfl
theorem coadjutorref18_Check.calls (m0 : Int) (m1 : Int) (m2 : Int) (m3 : Int) (m4 : Int) (m5 : Int) (m6 : ByteArray) (most : Int) (promptA : Option Addr) (promptN : Nat) (promptC : Nat) {w : World} {R : Value → World → Prop} (h : coadjutorref18_Check.vc m0 m1 m2 m3 m4 m5 m6 most promptA promptN promptC w R) : Calls Try.prog 94 #[(.agg #[(.int .i64 m0), (.int .i64 m1), (.int .i64 m2), (.int .i64 m3), (.int .i64 m4), (.int .i64 m5), (.string m6)]), (.int .i64 most), (.slice promptA promptN promptC)] w (Ret R) :=
  calls_V fit Try.func94 (.at_ 1 3 (.k .nil) (.at_ 1 7 (.k .nil) (.c .nil (.lp [(6, none), (7, some (.int .i64)), (19, none), (20, none), (21, none), (22, none), (23, none), (24, none), (25, none), (26, none), (27, none), (28, none), (29, none), (30, none), (31, none), (32, none), (33, none), (34, none), (35, none), (36, none), (37, none), (38, none), (39, none)] (.c (.tk 0 (.tk 1 (.tk 2 (.tk 3 (.tk 4 (.tks 5 (.tk 6 (.tk 7 (.tk 8 (.tk 9 (.tk 10 (.tk 11 (.tk 12 (.tk 13 (.tk 14 (.fin (.k .nil))))))))))) (.tk 6 (.tk 7 (.tk 8 (.tk 9 (.tk 10 (.tk 11 (.tk 12 (.tk 13 (.tk 14 (.fin (.c .nil .nil))))))))))))))))) (.c .nil .nil)))))) (by rw [show (#[(.agg #[(.int .i64 m0), (.int .i64 m1), (.int .i64 m2), (.int .i64 m3), (.int .i64 m4), (.int .i64 m5), (.string m6)]), (.int .i64 most), (.slice promptA promptN promptC)] : Array Value).toList = [(.agg #[(.int .i64 m0), (.int .i64 m1), (.int .i64 m2), (.int .i64 m3), (.int .i64 m4), (.int .i64 m5), (.string m6)]), (.int .i64 most), (.slice promptA promptN promptC)] from rfl, coadjutorref18_Check.vc_eq]; exact h)
/-- function 58 -/
def coadjutorref24_Check.vc (m0 : Int) (m1 : Int) (m2 : Int) (m3 : Int) (m4 : Int) (m5 : Int) (m6 : ByteArray) (pages : Int) (a0 : Int) (a1 : Int) (a2A : Option Addr) (a2N : Nat) (a2C : Nat) (a3 : Int) (a4A : Option Addr) (a4N : Nat) (a4C : Nat) (w : World) (R : Value → World → Prop) : Prop :=
  ∀ w1 : World, w1 = w.alloc (.cells #[(.int .i64 m0), (.int .i64 m1), (.int .i64 m2), (.int .i64 m3), (.int .i64 m4), (.int .i64 m5), (.string m6)] 50 (0, 0)) →
  ∀ w2 : World, w2 = w1.alloc (.cells #[(.int .i64 a0), (.int .i64 a1), (.slice a2A a2N a2C), (.int .i64 a3), (.slice a4A a4N a4C)] 59 (0, 0)) →
  ∃ (x9 : Int), w2.cell? (⟨w1.heap.size, 0, none⟩ : Addr) = some (.int .i64 x9) ∧
  (decide (x9 < (1 : Int)) = true →
  R (.int .i64 1) w2) ∧
  (decide (x9 < (1 : Int)) = false →
  ∃ (x13 : Int), w2.cell? (⟨w1.heap.size, 0, none⟩ : Addr) = some (.int .i64 x13) ∧
  (decide (x13 > (2147483647 : Int)) = true →
  R (.int .i64 1) w2) ∧
  (decide (x13 > (2147483647 : Int)) = false →
  ∃ (x18A : Option Addr), ∃ (x18N : Nat), ∃ (x18C : Nat), w2.cell? (⟨w1.heap.size, 4, none⟩ : Addr) = some (.slice x18A x18N x18C) ∧
  (decide (((x18N : Nat) : Int) > (32 : Int)) = true →
  R (.int .i64 1) w2) ∧
  (decide (((x18N : Nat) : Int) > (32 : Int)) = false →
  ∃ (x220 : Int), ∃ (x221 : Int), ∃ (x222 : Int), ∃ (x223 : Int), ∃ (x224 : Int), ∃ (x225 : Int), ∃ (x226 : ByteArray), (w2.cell? (⟨w.heap.size, 0, none⟩ : Addr) = some (.int .i64 x220) ∧ w2.cell? (⟨w.heap.size, 1, none⟩ : Addr) = some (.int .i64 x221) ∧ w2.cell? (⟨w.heap.size, 2, none⟩ : Addr) = some (.int .i64 x222) ∧ w2.cell? (⟨w.heap.size, 3, none⟩ : Addr) = some (.int .i64 x223) ∧ w2.cell? (⟨w.heap.size, 4, none⟩ : Addr) = some (.int .i64 x224) ∧ w2.cell? (⟨w.heap.size, 5, none⟩ : Addr) = some (.int .i64 x225) ∧ w2.cell? (⟨w.heap.size, 6, none⟩ : Addr) = some (.string x226)) ∧
  ∃ (x24 : Int), w2.cell? (⟨w1.heap.size, 3, none⟩ : Addr) = some (.int .i64 x24) ∧
  ∃ (x26A : Option Addr), ∃ (x26N : Nat), ∃ (x26C : Nat), w2.cell? (⟨w1.heap.size, 2, none⟩ : Addr) = some (.slice x26A x26N x26C) ∧
  Calls Try.prog 94 #[(.agg #[(.int .i64 x220), (.int .i64 x221), (.int .i64 x222), (.int .i64 x223), (.int .i64 x224), (.int .i64 x225), (.string x226)]), (.int .i64 x24), (.slice x26A x26N x26C)] w2 (Ret fun v w3 => ∃ (x27 : Int), v = (.int .i64 x27) ∧
  ((x27 != (0 : Int)) = true →
  R (.int .i64 x27) w3) ∧
  ((x27 != (0 : Int)) = false →
  ∃ (x310 : Int), ∃ (x311 : Int), ∃ (x312A : Option Addr), ∃ (x312N : Nat), ∃ (x312C : Nat), ∃ (x313 : Int), ∃ (x314A : Option Addr), ∃ (x314N : Nat), ∃ (x314C : Nat), (w3.cell? (⟨w1.heap.size, 0, none⟩ : Addr) = some (.int .i64 x310) ∧ w3.cell? (⟨w1.heap.size, 1, none⟩ : Addr) = some (.int .i64 x311) ∧ w3.cell? (⟨w1.heap.size, 2, none⟩ : Addr) = some (.slice x312A x312N x312C) ∧ w3.cell? (⟨w1.heap.size, 3, none⟩ : Addr) = some (.int .i64 x313) ∧ w3.cell? (⟨w1.heap.size, 4, none⟩ : Addr) = some (.slice x314A x314N x314C)) ∧
  Calls Try.prog 22 #[(.agg #[(.int .i64 x310), (.int .i64 x311), (.slice x312A x312N x312C), (.int .i64 x313), (.slice x314A x314N x314C)])] w3 (Ret fun v_1 w4 => ∃ (x32 : Int), v_1 = (.int .i64 x32) ∧
  (decide (x32 > pages) = true →
  R (.int .i64 11) w4) ∧
  (decide (x32 > pages) = false →
  R (.int .i64 0) w4)))))))
theorem coadjutorref24_Check.vc_eq (m0 : Int) (m1 : Int) (m2 : Int) (m3 : Int) (m4 : Int) (m5 : Int) (m6 : ByteArray) (pages : Int) (a0 : Int) (a1 : Int) (a2A : Option Addr) (a2N : Nat) (a2C : Nat) (a3 : Int) (a4A : Option Addr) (a4N : Nat) (a4C : Nat) (w : World) (R : Value → World → Prop) : fnV Try.prog Try.f58 (.at_ 1 3 (.k .nil) (.at_ 1 8 (.k .nil) (.c .nil (.c .nil (.c .nil .nil))))) [(.agg #[(.int .i64 m0), (.int .i64 m1), (.int .i64 m2), (.int .i64 m3), (.int .i64 m4), (.int .i64 m5), (.string m6)]), (.int .i64 pages), (.agg #[(.int .i64 a0), (.int .i64 a1), (.slice a2A a2N a2C), (.int .i64 a3), (.slice a4A a4N a4C)])] w R = coadjutorref24_Check.vc m0 m1 m2 m3 m4 m5 m6 pages a0 a1 a2A a2N a2C a3 a4A a4N a4C w R := by kernel_rfl
theorem coadjutorref24_Check.calls (m0 : Int) (m1 : Int) (m2 : Int) (m3 : Int) (m4 : Int) (m5 : Int) (m6 : ByteArray) (pages : Int) (a0 : Int) (a1 : Int) (a2A : Option Addr) (a2N : Nat) (a2C : Nat) (a3 : Int) (a4A : Option Addr) (a4N : Nat) (a4C : Nat) {w : World} {R : Value → World → Prop} (h : coadjutorref24_Check.vc m0 m1 m2 m3 m4 m5 m6 pages a0 a1 a2A a2N a2C a3 a4A a4N a4C w R) : Calls Try.prog 58 #[(.agg #[(.int .i64 m0), (.int .i64 m1), (.int .i64 m2), (.int .i64 m3), (.int .i64 m4), (.int .i64 m5), (.string m6)]), (.int .i64 pages), (.agg #[(.int .i64 a0), (.int .i64 a1), (.slice a2A a2N a2C), (.int .i64 a3), (.slice a4A a4N a4C)])] w (Ret R) :=
  calls_V fit Try.func58 (.at_ 1 3 (.k .nil) (.at_ 1 8 (.k .nil) (.c .nil (.c .nil (.c .nil .nil))))) (by rw [show (#[(.agg #[(.int .i64 m0), (.int .i64 m1), (.int .i64 m2), (.int .i64 m3), (.int .i64 m4), (.int .i64 m5), (.string m6)]), (.int .i64 pages), (.agg #[(.int .i64 a0), (.int .i64 a1), (.slice a2A a2N a2C), (.int .i64 a3), (.slice a4A a4N a4C)])] : Array Value).toList = [(.agg #[(.int .i64 m0), (.int .i64 m1), (.int .i64 m2), (.int .i64 m3), (.int .i64 m4), (.int .i64 m5), (.string m6)]), (.int .i64 pages), (.agg #[(.int .i64 a0), (.int .i64 a1), (.slice a2A a2N a2C), (.int .i64 a3), (.slice a4A a4N a4C)])] from rfl, coadjutorref24_Check.vc_eq]; exact h)
/-- function 27 -/
def coadjutorref24_Ward_Submit.vc (wB : Nat) (m0 : Int) (m1 : Int) (m2 : Int) (m3 : Int) (m4 : Int) (m5 : Int) (m6 : ByteArray) (a0 : Int) (a1 : Int) (a2A : Option Addr) (a2N : Nat) (a2C : Nat) (a3 : Int) (a4A : Option Addr) (a4N : Nat) (a4C : Nat) (w : World) (R : Value → World → Prop) : Prop :=
  ∀ w1 : World, w1 = w.alloc (.cells #[(.int .i64 m0), (.int .i64 m1), (.int .i64 m2), (.int .i64 m3), (.int .i64 m4), (.int .i64 m5), (.string m6)] 50 (0, 0)) →
  ∀ w2 : World, w2 = w1.alloc (.cells #[(.int .i64 a0), (.int .i64 a1), (.slice a2A a2N a2C), (.int .i64 a3), (.slice a4A a4N a4C)] 59 (0, 0)) →
  ∃ vS : World → Prop, ∀ w3 : World, w3 = w2.drew → vS w3 ∧
  ∃ (x80 : Int), ∃ (x81 : Int), ∃ (x82 : Int), ∃ (x83 : Int), ∃ (x84 : Int), ∃ (x85 : Int), ∃ (x86 : ByteArray), ((∀ w4, vS w4 → w4.cell? (⟨w.heap.size, 0, none⟩ : Addr) = some (.int .i64 x80)) ∧ (∀ w4, vS w4 → w4.cell? (⟨w.heap.size, 1, none⟩ : Addr) = some (.int .i64 x81)) ∧ (∀ w4, vS w4 → w4.cell? (⟨w.heap.size, 2, none⟩ : Addr) = some (.int .i64 x82)) ∧ (∀ w4, vS w4 → w4.cell? (⟨w.heap.size, 3, none⟩ : Addr) = some (.int .i64 x83)) ∧ (∀ w4, vS w4 → w4.cell? (⟨w.heap.size, 4, none⟩ : Addr) = some (.int .i64 x84)) ∧ (∀ w4, vS w4 → w4.cell? (⟨w.heap.size, 5, none⟩ : Addr) = some (.int .i64 x85)) ∧ (∀ w4, vS w4 → w4.cell? (⟨w.heap.size, 6, none⟩ : Addr) = some (.string x86))) ∧
  ∃ (x12 : Int), (∀ w5, vS w5 → w5.cell? (⟨wB, 0, none⟩ : Addr) = some (.int .i64 x12)) ∧
  ∃ (x130 : Int), ∃ (x131 : Int), ∃ (x132A : Option Addr), ∃ (x132N : Nat), ∃ (x132C : Nat), ∃ (x133 : Int), ∃ (x134A : Option Addr), ∃ (x134N : Nat), ∃ (x134C : Nat), ((∀ w6, vS w6 → w6.cell? (⟨w1.heap.size, 0, none⟩ : Addr) = some (.int .i64 x130)) ∧ (∀ w6, vS w6 → w6.cell? (⟨w1.heap.size, 1, none⟩ : Addr) = some (.int .i64 x131)) ∧ (∀ w6, vS w6 → w6.cell? (⟨w1.heap.size, 2, none⟩ : Addr) = some (.slice x132A x132N x132C)) ∧ (∀ w6, vS w6 → w6.cell? (⟨w1.heap.size, 3, none⟩ : Addr) = some (.int .i64 x133)) ∧ (∀ w6, vS w6 → w6.cell? (⟨w1.heap.size, 4, none⟩ : Addr) = some (.slice x134A x134N x134C))) ∧
  Calls Try.prog 58 #[(.agg #[(.int .i64 x80), (.int .i64 x81), (.int .i64 x82), (.int .i64 x83), (.int .i64 x84), (.int .i64 x85), (.string x86)]), (.int .i64 x12), (.agg #[(.int .i64 x130), (.int .i64 x131), (.slice x132A x132N x132C), (.int .i64 x133), (.slice x134A x134N x134C)])] w3 (Ret fun v w7 => ∃ (x14 : Int), v = (.int .i64 x14) ∧
  vS w7 ∧
  ((x14 == (1 : Int)) = true →
  ∃ (x19 : Int), w7.cell? (⟨w1.heap.size, 0, none⟩ : Addr) = some (.int .i64 x19) ∧
  (decide (x19 < (1 : Int)) = true →
  R (.int .i64 1) w7) ∧
  (decide (x19 < (1 : Int)) = false →
  ∃ (x23 : Int), w7.cell? (⟨w1.heap.size, 0, none⟩ : Addr) = some (.int .i64 x23) ∧
  (decide (x23 > (2147483647 : Int)) = true →
  R (.int .i64 1) w7) ∧
  (decide (x23 > (2147483647 : Int)) = false →
  ∃ (x28A : Option Addr), ∃ (x28N : Nat), ∃ (x28C : Nat), w7.cell? (⟨w1.heap.size, 4, none⟩ : Addr) = some (.slice x28A x28N x28C) ∧
  (decide (((x28N : Nat) : Int) > (32 : Int)) = true →
  R (.int .i64 1) w7) ∧
  (decide (((x28N : Nat) : Int) > (32 : Int)) = false →
  ∃ (x35 : Int), w7.cell? (⟨w1.heap.size, 0, none⟩ : Addr) = some (.int .i64 x35) ∧
  Calls Try.prog 25 #[(.pointer (some (⟨wB, 0, none⟩ : Addr))), (.int .i64 x35)] w7 (Ret fun v_1 w8 => ∃ (x36 : Int), v_1 = (.int .i64 x36) ∧
  (decide (x36 ≥ (0 : Int)) = true →
  R (.int .i64 9) w8) ∧
  (decide (x36 ≥ (0 : Int)) = false →
  ((x14 != (0 : Int)) = true →
  R (.int .i64 x14) w8) ∧
  ((x14 != (0 : Int)) = false →
  ∃ (x44A : Option Addr), ∃ (x44N : Nat), ∃ (x44C : Nat), w8.cell? (⟨wB, 1, none⟩ : Addr) = some (.slice x44A x44N x44C) ∧
  (decide (((x44N : Nat) : Int) ≥ (16 : Int)) = true →
  R (.int .i64 10) w8) ∧
  (decide (((x44N : Nat) : Int) ≥ (16 : Int)) = false →
  ∃ vS_1 : World → Prop, ∀ w9 : World, w9 = w8.drew → vS_1 w9 ∧
  ∃ (x51A : Option Addr), ∃ (x51N : Nat), ∃ (x51C : Nat), (∀ w10, vS_1 w10 → w10.cell? (⟨wB, 1, none⟩ : Addr) = some (.slice x51A x51N x51C)) ∧
  ∃ (x520 : Int), ∃ (x521 : Int), ∃ (x522A : Option Addr), ∃ (x522N : Nat), ∃ (x522C : Nat), ∃ (x523 : Int), ∃ (x524A : Option Addr), ∃ (x524N : Nat), ∃ (x524C : Nat), ((∀ w11, vS_1 w11 → w11.cell? (⟨w1.heap.size, 0, none⟩ : Addr) = some (.int .i64 x520)) ∧ (∀ w11, vS_1 w11 → w11.cell? (⟨w1.heap.size, 1, none⟩ : Addr) = some (.int .i64 x521)) ∧ (∀ w11, vS_1 w11 → w11.cell? (⟨w1.heap.size, 2, none⟩ : Addr) = some (.slice x522A x522N x522C)) ∧ (∀ w11, vS_1 w11 → w11.cell? (⟨w1.heap.size, 3, none⟩ : Addr) = some (.int .i64 x523)) ∧ (∀ w11, vS_1 w11 → w11.cell? (⟨w1.heap.size, 4, none⟩ : Addr) = some (.slice x524A x524N x524C))) ∧
  ∀ w12 : World, w12 = w9.alloc (.cells #[(.int .i64 x520), (.int .i64 x521), (.slice x522A x522N x522C), (.int .i64 x523), (.slice x524A x524N x524C)] 59 (0, 0)) →
  vS_1 w12 ∧
  ∃ (x54A : Option Addr), ∃ (x54N : Nat), ∃ (x54C : Nat), ∃ w13 : World, (Builtin.append_ #[52, 52] 52 #[(.slice x51A x51N x51C), (.slice (some (⟨w9.heap.size, 0, none⟩ : Addr)) 1 1)]).run Try.prog w12 = .ok (.slice x54A x54N x54C) w13 ∧
  vS_1 w13 ∧
  (((∃ u, w13.cell? (⟨wB, 1, none⟩ : Addr) = some u) ∧ w13.frozen? (⟨wB, 1, none⟩ : Addr) = false)) ∧ ∀ w14 : World, w14 = (w13.setCell (⟨wB, 1, none⟩ : Addr) (.slice x54A x54N x54C)) →
  R (.int .i64 0) w14)))))))) ∧
  ((x14 == (1 : Int)) = false →
  ∃ (x35_1 : Int), w7.cell? (⟨w1.heap.size, 0, none⟩ : Addr) = some (.int .i64 x35_1) ∧
  Calls Try.prog 25 #[(.pointer (some (⟨wB, 0, none⟩ : Addr))), (.int .i64 x35_1)] w7 (Ret fun v_2 w15 => ∃ (x36_1 : Int), v_2 = (.int .i64 x36_1) ∧
  (decide (x36_1 ≥ (0 : Int)) = true →
  R (.int .i64 9) w15) ∧
  (decide (x36_1 ≥ (0 : Int)) = false →
  ((x14 != (0 : Int)) = true →
  R (.int .i64 x14) w15) ∧
  ((x14 != (0 : Int)) = false →
  ∃ (x44A_1 : Option Addr), ∃ (x44N_1 : Nat), ∃ (x44C_1 : Nat), w15.cell? (⟨wB, 1, none⟩ : Addr) = some (.slice x44A_1 x44N_1 x44C_1) ∧
  (decide (((x44N_1 : Nat) : Int) ≥ (16 : Int)) = true →
  R (.int .i64 10) w15) ∧
  (decide (((x44N_1 : Nat) : Int) ≥ (16 : Int)) = false →
  ∃ vS_2 : World → Prop, ∀ w16 : World, w16 = w15.drew → vS_2 w16 ∧
  ∃ (x51A_1 : Option Addr), ∃ (x51N_1 : Nat), ∃ (x51C_1 : Nat), (∀ w17, vS_2 w17 → w17.cell? (⟨wB, 1, none⟩ : Addr) = some (.slice x51A_1 x51N_1 x51C_1)) ∧
  ∃ (x520_1 : Int), ∃ (x521_1 : Int), ∃ (x522A_1 : Option Addr), ∃ (x522N_1 : Nat), ∃ (x522C_1 : Nat), ∃ (x523_1 : Int), ∃ (x524A_1 : Option Addr), ∃ (x524N_1 : Nat), ∃ (x524C_1 : Nat), ((∀ w18, vS_2 w18 → w18.cell? (⟨w1.heap.size, 0, none⟩ : Addr) = some (.int .i64 x520_1)) ∧ (∀ w18, vS_2 w18 → w18.cell? (⟨w1.heap.size, 1, none⟩ : Addr) = some (.int .i64 x521_1)) ∧ (∀ w18, vS_2 w18 → w18.cell? (⟨w1.heap.size, 2, none⟩ : Addr) = some (.slice x522A_1 x522N_1 x522C_1)) ∧ (∀ w18, vS_2 w18 → w18.cell? (⟨w1.heap.size, 3, none⟩ : Addr) = some (.int .i64 x523_1)) ∧ (∀ w18, vS_2 w18 → w18.cell? (⟨w1.heap.size, 4, none⟩ : Addr) = some (.slice x524A_1 x524N_1 x524C_1))) ∧
  ∀ w19 : World, w19 = w16.alloc (.cells #[(.int .i64 x520_1), (.int .i64 x521_1), (.slice x522A_1 x522N_1 x522C_1), (.int .i64 x523_1), (.slice x524A_1 x524N_1 x524C_1)] 59 (0, 0)) →
  vS_2 w19 ∧
  ∃ (x54A_1 : Option Addr), ∃ (x54N_1 : Nat), ∃ (x54C_1 : Nat), ∃ w20 : World, (Builtin.append_ #[52, 52] 52 #[(.slice x51A_1 x51N_1 x51C_1), (.slice (some (⟨w16.heap.size, 0, none⟩ : Addr)) 1 1)]).run Try.prog w19 = .ok (.slice x54A_1 x54N_1 x54C_1) w20 ∧
  vS_2 w20 ∧
  (((∃ u, w20.cell? (⟨wB, 1, none⟩ : Addr) = some u) ∧ w20.frozen? (⟨wB, 1, none⟩ : Addr) = false)) ∧ ∀ w21 : World, w21 = (w20.setCell (⟨wB, 1, none⟩ : Addr) (.slice x54A_1 x54N_1 x54C_1)) →
  R (.int .i64 0) w21))))))
theorem coadjutorref24_Ward_Submit.vc_eq (wB : Nat) (m0 : Int) (m1 : Int) (m2 : Int) (m3 : Int) (m4 : Int) (m5 : Int) (m6 : ByteArray) (a0 : Int) (a1 : Int) (a2A : Option Addr) (a2N : Nat) (a2C : Nat) (a3 : Int) (a4A : Option Addr) (a4N : Nat) (a4C : Nat) (w : World) (R : Value → World → Prop) : fnV Try.prog Try.f27 (.tk 0 (.tk 1 (.tk 2 (.tk 3 (.tk 4 (.tk 5 (.alt 6 (.tk 7 (.fin (.at_ 2 2 (.at_ 2 6 (.k .nil) (.at_ 2 11 (.k .nil) (.c .nil (.c .nil (.c .nil (.c .nil (.tk 0 (.tk 1 (.tk 2 (.tk 3 (.tk 4 (.tk 5 (.alt 6 (.alt 7 (.tk 8 (.tk 9 (.last 10 .nil))) .nil) .nil))))))))))))) (.k (.c .nil (.c .nil (.c .nil (.tk 0 (.tk 1 (.tk 2 (.tk 3 (.tk 4 (.tk 5 (.alt 6 (.alt 7 (.tk 8 (.tk 9 (.last 10 .nil))) .nil) .nil)))))))))))))) .nil))))))) [(.pointer (some (⟨wB, 0, none⟩ : Addr))), (.agg #[(.int .i64 m0), (.int .i64 m1), (.int .i64 m2), (.int .i64 m3), (.int .i64 m4), (.int .i64 m5), (.string m6)]), (.agg #[(.int .i64 a0), (.int .i64 a1), (.slice a2A a2N a2C), (.int .i64 a3), (.slice a4A a4N a4C)])] w R = coadjutorref24_Ward_Submit.vc wB m0 m1 m2 m3 m4 m5 m6 a0 a1 a2A a2N a2C a3 a4A a4N a4C w R := by kernel_rfl
theorem coadjutorref24_Ward_Submit.calls (wB : Nat) (m0 : Int) (m1 : Int) (m2 : Int) (m3 : Int) (m4 : Int) (m5 : Int) (m6 : ByteArray) (a0 : Int) (a1 : Int) (a2A : Option Addr) (a2N : Nat) (a2C : Nat) (a3 : Int) (a4A : Option Addr) (a4N : Nat) (a4C : Nat) {w : World} {R : Value → World → Prop} (h : coadjutorref24_Ward_Submit.vc wB m0 m1 m2 m3 m4 m5 m6 a0 a1 a2A a2N a2C a3 a4A a4N a4C w R) : Calls Try.prog 27 #[(.pointer (some (⟨wB, 0, none⟩ : Addr))), (.agg #[(.int .i64 m0), (.int .i64 m1), (.int .i64 m2), (.int .i64 m3), (.int .i64 m4), (.int .i64 m5), (.string m6)]), (.agg #[(.int .i64 a0), (.int .i64 a1), (.slice a2A a2N a2C), (.int .i64 a3), (.slice a4A a4N a4C)])] w (Ret R) :=
  calls_V fit Try.func27 (.tk 0 (.tk 1 (.tk 2 (.tk 3 (.tk 4 (.tk 5 (.alt 6 (.tk 7 (.fin (.at_ 2 2 (.at_ 2 6 (.k .nil) (.at_ 2 11 (.k .nil) (.c .nil (.c .nil (.c .nil (.c .nil (.tk 0 (.tk 1 (.tk 2 (.tk 3 (.tk 4 (.tk 5 (.alt 6 (.alt 7 (.tk 8 (.tk 9 (.last 10 .nil))) .nil) .nil))))))))))))) (.k (.c .nil (.c .nil (.c .nil (.tk 0 (.tk 1 (.tk 2 (.tk 3 (.tk 4 (.tk 5 (.alt 6 (.alt 7 (.tk 8 (.tk 9 (.last 10 .nil))) .nil) .nil)))))))))))))) .nil))))))) (by rw [show (#[(.pointer (some (⟨wB, 0, none⟩ : Addr))), (.agg #[(.int .i64 m0), (.int .i64 m1), (.int .i64 m2), (.int .i64 m3), (.int .i64 m4), (.int .i64 m5), (.string m6)]), (.agg #[(.int .i64 a0), (.int .i64 a1), (.slice a2A a2N a2C), (.int .i64 a3), (.slice a4A a4N a4C)])] : Array Value).toList = [(.pointer (some (⟨wB, 0, none⟩ : Addr))), (.agg #[(.int .i64 m0), (.int .i64 m1), (.int .i64 m2), (.int .i64 m3), (.int .i64 m4), (.int .i64 m5), (.string m6)]), (.agg #[(.int .i64 a0), (.int .i64 a1), (.slice a2A a2N a2C), (.int .i64 a3), (.slice a4A a4N a4C)])] from rfl, coadjutorref24_Ward_Submit.vc_eq]; exact h)
/-- function 26 -/
def coadjutorref24_Ward_Cut.vc (wB : Nat) (vat : Int) (w : World) (R : Value → World → Prop) : Prop :=
  ∀ w1 : World, w1 = w.alloc (.cells #[(.int .i64 0), (.int .i64 0), (.slice none 0 0), (.int .i64 0), (.slice none 0 0)] 59 (0, 0)) →
  ∃ (x10A : Option Addr), ∃ (x10N : Nat), ∃ (x10C : Nat), w1.cell? (⟨wB, 1, none⟩ : Addr) = some (.slice x10A x10N x10C) ∧
  (0 ≤ vat ∧ vat < ((x10N : Nat) : Int)) ∧ someV x10A fun p =>
  ∃ (x130 : Int), ∃ (x131 : Int), ∃ (x132A : Option Addr), ∃ (x132N : Nat), ∃ (x132C : Nat), ∃ (x133 : Int), ∃ (x134A : Option Addr), ∃ (x134N : Nat), ∃ (x134C : Nat), (w1.cell? (p.add (vat.toNat * 5)) = some (.int .i64 x130) ∧ w1.cell? ((p.add (vat.toNat * 5)).add 1) = some (.int .i64 x131) ∧ w1.cell? ((p.add (vat.toNat * 5)).add 2) = some (.slice x132A x132N x132C) ∧ w1.cell? ((p.add (vat.toNat * 5)).add 3) = some (.int .i64 x133) ∧ w1.cell? ((p.add (vat.toNat * 5)).add 4) = some (.slice x134A x134N x134C)) ∧
  ∀ w2 : World, w2 = w1.alloc (.cells #[(.int .i64 0), (.int .i64 0), (.slice none 0 0), (.int .i64 0), (.slice none 0 0)] 59 (0, 0)) →
  (((∃ u, w2.cell? (⟨w1.heap.size, 0, none⟩ : Addr) = some u) ∧ w2.frozen? (⟨w1.heap.size, 0, none⟩ : Addr) = false) ∧ ((∃ u, w2.cell? (⟨w1.heap.size, 1, none⟩ : Addr) = some u) ∧ w2.frozen? (⟨w1.heap.size, 1, none⟩ : Addr) = false) ∧ ((∃ u, w2.cell? (⟨w1.heap.size, 2, none⟩ : Addr) = some u) ∧ w2.frozen? (⟨w1.heap.size, 2, none⟩ : Addr) = false) ∧ ((∃ u, w2.cell? (⟨w1.heap.size, 3, none⟩ : Addr) = some u) ∧ w2.frozen? (⟨w1.heap.size, 3, none⟩ : Addr) = false) ∧ ((∃ u, w2.cell? (⟨w1.heap.size, 4, none⟩ : Addr) = some u) ∧ w2.frozen? (⟨w1.heap.size, 4, none⟩ : Addr) = false)) ∧ ∀ w3 : World, w3 = (((((w2.setCell (⟨w1.heap.size, 0, none⟩ : Addr) (.int .i64 x130)).setCell (⟨w1.heap.size, 1, none⟩ : Addr) (.int .i64 x131)).setCell (⟨w1.heap.size, 2, none⟩ : Addr) (.slice x132A x132N x132C)).setCell (⟨w1.heap.size, 3, none⟩ : Addr) (.int .i64 x133)).setCell (⟨w1.heap.size, 4, none⟩ : Addr) (.slice x134A x134N x134C)) →
  ∀ w4 : World, w4 = w3.alloc (.cells #[] 59 (0, 0)) →
  ∃ (x18A : Option Addr), ∃ (x18N : Nat), ∃ (x18C : Nat), w4.cell? (⟨wB, 1, none⟩ : Addr) = some (.slice x18A x18N x18C) ∧
  (0 ≤ vat ∧ vat ≤ ((x18C : Nat) : Int)) ∧
  ∃ (x21A : Option Addr), ∃ (x21N : Nat), ∃ (x21C : Nat), ∃ w5 : World, (Builtin.append_ #[52, 52] 52 #[(.slice (some (⟨w3.heap.size, 0, none⟩ : Addr)) 0 0), (.slice (if x18C = 0 then x18A else x18A.map (·.add (0 * 5))) (vat.toNat - 0) (x18C - 0))]).run Try.prog w4 = .ok (.slice x21A x21N x21C) w5 ∧
  ∃ (x27A : Option Addr), ∃ (x27N : Nat), ∃ (x27C : Nat), w5.cell? (⟨wB, 1, none⟩ : Addr) = some (.slice x27A x27N x27C) ∧
  (0 ≤ (IntKind.i64.wrap (vat + 1)) ∧ (IntKind.i64.wrap (vat + 1)) ≤ ((x27N : Nat) : Int)) ∧
  ∃ (x31A : Option Addr), ∃ (x31N : Nat), ∃ (x31C : Nat), ∃ w6 : World, (Builtin.append_ #[52, 52] 52 #[(.slice x21A x21N x21C), (.slice (if x27C = (IntKind.i64.wrap (vat + 1)).toNat then x27A else x27A.map (·.add ((IntKind.i64.wrap (vat + 1)).toNat * 5))) (x27N - (IntKind.i64.wrap (vat + 1)).toNat) (x27C - (IntKind.i64.wrap (vat + 1)).toNat))]).run Try.prog w5 = .ok (.slice x31A x31N x31C) w6 ∧
  (((∃ u, w6.cell? (⟨wB, 1, none⟩ : Addr) = some u) ∧ w6.frozen? (⟨wB, 1, none⟩ : Addr) = false)) ∧ ∀ w7 : World, w7 = (w6.setCell (⟨wB, 1, none⟩ : Addr) (.slice x31A x31N x31C)) →
  ∃ (x340 : Int), ∃ (x341 : Int), ∃ (x342A : Option Addr), ∃ (x342N : Nat), ∃ (x342C : Nat), ∃ (x343 : Int), ∃ (x344A : Option Addr), ∃ (x344N : Nat), ∃ (x344C : Nat), (w7.cell? (⟨w1.heap.size, 0, none⟩ : Addr) = some (.int .i64 x340) ∧ w7.cell? (⟨w1.heap.size, 1, none⟩ : Addr) = some (.int .i64 x341) ∧ w7.cell? (⟨w1.heap.size, 2, none⟩ : Addr) = some (.slice x342A x342N x342C) ∧ w7.cell? (⟨w1.heap.size, 3, none⟩ : Addr) = some (.int .i64 x343) ∧ w7.cell? (⟨w1.heap.size, 4, none⟩ : Addr) = some (.slice x344A x344N x344C)) ∧
  (((∃ u, w7.cell? (⟨w.heap.size, 0, none⟩ : Addr) = some u) ∧ w7.frozen? (⟨w.heap.size, 0, none⟩ : Addr) = false) ∧ ((∃ u, w7.cell? (⟨w.heap.size, 1, none⟩ : Addr) = some u) ∧ w7.frozen? (⟨w.heap.size, 1, none⟩ : Addr) = false) ∧ ((∃ u, w7.cell? (⟨w.heap.size, 2, none⟩ : Addr) = some u) ∧ w7.frozen? (⟨w.heap.size, 2, none⟩ : Addr) = false) ∧ ((∃ u, w7.cell? (⟨w.heap.size, 3, none⟩ : Addr) = some u) ∧ w7.frozen? (⟨w.heap.size, 3, none⟩ : Addr) = false) ∧ ((∃ u, w7.cell? (⟨w.heap.size, 4, none⟩ : Addr) = some u) ∧ w7.frozen? (⟨w.heap.size, 4, none⟩ : Addr) = false)) ∧ ∀ w8 : World, w8 = (((((w7.setCell (⟨w.heap.size, 0, none⟩ : Addr) (.int .i64 x340)).setCell (⟨w.heap.size, 1, none⟩ : Addr) (.int .i64 x341)).setCell (⟨w.heap.size, 2, none⟩ : Addr) (.slice x342A x342N x342C)).setCell (⟨w.heap.size, 3, none⟩ : Addr) (.int .i64 x343)).setCell (⟨w.heap.size, 4, none⟩ : Addr) (.slice x344A x344N x344C)) →
  ∃ (r00 : Int), ∃ (r01 : Int), ∃ (r02A : Option Addr), ∃ (r02N : Nat), ∃ (r02C : Nat), ∃ (r03 : Int), ∃ (r04A : Option Addr), ∃ (r04N : Nat), ∃ (r04C : Nat), (w8.cell? (⟨w.heap.size, 0, none⟩ : Addr) = some (.int .i64 r00) ∧ w8.cell? (⟨w.heap.size, 1, none⟩ : Addr) = some (.int .i64 r01) ∧ w8.cell? (⟨w.heap.size, 2, none⟩ : Addr) = some (.slice r02A r02N r02C) ∧ w8.cell? (⟨w.heap.size, 3, none⟩ : Addr) = some (.int .i64 r03) ∧ w8.cell? (⟨w.heap.size, 4, none⟩ : Addr) = some (.slice r04A r04N r04C)) ∧
  R (.agg #[(.int .i64 r00), (.int .i64 r01), (.slice r02A r02N r02C), (.int .i64 r03), (.slice r04A r04N r04C)]) w8
theorem coadjutorref24_Ward_Cut.vc_eq (wB : Nat) (vat : Int) (w : World) (R : Value → World → Prop) : fnV Try.prog Try.f26 .nil [(.pointer (some (⟨wB, 0, none⟩ : Addr))), (.int .i64 vat)] w R = coadjutorref24_Ward_Cut.vc wB vat w R := by kernel_rfl
theorem coadjutorref24_Ward_Cut.calls (wB : Nat) (vat : Int) {w : World} {R : Value → World → Prop} (h : coadjutorref24_Ward_Cut.vc wB vat w R) : Calls Try.prog 26 #[(.pointer (some (⟨wB, 0, none⟩ : Addr))), (.int .i64 vat)] w (Ret R) :=
  calls_V fit Try.func26 .nil (by rw [show (#[(.pointer (some (⟨wB, 0, none⟩ : Addr))), (.int .i64 vat)] : Array Value).toList = [(.pointer (some (⟨wB, 0, none⟩ : Addr))), (.int .i64 vat)] from rfl, coadjutorref24_Ward_Cut.vc_eq]; exact h)
end Go.Proofs.Ytamkffjmggbekaa.Vc
