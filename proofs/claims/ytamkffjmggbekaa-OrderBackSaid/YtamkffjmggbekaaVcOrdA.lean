import Derived.Test.YtamkffjmggbekaaVc
import Derived.Test.YtamkffjmggbekaaH
import Derived.Test.YtamkffjmggbekaaProg
import Derived.KernelRfl
set_option linter.unusedVariables false
set_option maxRecDepth 100000
namespace Go.Proofs.Ytamkffjmggbekaa.Vc
open Go Go.Proofs Go.Proofs.Ytamkffjmggbekaa.V
/-- function 42 -/
def order_Name.vc (kind : Int) (w : World) (R : Value → World → Prop) : Prop :=
  ∀ w1 : World, w1 = w.alloc (.cells #[(.string (ByteArray.mk #[115, 117, 98, 109, 105, 116])), (.string (ByteArray.mk #[99, 97, 110, 99, 101, 108])), (.string (ByteArray.mk #[112, 111, 108, 108])), (.string (ByteArray.mk #[97, 100, 109, 105, 116])), (.string (ByteArray.mk #[112, 105, 99, 107])), (.string (ByteArray.mk #[110, 111, 116, 101])), (.string (ByteArray.mk #[98, 101, 103, 105, 110])), (.string (ByteArray.mk #[99, 104, 117, 110, 107])), (.string (ByteArray.mk #[115, 101, 97, 108])), (.string (ByteArray.mk #[116, 114, 121])), (.string (ByteArray.mk #[112, 114, 111, 109, 111, 116, 101])), (.string (ByteArray.mk #[97, 98, 111, 114, 116])), (.string (ByteArray.mk #[115, 116, 97, 116, 117, 115]))] 9 (0, 0)) →
  (decide (kind < (1 : Int)) = true →
  R (.string (ByteArray.mk #[])) w1) ∧
  (decide (kind < (1 : Int)) = false →
  (decide (kind > (13 : Int)) = true →
  R (.string (ByteArray.mk #[])) w1) ∧
  (decide (kind > (13 : Int)) = false →
  (0 ≤ (IntKind.i64.wrap (kind - 1)) ∧ (IntKind.i64.wrap (kind - 1)) < ((13 : Nat) : Int)) ∧
  ∃ (x15 : ByteArray), w1.cell? ((⟨w.heap.size, 0, none⟩ : Addr).add ((IntKind.i64.wrap (kind - 1)).toNat * 1)) = some (.string x15) ∧
  R (.string x15) w1))
theorem order_Name.vc_eq (kind : Int) (w : World) (R : Value → World → Prop) : fnV Try.prog Try.f42 (.at_ 2 2 (.k .nil) (.c .nil .nil)) [(.int .i64 kind)] w R = order_Name.vc kind w R := by kernel_rfl
theorem order_Name.calls (kind : Int) {w : World} {R : Value → World → Prop} (h : order_Name.vc kind w R) : Calls Try.prog 42 #[(.int .i64 kind)] w (Ret R) :=
  calls_V fit Try.func42 (.at_ 2 2 (.k .nil) (.c .nil .nil)) (by rw [show (#[(.int .i64 kind)] : Array Value).toList = [(.int .i64 kind)] from rfl, order_Name.vc_eq]; exact h)
/-- function 135 -/
def order_writer_num.vc (wB : Nat) (n : Addr) (w : World) (R : Value → World → Prop) : Prop :=
  ∃ vS : World → Prop, ∀ w1 : World, w1 = w.drew → vS w1 ∧
  ∃ (x9 : Int), (∀ w2, vS w2 → w2.cell? n = some (.int .i64 x9)) ∧
  ∀ w3 : World, w3 = w1.alloc (.cells #[(.int .i64 (IntKind.i64.wrap (x9 + 2147483648)))] 3 (0, 0)) →
  vS w3 ∧
  Calls Try.prog 63 #[(.pointer (some (⟨wB, 0, none⟩ : Addr))), (.slice (some (⟨w1.heap.size, 0, none⟩ : Addr)) 1 1)] w3 (Ret fun v w4 => v = .tuple #[] ∧
  vS w4 ∧
  R (.tuple #[]) w4)
theorem order_writer_num.vc_eq (wB : Nat) (n : Addr) (w : World) (R : Value → World → Prop) : fnV Try.prog Try.f135 (.tk 0 (.tk 1 (.tk 2 (.tk 3 (.tk 4 (.tk 5 (.tk 6 (.alt 7 (.alt 8 (.fin .nil) .nil) .nil)))))))) [(.pointer (some (⟨wB, 0, none⟩ : Addr))), (.pointer (some n))] w R = order_writer_num.vc wB n w R := by kernel_rfl
theorem order_writer_num.calls (wB : Nat) (n : Addr) {w : World} {R : Value → World → Prop} (h : order_writer_num.vc wB n w R) : Calls Try.prog 135 #[(.pointer (some (⟨wB, 0, none⟩ : Addr))), (.pointer (some n))] w (Ret R) :=
  calls_V fit Try.func135 (.tk 0 (.tk 1 (.tk 2 (.tk 3 (.tk 4 (.tk 5 (.tk 6 (.alt 7 (.alt 8 (.fin .nil) .nil) .nil)))))))) (by rw [show (#[(.pointer (some (⟨wB, 0, none⟩ : Addr))), (.pointer (some n))] : Array Value).toList = [(.pointer (some (⟨wB, 0, none⟩ : Addr))), (.pointer (some n))] from rfl, order_writer_num.vc_eq]; exact h)
/-- function 134 -/
def order_writer_flag.vc (wB : Nat) (b : Addr) (w : World) (R : Value → World → Prop) : Prop :=
  ∃ (x6 : Bool), w.cell? b = some (.bool x6) ∧
  (x6 = true →
  ∀ w1 : World, w1 = w.alloc (.cells #[(.int .u8 1)] 5 (0, 0)) →
  Calls Try.prog 75 #[(.pointer (some (⟨wB, 0, none⟩ : Addr))), (.slice (some (⟨w.heap.size, 0, none⟩ : Addr)) 1 1)] w1 (Ret fun v w2 => v = .tuple #[] ∧
  R (.tuple #[]) w2)) ∧
  (x6 = false →
  ∀ w3 : World, w3 = w.alloc (.cells #[(.int .u8 0)] 5 (0, 0)) →
  Calls Try.prog 75 #[(.pointer (some (⟨wB, 0, none⟩ : Addr))), (.slice (some (⟨w.heap.size, 0, none⟩ : Addr)) 1 1)] w3 (Ret fun v_1 w4 => v_1 = .tuple #[] ∧
  R (.tuple #[]) w4))
theorem order_writer_flag.vc_eq (wB : Nat) (b : Addr) (w : World) (R : Value → World → Prop) : fnV Try.prog Try.f134 (.c .nil .nil) [(.pointer (some (⟨wB, 0, none⟩ : Addr))), (.pointer (some b))] w R = order_writer_flag.vc wB b w R := by kernel_rfl
theorem order_writer_flag.calls (wB : Nat) (b : Addr) {w : World} {R : Value → World → Prop} (h : order_writer_flag.vc wB b w R) : Calls Try.prog 134 #[(.pointer (some (⟨wB, 0, none⟩ : Addr))), (.pointer (some b))] w (Ret R) :=
  calls_V fit Try.func134 (.c .nil .nil) (by rw [show (#[(.pointer (some (⟨wB, 0, none⟩ : Addr))), (.pointer (some b))] : Array Value).toList = [(.pointer (some (⟨wB, 0, none⟩ : Addr))), (.pointer (some b))] from rfl, order_writer_flag.vc_eq]; exact h)
/-- function 136 -/
def order_writer_row.vc (wB : Nat) (list : Addr) (w : World) (R : Value → World → Prop) : Prop :=
  ∃ vS : World → Prop, ∀ w1 : World, w1 = w.drew → vS w1 ∧
  ∃ (x11A : Option Addr), ∃ (x11N : Nat), ∃ (x11C : Nat), (∀ w2, vS w2 → w2.cell? list = some (.slice x11A x11N x11C)) ∧
  ∀ w3 : World, w3 = w1.alloc (.cells #[(.int .i64 ((x11N : Nat) : Int))] 3 (0, 0)) →
  vS w3 ∧
  Calls Try.prog 63 #[(.pointer (some (⟨wB, 0, none⟩ : Addr))), (.slice (some (⟨w1.heap.size, 0, none⟩ : Addr)) 1 1)] w3 (Ret fun v w4 => v = .tuple #[] ∧
  vS w4 ∧
  ∃ (x17A : Option Addr), ∃ (x17N : Nat), ∃ (x17C : Nat), w4.cell? list = some (.slice x17A x17N x17C) ∧
  ∃ vI : Int → Nat → World → Prop, (∃ vk_2 : Nat, vI 0 vk_2 w4) ∧
  ∀ (jk : Nat → Value) (x19 : Int), ∀ (vk : Nat) (w5 : World), vI x19 vk w5 →
  (decide (x19 < ((x17N : Nat) : Int)) = true →
  (0 ≤ x19 ∧ x19 < ((x17N : Nat) : Int)) ∧ someV x17A fun p =>
  ∃ (x22 : Int), w5.cell? (p.add (x19.toNat * 1)) = some (.int .i64 x22) ∧
  ∀ w6 : World, w6 = w5.alloc (.cells #[(.int .i64 0)] 3 (0, 0)) →
  (((∃ u, w6.cell? (⟨w5.heap.size, 0, none⟩ : Addr) = some u) ∧ w6.frozen? (⟨w5.heap.size, 0, none⟩ : Addr) = false)) ∧ ∀ w7 : World, w7 = (w6.setCell (⟨w5.heap.size, 0, none⟩ : Addr) (.int .i64 x22)) →
  Calls Try.prog 135 #[(.pointer (some (⟨wB, 0, none⟩ : Addr))), (.pointer (some (⟨w5.heap.size, 0, none⟩ : Addr)))] w7 (Ret fun v_1 w8 => v_1 = .tuple #[] ∧
  ∃ vk_1 : Nat, vk_1 < vk ∧ vI (IntKind.i64.wrap (x19 + 1)) vk_1 w8)) ∧
  (decide (x19 < ((x17N : Nat) : Int)) = false →
  R (.tuple #[]) w5))
theorem order_writer_row.vc_eq (wB : Nat) (list : Addr) (w : World) (R : Value → World → Prop) : fnV Try.prog Try.f136 (.tk 0 (.tk 1 (.tk 2 (.tk 3 (.tk 4 (.tk 5 (.tk 6 (.alt 7 (.alt 8 (.fin (.lp [(5, none), (19, some (.int .i64)), (20, none), (21, none), (22, none), (23, none), (24, none), (25, none)] (.c .nil .nil))) .nil) .nil)))))))) [(.pointer (some (⟨wB, 0, none⟩ : Addr))), (.pointer (some list))] w R = order_writer_row.vc wB list w R := by kernel_rfl
theorem order_writer_row.calls (wB : Nat) (list : Addr) {w : World} {R : Value → World → Prop} (h : order_writer_row.vc wB list w R) : Calls Try.prog 136 #[(.pointer (some (⟨wB, 0, none⟩ : Addr))), (.pointer (some list))] w (Ret R) :=
  calls_V fit Try.func136 (.tk 0 (.tk 1 (.tk 2 (.tk 3 (.tk 4 (.tk 5 (.tk 6 (.alt 7 (.alt 8 (.fin (.lp [(5, none), (19, some (.int .i64)), (20, none), (21, none), (22, none), (23, none), (24, none), (25, none)] (.c .nil .nil))) .nil) .nil)))))))) (by rw [show (#[(.pointer (some (⟨wB, 0, none⟩ : Addr))), (.pointer (some list))] : Array Value).toList = [(.pointer (some (⟨wB, 0, none⟩ : Addr))), (.pointer (some list))] from rfl, order_writer_row.vc_eq]; exact h)
/-- function 137 -/
def order_writer_text.vc (wB : Nat) (s : Addr) (w : World) (R : Value → World → Prop) : Prop :=
  ∃ vS : World → Prop, ∀ w1 : World, w1 = w.drew → vS w1 ∧
  ∃ (x9 : ByteArray), (∀ w2, vS w2 → w2.cell? s = some (.string x9)) ∧
  ∀ w3 : World, w3 = w1.alloc (.cells #[(.string x9)] 9 (0, 0)) →
  vS w3 ∧
  Calls Try.prog 64 #[(.pointer (some (⟨wB, 0, none⟩ : Addr))), (.slice (some (⟨w1.heap.size, 0, none⟩ : Addr)) 1 1)] w3 (Ret fun v w4 => v = .tuple #[] ∧
  vS w4 ∧
  R (.tuple #[]) w4)
theorem order_writer_text.vc_eq (wB : Nat) (s : Addr) (w : World) (R : Value → World → Prop) : fnV Try.prog Try.f137 (.tk 0 (.tk 1 (.tk 2 (.tk 3 (.tk 4 (.tk 5 (.alt 6 (.alt 7 (.fin .nil) .nil) .nil))))))) [(.pointer (some (⟨wB, 0, none⟩ : Addr))), (.pointer (some s))] w R = order_writer_text.vc wB s w R := by kernel_rfl
theorem order_writer_text.calls (wB : Nat) (s : Addr) {w : World} {R : Value → World → Prop} (h : order_writer_text.vc wB s w R) : Calls Try.prog 137 #[(.pointer (some (⟨wB, 0, none⟩ : Addr))), (.pointer (some s))] w (Ret R) :=
  calls_V fit Try.func137 (.tk 0 (.tk 1 (.tk 2 (.tk 3 (.tk 4 (.tk 5 (.alt 6 (.alt 7 (.fin .nil) .nil) .nil))))))) (by rw [show (#[(.pointer (some (⟨wB, 0, none⟩ : Addr))), (.pointer (some s))] : Array Value).toList = [(.pointer (some (⟨wB, 0, none⟩ : Addr))), (.pointer (some s))] from rfl, order_writer_text.vc_eq]; exact h)
/-- function 139 -/
def order_reader_num.vc (rB : Nat) (n : Addr) (w : World) (R : Value → World → Prop) : Prop :=
  ∃ (x8 : Option Addr), w.cell? (⟨rB, 0, none⟩ : Addr) = some (.pointer x8) ∧
  Calls Try.prog 69 #[(.pointer x8), (.int .i64 4294967295)] w (Ret fun v w1 => ∃ (x9 : Int), v = (.int .i64 x9) ∧
  (((∃ u, w1.cell? n = some u) ∧ w1.frozen? n = false)) ∧ ∀ w2 : World, w2 = (w1.setCell n (.int .i64 (IntKind.i64.wrap (x9 - 2147483648)))) →
  R (.tuple #[]) w2)
theorem order_reader_num.vc_eq (rB : Nat) (n : Addr) (w : World) (R : Value → World → Prop) : fnV Try.prog Try.f139 .nil [(.pointer (some (⟨rB, 0, none⟩ : Addr))), (.pointer (some n))] w R = order_reader_num.vc rB n w R := by kernel_rfl
theorem order_reader_num.calls (rB : Nat) (n : Addr) {w : World} {R : Value → World → Prop} (h : order_reader_num.vc rB n w R) : Calls Try.prog 139 #[(.pointer (some (⟨rB, 0, none⟩ : Addr))), (.pointer (some n))] w (Ret R) :=
  calls_V fit Try.func139 .nil (by rw [show (#[(.pointer (some (⟨rB, 0, none⟩ : Addr))), (.pointer (some n))] : Array Value).toList = [(.pointer (some (⟨rB, 0, none⟩ : Addr))), (.pointer (some n))] from rfl, order_reader_num.vc_eq]; exact h)
/-- function 138 -/
def order_reader_flag.vc (rB : Nat) (b : Addr) (w : World) (R : Value → World → Prop) : Prop :=
  ∃ (x8 : Option Addr), w.cell? (⟨rB, 0, none⟩ : Addr) = some (.pointer x8) ∧
  Calls Try.prog 82 #[(.pointer x8)] w (Ret fun v w1 => ∃ (x9 : Int), v = (.int .u8 x9) ∧
  (((∃ u, w1.cell? b = some u) ∧ w1.frozen? b = false)) ∧ ∀ w2 : World, w2 = (w1.setCell b (.bool (x9 == (1 : Int)))) →
  ∃ (x18 : Bool), w2.cell? (⟨rB, 1, none⟩ : Addr) = some (.bool x18) ∧
  (x18 = true →
  (((∃ u, w2.cell? (⟨rB, 1, none⟩ : Addr) = some u) ∧ w2.frozen? (⟨rB, 1, none⟩ : Addr) = false)) ∧ ∀ w3 : World, w3 = (w2.setCell (⟨rB, 1, none⟩ : Addr) (.bool true)) →
  R (.tuple #[]) w3) ∧
  (x18 = false →
  (((∃ u, w2.cell? (⟨rB, 1, none⟩ : Addr) = some u) ∧ w2.frozen? (⟨rB, 1, none⟩ : Addr) = false)) ∧ ∀ w4 : World, w4 = (w2.setCell (⟨rB, 1, none⟩ : Addr) (.bool (decide (x9 > (1 : Int))))) →
  R (.tuple #[]) w4))
theorem order_reader_flag.vc_eq (rB : Nat) (b : Addr) (w : World) (R : Value → World → Prop) : fnV Try.prog Try.f138 (.at_ 2 5 .nil .nil) [(.pointer (some (⟨rB, 0, none⟩ : Addr))), (.pointer (some b))] w R = order_reader_flag.vc rB b w R := by kernel_rfl
theorem order_reader_flag.calls (rB : Nat) (b : Addr) {w : World} {R : Value → World → Prop} (h : order_reader_flag.vc rB b w R) : Calls Try.prog 138 #[(.pointer (some (⟨rB, 0, none⟩ : Addr))), (.pointer (some b))] w (Ret R) :=
  calls_V fit Try.func138 (.at_ 2 5 .nil .nil) (by rw [show (#[(.pointer (some (⟨rB, 0, none⟩ : Addr))), (.pointer (some b))] : Array Value).toList = [(.pointer (some (⟨rB, 0, none⟩ : Addr))), (.pointer (some b))] from rfl, order_reader_flag.vc_eq]; exact h)
/-- function 140 -/
def order_reader_row.vc (rB : Nat) (list : Addr) (w : World) (R : Value → World → Prop) : Prop :=
  ∃ (x8 : Option Addr), w.cell? (⟨rB, 0, none⟩ : Addr) = some (.pointer x8) ∧
  Calls Try.prog 69 #[(.pointer x8), (.int .i64 32)] w (Ret fun v w1 => ∃ (x9 : Int), v = (.int .i64 x9) ∧
  ∃ vI : Int → Nat → World → Prop, (∃ vk_2 : Nat, vI 0 vk_2 w1) ∧
  ∀ (jk : Nat → Value) (x10 : Int), ∀ (vk : Nat) (w2 : World), vI x10 vk w2 →
  (decide (x10 < x9) = true →
  ∀ w3 : World, w3 = w2.alloc (.cells #[(.int .i64 0)] 3 (0, 0)) →
  (((∃ u, w3.cell? (⟨w2.heap.size, 0, none⟩ : Addr) = some u) ∧ w3.frozen? (⟨w2.heap.size, 0, none⟩ : Addr) = false)) ∧ ∀ w4 : World, w4 = (w3.setCell (⟨w2.heap.size, 0, none⟩ : Addr) (.int .i64 0)) →
  Calls Try.prog 139 #[(.pointer (some (⟨rB, 0, none⟩ : Addr))), (.pointer (some (⟨w2.heap.size, 0, none⟩ : Addr)))] w4 (Ret fun v_1 w5 => v_1 = .tuple #[] ∧
  ∃ vS : World → Prop, ∀ w6 : World, w6 = w5.drew → vS w6 ∧
  ∃ (x17A : Option Addr), ∃ (x17N : Nat), ∃ (x17C : Nat), (∀ w7, vS w7 → w7.cell? list = some (.slice x17A x17N x17C)) ∧
  ∃ (x18 : Int), (∀ w8, vS w8 → w8.cell? (⟨w2.heap.size, 0, none⟩ : Addr) = some (.int .i64 x18)) ∧
  ∀ w9 : World, w9 = w6.alloc (.cells #[(.int .i64 x18)] 3 (0, 0)) →
  vS w9 ∧
  ∃ (x20A : Option Addr), ∃ (x20N : Nat), ∃ (x20C : Nat), ∃ w10 : World, (Builtin.append_ #[29, 29] 29 #[(.slice x17A x17N x17C), (.slice (some (⟨w6.heap.size, 0, none⟩ : Addr)) 1 1)]).run Try.prog w9 = .ok (.slice x20A x20N x20C) w10 ∧
  vS w10 ∧
  (((∃ u, w10.cell? list = some u) ∧ w10.frozen? list = false)) ∧ ∀ w11 : World, w11 = (w10.setCell list (.slice x20A x20N x20C)) →
  ∃ vk_1 : Nat, vk_1 < vk ∧ vI (IntKind.i64.wrap (x10 + 1)) vk_1 w11)) ∧
  (decide (x10 < x9) = false →
  R (.tuple #[]) w2))
theorem order_reader_row.vc_eq (rB : Nat) (list : Addr) (w : World) (R : Value → World → Prop) : fnV Try.prog Try.f140 (.lp [(4, none), (10, some (.int .i64)), (11, none), (12, none), (13, none), (14, none), (15, none), (16, none), (17, none), (18, none), (19, none), (20, none), (21, none), (22, none)] (.c (.tk 0 (.tk 1 (.tk 2 (.tk 3 (.tk 4 (.alt 5 (.alt 6 (.tk 7 (.last 8 (.fin .nil))) .nil) .nil)))))) .nil)) [(.pointer (some (⟨rB, 0, none⟩ : Addr))), (.pointer (some list))] w R = order_reader_row.vc rB list w R := by kernel_rfl
theorem order_reader_row.calls (rB : Nat) (list : Addr) {w : World} {R : Value → World → Prop} (h : order_reader_row.vc rB list w R) : Calls Try.prog 140 #[(.pointer (some (⟨rB, 0, none⟩ : Addr))), (.pointer (some list))] w (Ret R) :=
  calls_V fit Try.func140 (.lp [(4, none), (10, some (.int .i64)), (11, none), (12, none), (13, none), (14, none), (15, none), (16, none), (17, none), (18, none), (19, none), (20, none), (21, none), (22, none)] (.c (.tk 0 (.tk 1 (.tk 2 (.tk 3 (.tk 4 (.alt 5 (.alt 6 (.tk 7 (.last 8 (.fin .nil))) .nil) .nil)))))) .nil)) (by rw [show (#[(.pointer (some (⟨rB, 0, none⟩ : Addr))), (.pointer (some list))] : Array Value).toList = [(.pointer (some (⟨rB, 0, none⟩ : Addr))), (.pointer (some list))] from rfl, order_reader_row.vc_eq]; exact h)
/-- function 141 -/
def order_reader_text.vc (rB : Nat) (s : Addr) (w : World) (R : Value → World → Prop) : Prop :=
  ∃ (x8 : Option Addr), w.cell? (⟨rB, 0, none⟩ : Addr) = some (.pointer x8) ∧
  Calls Try.prog 70 #[(.pointer x8), (.int .i64 1024)] w (Ret fun v w1 => ∃ (x9 : ByteArray), v = (.string x9) ∧
  (((∃ u, w1.cell? s = some u) ∧ w1.frozen? s = false)) ∧ ∀ w2 : World, w2 = (w1.setCell s (.string x9)) →
  R (.tuple #[]) w2)
theorem order_reader_text.vc_eq (rB : Nat) (s : Addr) (w : World) (R : Value → World → Prop) : fnV Try.prog Try.f141 .nil [(.pointer (some (⟨rB, 0, none⟩ : Addr))), (.pointer (some s))] w R = order_reader_text.vc rB s w R := by kernel_rfl
theorem order_reader_text.calls (rB : Nat) (s : Addr) {w : World} {R : Value → World → Prop} (h : order_reader_text.vc rB s w R) : Calls Try.prog 141 #[(.pointer (some (⟨rB, 0, none⟩ : Addr))), (.pointer (some s))] w (Ret R) :=
  calls_V fit Try.func141 .nil (by rw [show (#[(.pointer (some (⟨rB, 0, none⟩ : Addr))), (.pointer (some s))] : Array Value).toList = [(.pointer (some (⟨rB, 0, none⟩ : Addr))), (.pointer (some s))] from rfl, order_reader_text.vc_eq]; exact h)
/-- function 143 -/
def order_cleaner_num.vc (n : Addr) (w : World) (R : Value → World → Prop) : Prop :=
  ∀ w1 : World, w1 = w.alloc (.cells #[] 171 (0, 0)) →
  (((∃ u, w1.cell? n = some u) ∧ w1.frozen? n = false)) ∧ ∀ w2 : World, w2 = (w1.setCell n (.int .i64 0)) →
  R (.tuple #[]) w2
theorem order_cleaner_num.vc_eq (n : Addr) (w : World) (R : Value → World → Prop) : fnV Try.prog Try.f143 .nil [(.agg #[]), (.pointer (some n))] w R = order_cleaner_num.vc n w R := by kernel_rfl
theorem order_cleaner_num.calls (n : Addr) {w : World} {R : Value → World → Prop} (h : order_cleaner_num.vc n w R) : Calls Try.prog 143 #[(.agg #[]), (.pointer (some n))] w (Ret R) :=
  calls_V fit Try.func143 .nil (by rw [show (#[(.agg #[]), (.pointer (some n))] : Array Value).toList = [(.agg #[]), (.pointer (some n))] from rfl, order_cleaner_num.vc_eq]; exact h)
/-- function 142 -/
def order_cleaner_flag.vc (b : Addr) (w : World) (R : Value → World → Prop) : Prop :=
  ∀ w1 : World, w1 = w.alloc (.cells #[] 171 (0, 0)) →
  (((∃ u, w1.cell? b = some u) ∧ w1.frozen? b = false)) ∧ ∀ w2 : World, w2 = (w1.setCell b (.bool false)) →
  R (.tuple #[]) w2
theorem order_cleaner_flag.vc_eq (b : Addr) (w : World) (R : Value → World → Prop) : fnV Try.prog Try.f142 .nil [(.agg #[]), (.pointer (some b))] w R = order_cleaner_flag.vc b w R := by kernel_rfl
theorem order_cleaner_flag.calls (b : Addr) {w : World} {R : Value → World → Prop} (h : order_cleaner_flag.vc b w R) : Calls Try.prog 142 #[(.agg #[]), (.pointer (some b))] w (Ret R) :=
  calls_V fit Try.func142 .nil (by rw [show (#[(.agg #[]), (.pointer (some b))] : Array Value).toList = [(.agg #[]), (.pointer (some b))] from rfl, order_cleaner_flag.vc_eq]; exact h)
/-- function 144 -/
def order_cleaner_row.vc (list : Addr) (w : World) (R : Value → World → Prop) : Prop :=
  ∀ w1 : World, w1 = w.alloc (.cells #[] 171 (0, 0)) →
  (((∃ u, w1.cell? list = some u) ∧ w1.frozen? list = false)) ∧ ∀ w2 : World, w2 = (w1.setCell list (.slice none 0 0)) →
  R (.tuple #[]) w2
theorem order_cleaner_row.vc_eq (list : Addr) (w : World) (R : Value → World → Prop) : fnV Try.prog Try.f144 .nil [(.agg #[]), (.pointer (some list))] w R = order_cleaner_row.vc list w R := by kernel_rfl
theorem order_cleaner_row.calls (list : Addr) {w : World} {R : Value → World → Prop} (h : order_cleaner_row.vc list w R) : Calls Try.prog 144 #[(.agg #[]), (.pointer (some list))] w (Ret R) :=
  calls_V fit Try.func144 .nil (by rw [show (#[(.agg #[]), (.pointer (some list))] : Array Value).toList = [(.agg #[]), (.pointer (some list))] from rfl, order_cleaner_row.vc_eq]; exact h)
/-- function 145 -/
def order_cleaner_text.vc (s : Addr) (w : World) (R : Value → World → Prop) : Prop :=
  ∀ w1 : World, w1 = w.alloc (.cells #[] 171 (0, 0)) →
  (((∃ u, w1.cell? s = some u) ∧ w1.frozen? s = false)) ∧ ∀ w2 : World, w2 = (w1.setCell s (.string (ByteArray.mk #[]))) →
  R (.tuple #[]) w2
theorem order_cleaner_text.vc_eq (s : Addr) (w : World) (R : Value → World → Prop) : fnV Try.prog Try.f145 .nil [(.agg #[]), (.pointer (some s))] w R = order_cleaner_text.vc s w R := by kernel_rfl
theorem order_cleaner_text.calls (s : Addr) {w : World} {R : Value → World → Prop} (h : order_cleaner_text.vc s w R) : Calls Try.prog 145 #[(.agg #[]), (.pointer (some s))] w (Ret R) :=
  calls_V fit Try.func145 .nil (by rw [show (#[(.agg #[]), (.pointer (some s))] : Array Value).toList = [(.agg #[]), (.pointer (some s))] from rfl, order_cleaner_text.vc_eq]; exact h)
/-- function 76 -/
def order_Command_visit.vc_w (cB : Nat) (vB : Nat) (w : World) (R : Value → World → Prop) : Prop :=
  ∃ (x7 : Int), w.cell? (⟨cB, 0, none⟩ : Addr) = some (.int .i64 x7) ∧
  ((x7 == (1 : Int)) = true →
  ∃ vS : World → Prop, ∀ w1 : World, w1 = w.drew → vS w1 ∧
  Calls Try.prog 135 #[(.pointer (some (⟨vB, 0, none⟩ : Addr))), (.pointer (some (⟨cB, 1, none⟩ : Addr)))] w1 (Ret fun v w2 => v = .tuple #[] ∧
  vS w2 ∧
  ∃ vS_1 : World → Prop, ∀ w3 : World, w3 = w2.drew → vS_1 w3 ∧
  Calls Try.prog 135 #[(.pointer (some (⟨vB, 0, none⟩ : Addr))), (.pointer (some (⟨cB, 2, none⟩ : Addr)))] w3 (Ret fun v_1 w4 => v_1 = .tuple #[] ∧
  vS_1 w4 ∧
  ∃ vS_2 : World → Prop, ∀ w5 : World, w5 = w4.drew → vS_2 w5 ∧
  Calls Try.prog 136 #[(.pointer (some (⟨vB, 0, none⟩ : Addr))), (.pointer (some (⟨cB, 4, none⟩ : Addr)))] w5 (Ret fun v_2 w6 => v_2 = .tuple #[] ∧
  vS_2 w6 ∧
  ∃ vS_3 : World → Prop, ∀ w7 : World, w7 = w6.drew → vS_3 w7 ∧
  Calls Try.prog 136 #[(.pointer (some (⟨vB, 0, none⟩ : Addr))), (.pointer (some (⟨cB, 5, none⟩ : Addr)))] w7 (Ret fun v_3 w8 => v_3 = .tuple #[] ∧
  vS_3 w8 ∧
  R (.tuple #[]) w8))))) ∧
  ((x7 == (1 : Int)) = false →
  ((x7 == (2 : Int)) = true →
  (x7 == (2 : Int)) = true ∧
  ∃ vS_4 : World → Prop, ∀ w9 : World, w9 = w.drew → vS_4 w9 ∧
  Calls Try.prog 135 #[(.pointer (some (⟨vB, 0, none⟩ : Addr))), (.pointer (some (⟨cB, 1, none⟩ : Addr)))] w9 (Ret fun v_4 w10 => v_4 = .tuple #[] ∧
  vS_4 w10 ∧
  R (.tuple #[]) w10)) ∧
  ((x7 == (2 : Int)) = false →
  ((x7 == (3 : Int)) = true →
  ∃ vS_5 : World → Prop, ∀ w11 : World, w11 = w.drew → vS_5 w11 ∧
  Calls Try.prog 135 #[(.pointer (some (⟨vB, 0, none⟩ : Addr))), (.pointer (some (⟨cB, 1, none⟩ : Addr)))] w11 (Ret fun v_5 w12 => v_5 = .tuple #[] ∧
  vS_5 w12 ∧
  R (.tuple #[]) w12)) ∧
  ((x7 == (3 : Int)) = false →
  ((x7 == (5 : Int)) = true →
  (x7 == (5 : Int)) = true ∧
  ∃ vS_6 : World → Prop, ∀ w13 : World, w13 = w.drew → vS_6 w13 ∧
  Calls Try.prog 135 #[(.pointer (some (⟨vB, 0, none⟩ : Addr))), (.pointer (some (⟨cB, 2, none⟩ : Addr)))] w13 (Ret fun v_6 w14 => v_6 = .tuple #[] ∧
  vS_6 w14 ∧
  R (.tuple #[]) w14)) ∧
  ((x7 == (5 : Int)) = false →
  ((x7 == (10 : Int)) = true →
  ∃ vS_7 : World → Prop, ∀ w15 : World, w15 = w.drew → vS_7 w15 ∧
  Calls Try.prog 135 #[(.pointer (some (⟨vB, 0, none⟩ : Addr))), (.pointer (some (⟨cB, 2, none⟩ : Addr)))] w15 (Ret fun v_7 w16 => v_7 = .tuple #[] ∧
  vS_7 w16 ∧
  R (.tuple #[]) w16)) ∧
  ((x7 == (10 : Int)) = false →
  ((x7 == (6 : Int)) = true →
  ∃ vS_8 : World → Prop, ∀ w17 : World, w17 = w.drew → vS_8 w17 ∧
  Calls Try.prog 134 #[(.pointer (some (⟨vB, 0, none⟩ : Addr))), (.pointer (some (⟨cB, 3, none⟩ : Addr)))] w17 (Ret fun v_8 w18 => v_8 = .tuple #[] ∧
  vS_8 w18 ∧
  R (.tuple #[]) w18)) ∧
  ((x7 == (6 : Int)) = false →
  ((x7 == (7 : Int)) = true →
  ∃ vS_9 : World → Prop, ∀ w19 : World, w19 = w.drew → vS_9 w19 ∧
  Calls Try.prog 137 #[(.pointer (some (⟨vB, 0, none⟩ : Addr))), (.pointer (some (⟨cB, 6, none⟩ : Addr)))] w19 (Ret fun v_9 w20 => v_9 = .tuple #[] ∧
  vS_9 w20 ∧
  R (.tuple #[]) w20)) ∧
  ((x7 == (7 : Int)) = false →
  ((x7 == (8 : Int)) = true →
  ∃ vS_10 : World → Prop, ∀ w21 : World, w21 = w.drew → vS_10 w21 ∧
  Calls Try.prog 135 #[(.pointer (some (⟨vB, 0, none⟩ : Addr))), (.pointer (some (⟨cB, 2, none⟩ : Addr)))] w21 (Ret fun v_10 w22 => v_10 = .tuple #[] ∧
  vS_10 w22 ∧
  ∃ vS_11 : World → Prop, ∀ w23 : World, w23 = w22.drew → vS_11 w23 ∧
  Calls Try.prog 137 #[(.pointer (some (⟨vB, 0, none⟩ : Addr))), (.pointer (some (⟨cB, 6, none⟩ : Addr)))] w23 (Ret fun v_11 w24 => v_11 = .tuple #[] ∧
  vS_11 w24 ∧
  R (.tuple #[]) w24))) ∧
  ((x7 == (8 : Int)) = false →
  R (.tuple #[]) w))))))))
theorem order_Command_visit.vc_w_eq (cB : Nat) (vB : Nat) (w : World) (R : Value → World → Prop) : fnV Try.prog Try.f76 (.c (.tk 0 (.tk 1 (.tk 2 (.tk 3 (.tk 4 (.tk 5 (.tk 6 (.alt 7 (.fin (.tk 0 (.tk 1 (.tk 2 (.tk 3 (.tk 4 (.tk 5 (.tk 6 (.alt 7 (.fin (.tk 0 (.tk 1 (.tk 2 (.tk 3 (.tk 4 (.tk 5 (.tk 6 (.alt 7 (.fin (.tk 0 (.tk 1 (.tk 2 (.tk 3 (.tk 4 (.tk 5 (.tk 6 (.alt 7 (.fin .nil) .nil))))))))) .nil))))))))) .nil))))))))) .nil)))))))) (.c (.y (.tk 0 (.tk 1 (.tk 2 (.tk 3 (.tk 4 (.tk 5 (.tk 6 (.alt 7 (.fin .nil) .nil))))))))) (.c (.tk 0 (.tk 1 (.tk 2 (.tk 3 (.tk 4 (.tk 5 (.tk 6 (.alt 7 (.fin .nil) .nil)))))))) (.c (.y (.tk 0 (.tk 1 (.tk 2 (.tk 3 (.tk 4 (.tk 5 (.tk 6 (.alt 7 (.fin .nil) .nil))))))))) (.c (.tk 0 (.tk 1 (.tk 2 (.tk 3 (.tk 4 (.tk 5 (.tk 6 (.alt 7 (.fin .nil) .nil)))))))) (.c (.tk 0 (.tk 1 (.tk 2 (.tk 3 (.tk 4 (.tk 5 (.tk 6 (.alt 7 (.fin .nil) .nil)))))))) (.c (.tk 0 (.tk 1 (.tk 2 (.tk 3 (.tk 4 (.tk 5 (.tk 6 (.alt 7 (.fin .nil) .nil)))))))) (.c (.tk 0 (.tk 1 (.tk 2 (.tk 3 (.tk 4 (.tk 5 (.tk 6 (.alt 7 (.fin (.tk 0 (.tk 1 (.tk 2 (.tk 3 (.tk 4 (.tk 5 (.tk 6 (.alt 7 (.fin .nil) .nil))))))))) .nil)))))))) .nil)))))))) [(.pointer (some (⟨cB, 0, none⟩ : Addr))), (.iface 132 (.pointer (some (⟨vB, 0, none⟩ : Addr))))] w R = order_Command_visit.vc_w cB vB w R := by kernel_rfl
theorem order_Command_visit.calls_w (cB : Nat) (vB : Nat) {w : World} {R : Value → World → Prop} (h : order_Command_visit.vc_w cB vB w R) : Calls Try.prog 76 #[(.pointer (some (⟨cB, 0, none⟩ : Addr))), (.iface 132 (.pointer (some (⟨vB, 0, none⟩ : Addr))))] w (Ret R) :=
  calls_V fit Try.func76 (.c (.tk 0 (.tk 1 (.tk 2 (.tk 3 (.tk 4 (.tk 5 (.tk 6 (.alt 7 (.fin (.tk 0 (.tk 1 (.tk 2 (.tk 3 (.tk 4 (.tk 5 (.tk 6 (.alt 7 (.fin (.tk 0 (.tk 1 (.tk 2 (.tk 3 (.tk 4 (.tk 5 (.tk 6 (.alt 7 (.fin (.tk 0 (.tk 1 (.tk 2 (.tk 3 (.tk 4 (.tk 5 (.tk 6 (.alt 7 (.fin .nil) .nil))))))))) .nil))))))))) .nil))))))))) .nil)))))))) (.c (.y (.tk 0 (.tk 1 (.tk 2 (.tk 3 (.tk 4 (.tk 5 (.tk 6 (.alt 7 (.fin .nil) .nil))))))))) (.c (.tk 0 (.tk 1 (.tk 2 (.tk 3 (.tk 4 (.tk 5 (.tk 6 (.alt 7 (.fin .nil) .nil)))))))) (.c (.y (.tk 0 (.tk 1 (.tk 2 (.tk 3 (.tk 4 (.tk 5 (.tk 6 (.alt 7 (.fin .nil) .nil))))))))) (.c (.tk 0 (.tk 1 (.tk 2 (.tk 3 (.tk 4 (.tk 5 (.tk 6 (.alt 7 (.fin .nil) .nil)))))))) (.c (.tk 0 (.tk 1 (.tk 2 (.tk 3 (.tk 4 (.tk 5 (.tk 6 (.alt 7 (.fin .nil) .nil)))))))) (.c (.tk 0 (.tk 1 (.tk 2 (.tk 3 (.tk 4 (.tk 5 (.tk 6 (.alt 7 (.fin .nil) .nil)))))))) (.c (.tk 0 (.tk 1 (.tk 2 (.tk 3 (.tk 4 (.tk 5 (.tk 6 (.alt 7 (.fin (.tk 0 (.tk 1 (.tk 2 (.tk 3 (.tk 4 (.tk 5 (.tk 6 (.alt 7 (.fin .nil) .nil))))))))) .nil)))))))) .nil)))))))) (by rw [show (#[(.pointer (some (⟨cB, 0, none⟩ : Addr))), (.iface 132 (.pointer (some (⟨vB, 0, none⟩ : Addr))))] : Array Value).toList = [(.pointer (some (⟨cB, 0, none⟩ : Addr))), (.iface 132 (.pointer (some (⟨vB, 0, none⟩ : Addr))))] from rfl, order_Command_visit.vc_w_eq]; exact h)
/-- function 76 -/
def order_Command_visit.vc_r (cB : Nat) (vB : Nat) (w : World) (R : Value → World → Prop) : Prop :=
  ∃ (x7 : Int), w.cell? (⟨cB, 0, none⟩ : Addr) = some (.int .i64 x7) ∧
  ((x7 == (1 : Int)) = true →
  ∃ vS : World → Prop, ∀ w1 : World, w1 = w.drew → vS w1 ∧
  Calls Try.prog 139 #[(.pointer (some (⟨vB, 0, none⟩ : Addr))), (.pointer (some (⟨cB, 1, none⟩ : Addr)))] w1 (Ret fun v w2 => v = .tuple #[] ∧
  vS w2 ∧
  ∃ vS_1 : World → Prop, ∀ w3 : World, w3 = w2.drew → vS_1 w3 ∧
  Calls Try.prog 139 #[(.pointer (some (⟨vB, 0, none⟩ : Addr))), (.pointer (some (⟨cB, 2, none⟩ : Addr)))] w3 (Ret fun v_1 w4 => v_1 = .tuple #[] ∧
  vS_1 w4 ∧
  ∃ vS_2 : World → Prop, ∀ w5 : World, w5 = w4.drew → vS_2 w5 ∧
  Calls Try.prog 140 #[(.pointer (some (⟨vB, 0, none⟩ : Addr))), (.pointer (some (⟨cB, 4, none⟩ : Addr)))] w5 (Ret fun v_2 w6 => v_2 = .tuple #[] ∧
  vS_2 w6 ∧
  ∃ vS_3 : World → Prop, ∀ w7 : World, w7 = w6.drew → vS_3 w7 ∧
  Calls Try.prog 140 #[(.pointer (some (⟨vB, 0, none⟩ : Addr))), (.pointer (some (⟨cB, 5, none⟩ : Addr)))] w7 (Ret fun v_3 w8 => v_3 = .tuple #[] ∧
  vS_3 w8 ∧
  R (.tuple #[]) w8))))) ∧
  ((x7 == (1 : Int)) = false →
  ((x7 == (2 : Int)) = true →
  (x7 == (2 : Int)) = true ∧
  ∃ vS_4 : World → Prop, ∀ w9 : World, w9 = w.drew → vS_4 w9 ∧
  Calls Try.prog 139 #[(.pointer (some (⟨vB, 0, none⟩ : Addr))), (.pointer (some (⟨cB, 1, none⟩ : Addr)))] w9 (Ret fun v_4 w10 => v_4 = .tuple #[] ∧
  vS_4 w10 ∧
  R (.tuple #[]) w10)) ∧
  ((x7 == (2 : Int)) = false →
  ((x7 == (3 : Int)) = true →
  ∃ vS_5 : World → Prop, ∀ w11 : World, w11 = w.drew → vS_5 w11 ∧
  Calls Try.prog 139 #[(.pointer (some (⟨vB, 0, none⟩ : Addr))), (.pointer (some (⟨cB, 1, none⟩ : Addr)))] w11 (Ret fun v_5 w12 => v_5 = .tuple #[] ∧
  vS_5 w12 ∧
  R (.tuple #[]) w12)) ∧
  ((x7 == (3 : Int)) = false →
  ((x7 == (5 : Int)) = true →
  (x7 == (5 : Int)) = true ∧
  ∃ vS_6 : World → Prop, ∀ w13 : World, w13 = w.drew → vS_6 w13 ∧
  Calls Try.prog 139 #[(.pointer (some (⟨vB, 0, none⟩ : Addr))), (.pointer (some (⟨cB, 2, none⟩ : Addr)))] w13 (Ret fun v_6 w14 => v_6 = .tuple #[] ∧
  vS_6 w14 ∧
  R (.tuple #[]) w14)) ∧
  ((x7 == (5 : Int)) = false →
  ((x7 == (10 : Int)) = true →
  ∃ vS_7 : World → Prop, ∀ w15 : World, w15 = w.drew → vS_7 w15 ∧
  Calls Try.prog 139 #[(.pointer (some (⟨vB, 0, none⟩ : Addr))), (.pointer (some (⟨cB, 2, none⟩ : Addr)))] w15 (Ret fun v_7 w16 => v_7 = .tuple #[] ∧
  vS_7 w16 ∧
  R (.tuple #[]) w16)) ∧
  ((x7 == (10 : Int)) = false →
  ((x7 == (6 : Int)) = true →
  ∃ vS_8 : World → Prop, ∀ w17 : World, w17 = w.drew → vS_8 w17 ∧
  Calls Try.prog 138 #[(.pointer (some (⟨vB, 0, none⟩ : Addr))), (.pointer (some (⟨cB, 3, none⟩ : Addr)))] w17 (Ret fun v_8 w18 => v_8 = .tuple #[] ∧
  vS_8 w18 ∧
  R (.tuple #[]) w18)) ∧
  ((x7 == (6 : Int)) = false →
  ((x7 == (7 : Int)) = true →
  ∃ vS_9 : World → Prop, ∀ w19 : World, w19 = w.drew → vS_9 w19 ∧
  Calls Try.prog 141 #[(.pointer (some (⟨vB, 0, none⟩ : Addr))), (.pointer (some (⟨cB, 6, none⟩ : Addr)))] w19 (Ret fun v_9 w20 => v_9 = .tuple #[] ∧
  vS_9 w20 ∧
  R (.tuple #[]) w20)) ∧
  ((x7 == (7 : Int)) = false →
  ((x7 == (8 : Int)) = true →
  ∃ vS_10 : World → Prop, ∀ w21 : World, w21 = w.drew → vS_10 w21 ∧
  Calls Try.prog 139 #[(.pointer (some (⟨vB, 0, none⟩ : Addr))), (.pointer (some (⟨cB, 2, none⟩ : Addr)))] w21 (Ret fun v_10 w22 => v_10 = .tuple #[] ∧
  vS_10 w22 ∧
  ∃ vS_11 : World → Prop, ∀ w23 : World, w23 = w22.drew → vS_11 w23 ∧
  Calls Try.prog 141 #[(.pointer (some (⟨vB, 0, none⟩ : Addr))), (.pointer (some (⟨cB, 6, none⟩ : Addr)))] w23 (Ret fun v_11 w24 => v_11 = .tuple #[] ∧
  vS_11 w24 ∧
  R (.tuple #[]) w24))) ∧
  ((x7 == (8 : Int)) = false →
  R (.tuple #[]) w))))))))
theorem order_Command_visit.vc_r_eq (cB : Nat) (vB : Nat) (w : World) (R : Value → World → Prop) : fnV Try.prog Try.f76 (.c (.tk 0 (.tk 1 (.tk 2 (.tk 3 (.tk 4 (.tk 5 (.tk 6 (.alt 7 (.fin (.tk 0 (.tk 1 (.tk 2 (.tk 3 (.tk 4 (.tk 5 (.tk 6 (.alt 7 (.fin (.tk 0 (.tk 1 (.tk 2 (.tk 3 (.tk 4 (.tk 5 (.tk 6 (.alt 7 (.fin (.tk 0 (.tk 1 (.tk 2 (.tk 3 (.tk 4 (.tk 5 (.tk 6 (.alt 7 (.fin .nil) .nil))))))))) .nil))))))))) .nil))))))))) .nil)))))))) (.c (.y (.tk 0 (.tk 1 (.tk 2 (.tk 3 (.tk 4 (.tk 5 (.tk 6 (.alt 7 (.fin .nil) .nil))))))))) (.c (.tk 0 (.tk 1 (.tk 2 (.tk 3 (.tk 4 (.tk 5 (.tk 6 (.alt 7 (.fin .nil) .nil)))))))) (.c (.y (.tk 0 (.tk 1 (.tk 2 (.tk 3 (.tk 4 (.tk 5 (.tk 6 (.alt 7 (.fin .nil) .nil))))))))) (.c (.tk 0 (.tk 1 (.tk 2 (.tk 3 (.tk 4 (.tk 5 (.tk 6 (.alt 7 (.fin .nil) .nil)))))))) (.c (.tk 0 (.tk 1 (.tk 2 (.tk 3 (.tk 4 (.tk 5 (.tk 6 (.alt 7 (.fin .nil) .nil)))))))) (.c (.tk 0 (.tk 1 (.tk 2 (.tk 3 (.tk 4 (.tk 5 (.tk 6 (.alt 7 (.fin .nil) .nil)))))))) (.c (.tk 0 (.tk 1 (.tk 2 (.tk 3 (.tk 4 (.tk 5 (.tk 6 (.alt 7 (.fin (.tk 0 (.tk 1 (.tk 2 (.tk 3 (.tk 4 (.tk 5 (.tk 6 (.alt 7 (.fin .nil) .nil))))))))) .nil)))))))) .nil)))))))) [(.pointer (some (⟨cB, 0, none⟩ : Addr))), (.iface 137 (.pointer (some (⟨vB, 0, none⟩ : Addr))))] w R = order_Command_visit.vc_r cB vB w R := by kernel_rfl
theorem order_Command_visit.calls_r (cB : Nat) (vB : Nat) {w : World} {R : Value → World → Prop} (h : order_Command_visit.vc_r cB vB w R) : Calls Try.prog 76 #[(.pointer (some (⟨cB, 0, none⟩ : Addr))), (.iface 137 (.pointer (some (⟨vB, 0, none⟩ : Addr))))] w (Ret R) :=
  calls_V fit Try.func76 (.c (.tk 0 (.tk 1 (.tk 2 (.tk 3 (.tk 4 (.tk 5 (.tk 6 (.alt 7 (.fin (.tk 0 (.tk 1 (.tk 2 (.tk 3 (.tk 4 (.tk 5 (.tk 6 (.alt 7 (.fin (.tk 0 (.tk 1 (.tk 2 (.tk 3 (.tk 4 (.tk 5 (.tk 6 (.alt 7 (.fin (.tk 0 (.tk 1 (.tk 2 (.tk 3 (.tk 4 (.tk 5 (.tk 6 (.alt 7 (.fin .nil) .nil))))))))) .nil))))))))) .nil))))))))) .nil)))))))) (.c (.y (.tk 0 (.tk 1 (.tk 2 (.tk 3 (.tk 4 (.tk 5 (.tk 6 (.alt 7 (.fin .nil) .nil))))))))) (.c (.tk 0 (.tk 1 (.tk 2 (.tk 3 (.tk 4 (.tk 5 (.tk 6 (.alt 7 (.fin .nil) .nil)))))))) (.c (.y (.tk 0 (.tk 1 (.tk 2 (.tk 3 (.tk 4 (.tk 5 (.tk 6 (.alt 7 (.fin .nil) .nil))))))))) (.c (.tk 0 (.tk 1 (.tk 2 (.tk 3 (.tk 4 (.tk 5 (.tk 6 (.alt 7 (.fin .nil) .nil)))))))) (.c (.tk 0 (.tk 1 (.tk 2 (.tk 3 (.tk 4 (.tk 5 (.tk 6 (.alt 7 (.fin .nil) .nil)))))))) (.c (.tk 0 (.tk 1 (.tk 2 (.tk 3 (.tk 4 (.tk 5 (.tk 6 (.alt 7 (.fin .nil) .nil)))))))) (.c (.tk 0 (.tk 1 (.tk 2 (.tk 3 (.tk 4 (.tk 5 (.tk 6 (.alt 7 (.fin (.tk 0 (.tk 1 (.tk 2 (.tk 3 (.tk 4 (.tk 5 (.tk 6 (.alt 7 (.fin .nil) .nil))))))))) .nil)))))))) .nil)))))))) (by rw [show (#[(.pointer (some (⟨cB, 0, none⟩ : Addr))), (.iface 137 (.pointer (some (⟨vB, 0, none⟩ : Addr))))] : Array Value).toList = [(.pointer (some (⟨cB, 0, none⟩ : Addr))), (.iface 137 (.pointer (some (⟨vB, 0, none⟩ : Addr))))] from rfl, order_Command_visit.vc_r_eq]; exact h)
/-- function 76 -/
def order_Command_visit.vc_c (cB : Nat) (w : World) (R : Value → World → Prop) : Prop :=
  ∃ (x7 : Int), w.cell? (⟨cB, 0, none⟩ : Addr) = some (.int .i64 x7) ∧
  ((x7 == (1 : Int)) = true →
  ∃ vS : World → Prop, ∀ w1 : World, w1 = w.drew → vS w1 ∧
  Calls Try.prog 143 #[(.agg #[]), (.pointer (some (⟨cB, 1, none⟩ : Addr)))] w1 (Ret fun v w2 => v = .tuple #[] ∧
  vS w2 ∧
  ∃ vS_1 : World → Prop, ∀ w3 : World, w3 = w2.drew → vS_1 w3 ∧
  Calls Try.prog 143 #[(.agg #[]), (.pointer (some (⟨cB, 2, none⟩ : Addr)))] w3 (Ret fun v_1 w4 => v_1 = .tuple #[] ∧
  vS_1 w4 ∧
  ∃ vS_2 : World → Prop, ∀ w5 : World, w5 = w4.drew → vS_2 w5 ∧
  Calls Try.prog 144 #[(.agg #[]), (.pointer (some (⟨cB, 4, none⟩ : Addr)))] w5 (Ret fun v_2 w6 => v_2 = .tuple #[] ∧
  vS_2 w6 ∧
  ∃ vS_3 : World → Prop, ∀ w7 : World, w7 = w6.drew → vS_3 w7 ∧
  Calls Try.prog 144 #[(.agg #[]), (.pointer (some (⟨cB, 5, none⟩ : Addr)))] w7 (Ret fun v_3 w8 => v_3 = .tuple #[] ∧
  vS_3 w8 ∧
  R (.tuple #[]) w8))))) ∧
  ((x7 == (1 : Int)) = false →
  ((x7 == (2 : Int)) = true →
  (x7 == (2 : Int)) = true ∧
  ∃ vS_4 : World → Prop, ∀ w9 : World, w9 = w.drew → vS_4 w9 ∧
  Calls Try.prog 143 #[(.agg #[]), (.pointer (some (⟨cB, 1, none⟩ : Addr)))] w9 (Ret fun v_4 w10 => v_4 = .tuple #[] ∧
  vS_4 w10 ∧
  R (.tuple #[]) w10)) ∧
  ((x7 == (2 : Int)) = false →
  ((x7 == (3 : Int)) = true →
  ∃ vS_5 : World → Prop, ∀ w11 : World, w11 = w.drew → vS_5 w11 ∧
  Calls Try.prog 143 #[(.agg #[]), (.pointer (some (⟨cB, 1, none⟩ : Addr)))] w11 (Ret fun v_5 w12 => v_5 = .tuple #[] ∧
  vS_5 w12 ∧
  R (.tuple #[]) w12)) ∧
  ((x7 == (3 : Int)) = false →
  ((x7 == (5 : Int)) = true →
  (x7 == (5 : Int)) = true ∧
  ∃ vS_6 : World → Prop, ∀ w13 : World, w13 = w.drew → vS_6 w13 ∧
  Calls Try.prog 143 #[(.agg #[]), (.pointer (some (⟨cB, 2, none⟩ : Addr)))] w13 (Ret fun v_6 w14 => v_6 = .tuple #[] ∧
  vS_6 w14 ∧
  R (.tuple #[]) w14)) ∧
  ((x7 == (5 : Int)) = false →
  ((x7 == (10 : Int)) = true →
  ∃ vS_7 : World → Prop, ∀ w15 : World, w15 = w.drew → vS_7 w15 ∧
  Calls Try.prog 143 #[(.agg #[]), (.pointer (some (⟨cB, 2, none⟩ : Addr)))] w15 (Ret fun v_7 w16 => v_7 = .tuple #[] ∧
  vS_7 w16 ∧
  R (.tuple #[]) w16)) ∧
  ((x7 == (10 : Int)) = false →
  ((x7 == (6 : Int)) = true →
  ∃ vS_8 : World → Prop, ∀ w17 : World, w17 = w.drew → vS_8 w17 ∧
  Calls Try.prog 142 #[(.agg #[]), (.pointer (some (⟨cB, 3, none⟩ : Addr)))] w17 (Ret fun v_8 w18 => v_8 = .tuple #[] ∧
  vS_8 w18 ∧
  R (.tuple #[]) w18)) ∧
  ((x7 == (6 : Int)) = false →
  ((x7 == (7 : Int)) = true →
  ∃ vS_9 : World → Prop, ∀ w19 : World, w19 = w.drew → vS_9 w19 ∧
  Calls Try.prog 145 #[(.agg #[]), (.pointer (some (⟨cB, 6, none⟩ : Addr)))] w19 (Ret fun v_9 w20 => v_9 = .tuple #[] ∧
  vS_9 w20 ∧
  R (.tuple #[]) w20)) ∧
  ((x7 == (7 : Int)) = false →
  ((x7 == (8 : Int)) = true →
  ∃ vS_10 : World → Prop, ∀ w21 : World, w21 = w.drew → vS_10 w21 ∧
  Calls Try.prog 143 #[(.agg #[]), (.pointer (some (⟨cB, 2, none⟩ : Addr)))] w21 (Ret fun v_10 w22 => v_10 = .tuple #[] ∧
  vS_10 w22 ∧
  ∃ vS_11 : World → Prop, ∀ w23 : World, w23 = w22.drew → vS_11 w23 ∧
  Calls Try.prog 145 #[(.agg #[]), (.pointer (some (⟨cB, 6, none⟩ : Addr)))] w23 (Ret fun v_11 w24 => v_11 = .tuple #[] ∧
  vS_11 w24 ∧
  R (.tuple #[]) w24))) ∧
  ((x7 == (8 : Int)) = false →
  R (.tuple #[]) w))))))))
theorem order_Command_visit.vc_c_eq (cB : Nat) (w : World) (R : Value → World → Prop) : fnV Try.prog Try.f76 (.c (.tk 0 (.tk 1 (.tk 2 (.tk 3 (.tk 4 (.tk 5 (.tk 6 (.alt 7 (.fin (.tk 0 (.tk 1 (.tk 2 (.tk 3 (.tk 4 (.tk 5 (.tk 6 (.alt 7 (.fin (.tk 0 (.tk 1 (.tk 2 (.tk 3 (.tk 4 (.tk 5 (.tk 6 (.alt 7 (.fin (.tk 0 (.tk 1 (.tk 2 (.tk 3 (.tk 4 (.tk 5 (.tk 6 (.alt 7 (.fin .nil) .nil))))))))) .nil))))))))) .nil))))))))) .nil)))))))) (.c (.y (.tk 0 (.tk 1 (.tk 2 (.tk 3 (.tk 4 (.tk 5 (.tk 6 (.alt 7 (.fin .nil) .nil))))))))) (.c (.tk 0 (.tk 1 (.tk 2 (.tk 3 (.tk 4 (.tk 5 (.tk 6 (.alt 7 (.fin .nil) .nil)))))))) (.c (.y (.tk 0 (.tk 1 (.tk 2 (.tk 3 (.tk 4 (.tk 5 (.tk 6 (.alt 7 (.fin .nil) .nil))))))))) (.c (.tk 0 (.tk 1 (.tk 2 (.tk 3 (.tk 4 (.tk 5 (.tk 6 (.alt 7 (.fin .nil) .nil)))))))) (.c (.tk 0 (.tk 1 (.tk 2 (.tk 3 (.tk 4 (.tk 5 (.tk 6 (.alt 7 (.fin .nil) .nil)))))))) (.c (.tk 0 (.tk 1 (.tk 2 (.tk 3 (.tk 4 (.tk 5 (.tk 6 (.alt 7 (.fin .nil) .nil)))))))) (.c (.tk 0 (.tk 1 (.tk 2 (.tk 3 (.tk 4 (.tk 5 (.tk 6 (.alt 7 (.fin (.tk 0 (.tk 1 (.tk 2 (.tk 3 (.tk 4 (.tk 5 (.tk 6 (.alt 7 (.fin .nil) .nil))))))))) .nil)))))))) .nil)))))))) [(.pointer (some (⟨cB, 0, none⟩ : Addr))), (.iface 171 (.agg #[]))] w R = order_Command_visit.vc_c cB w R := by kernel_rfl
theorem order_Command_visit.calls_c (cB : Nat) {w : World} {R : Value → World → Prop} (h : order_Command_visit.vc_c cB w R) : Calls Try.prog 76 #[(.pointer (some (⟨cB, 0, none⟩ : Addr))), (.iface 171 (.agg #[]))] w (Ret R) :=
  calls_V fit Try.func76 (.c (.tk 0 (.tk 1 (.tk 2 (.tk 3 (.tk 4 (.tk 5 (.tk 6 (.alt 7 (.fin (.tk 0 (.tk 1 (.tk 2 (.tk 3 (.tk 4 (.tk 5 (.tk 6 (.alt 7 (.fin (.tk 0 (.tk 1 (.tk 2 (.tk 3 (.tk 4 (.tk 5 (.tk 6 (.alt 7 (.fin (.tk 0 (.tk 1 (.tk 2 (.tk 3 (.tk 4 (.tk 5 (.tk 6 (.alt 7 (.fin .nil) .nil))))))))) .nil))))))))) .nil))))))))) .nil)))))))) (.c (.y (.tk 0 (.tk 1 (.tk 2 (.tk 3 (.tk 4 (.tk 5 (.tk 6 (.alt 7 (.fin .nil) .nil))))))))) (.c (.tk 0 (.tk 1 (.tk 2 (.tk 3 (.tk 4 (.tk 5 (.tk 6 (.alt 7 (.fin .nil) .nil)))))))) (.c (.y (.tk 0 (.tk 1 (.tk 2 (.tk 3 (.tk 4 (.tk 5 (.tk 6 (.alt 7 (.fin .nil) .nil))))))))) (.c (.tk 0 (.tk 1 (.tk 2 (.tk 3 (.tk 4 (.tk 5 (.tk 6 (.alt 7 (.fin .nil) .nil)))))))) (.c (.tk 0 (.tk 1 (.tk 2 (.tk 3 (.tk 4 (.tk 5 (.tk 6 (.alt 7 (.fin .nil) .nil)))))))) (.c (.tk 0 (.tk 1 (.tk 2 (.tk 3 (.tk 4 (.tk 5 (.tk 6 (.alt 7 (.fin .nil) .nil)))))))) (.c (.tk 0 (.tk 1 (.tk 2 (.tk 3 (.tk 4 (.tk 5 (.tk 6 (.alt 7 (.fin (.tk 0 (.tk 1 (.tk 2 (.tk 3 (.tk 4 (.tk 5 (.tk 6 (.alt 7 (.fin .nil) .nil))))))))) .nil)))))))) .nil)))))))) (by rw [show (#[(.pointer (some (⟨cB, 0, none⟩ : Addr))), (.iface 171 (.agg #[]))] : Array Value).toList = [(.pointer (some (⟨cB, 0, none⟩ : Addr))), (.iface 171 (.agg #[]))] from rfl, order_Command_visit.vc_c_eq]; exact h)
end Go.Proofs.Ytamkffjmggbekaa.Vc
