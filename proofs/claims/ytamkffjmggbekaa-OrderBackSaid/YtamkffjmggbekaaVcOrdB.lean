import Derived.Test.YtamkffjmggbekaaVc
import Derived.Test.YtamkffjmggbekaaH
import Derived.Test.YtamkffjmggbekaaProg
import Derived.KernelRfl
set_option linter.unusedVariables false
set_option maxRecDepth 100000
namespace Go.Proofs.Ytamkffjmggbekaa.Vc
open Go Go.Proofs Go.Proofs.Ytamkffjmggbekaa.V
/-- function 40 -/
def order_Copy.vc (c0 : Int) (c1 : Int) (c2 : Int) (c3 : Bool) (c4A : Option Addr) (c4N : Nat) (c4C : Nat) (c5A : Option Addr) (c5N : Nat) (c5C : Nat) (c6 : ByteArray) (w : World) (R : Value → World → Prop) : Prop :=
  ∀ w1 : World, w1 = w.alloc (.cells #[(.int .i64 c0), (.int .i64 c1), (.int .i64 c2), (.bool c3), (.slice c4A c4N c4C), (.slice c5A c5N c5C), (.string c6)] 72 (0, 0)) →
  ∀ w2 : World, w2 = w1.alloc (.cells #[(.int .i64 0), (.int .i64 0), (.int .i64 0), (.bool false), (.slice none 0 0), (.slice none 0 0), (.string ByteArray.empty)] 72 (0, 0)) →
  ∃ vS : World → Prop, ∀ w3 : World, w3 = w2.drew → vS w3 ∧
  ∃ (x4A : Option Addr), ∃ (x4N : Nat), ∃ (x4C : Nat), (∀ w4, vS w4 → w4.cell? (⟨w.heap.size, 4, none⟩ : Addr) = some (.slice x4A x4N x4C)) ∧
  ∃ (x7A : Option Addr), ∃ (x7N : Nat), ∃ (x7C : Nat), (∀ w5, vS w5 → w5.cell? (⟨w.heap.size, 5, none⟩ : Addr) = some (.slice x7A x7N x7C)) ∧
  Calls Try.prog 54 #[(.slice x4A x4N x4C)] w3 (Ret fun v w6 => ∃ (x5A : Option Addr), ∃ (x5N : Nat), ∃ (x5C : Nat), v = (.slice x5A x5N x5C) ∧
  vS w6 ∧
  Calls Try.prog 54 #[(.slice x7A x7N x7C)] w6 (Ret fun v_1 w7 => ∃ (x8A : Option Addr), ∃ (x8N : Nat), ∃ (x8C : Nat), v_1 = (.slice x8A x8N x8C) ∧
  vS w7 ∧
  (((∃ u, w7.cell? (⟨w.heap.size, 4, none⟩ : Addr) = some u) ∧ w7.frozen? (⟨w.heap.size, 4, none⟩ : Addr) = false)) ∧ ∀ w8 : World, w8 = (w7.setCell (⟨w.heap.size, 4, none⟩ : Addr) (.slice x5A x5N x5C)) →
  (((∃ u, w8.cell? (⟨w.heap.size, 5, none⟩ : Addr) = some u) ∧ w8.frozen? (⟨w.heap.size, 5, none⟩ : Addr) = false)) ∧ ∀ w9 : World, w9 = (w8.setCell (⟨w.heap.size, 5, none⟩ : Addr) (.slice x8A x8N x8C)) →
  True ∧
  ∃ (x110 : Int), ∃ (x111 : Int), ∃ (x112 : Int), ∃ (x113 : Bool), ∃ (x114A : Option Addr), ∃ (x114N : Nat), ∃ (x114C : Nat), ∃ (x115A : Option Addr), ∃ (x115N : Nat), ∃ (x115C : Nat), ∃ (x116 : ByteArray), (w9.cell? (⟨w.heap.size, 0, none⟩ : Addr) = some (.int .i64 x110) ∧ w9.cell? (⟨w.heap.size, 1, none⟩ : Addr) = some (.int .i64 x111) ∧ w9.cell? (⟨w.heap.size, 2, none⟩ : Addr) = some (.int .i64 x112) ∧ w9.cell? (⟨w.heap.size, 3, none⟩ : Addr) = some (.bool x113) ∧ w9.cell? (⟨w.heap.size, 4, none⟩ : Addr) = some (.slice x114A x114N x114C) ∧ w9.cell? (⟨w.heap.size, 5, none⟩ : Addr) = some (.slice x115A x115N x115C) ∧ w9.cell? (⟨w.heap.size, 6, none⟩ : Addr) = some (.string x116)) ∧
  (((∃ u, w9.cell? (⟨w1.heap.size, 0, none⟩ : Addr) = some u) ∧ w9.frozen? (⟨w1.heap.size, 0, none⟩ : Addr) = false) ∧ ((∃ u, w9.cell? (⟨w1.heap.size, 1, none⟩ : Addr) = some u) ∧ w9.frozen? (⟨w1.heap.size, 1, none⟩ : Addr) = false) ∧ ((∃ u, w9.cell? (⟨w1.heap.size, 2, none⟩ : Addr) = some u) ∧ w9.frozen? (⟨w1.heap.size, 2, none⟩ : Addr) = false) ∧ ((∃ u, w9.cell? (⟨w1.heap.size, 3, none⟩ : Addr) = some u) ∧ w9.frozen? (⟨w1.heap.size, 3, none⟩ : Addr) = false) ∧ ((∃ u, w9.cell? (⟨w1.heap.size, 4, none⟩ : Addr) = some u) ∧ w9.frozen? (⟨w1.heap.size, 4, none⟩ : Addr) = false) ∧ ((∃ u, w9.cell? (⟨w1.heap.size, 5, none⟩ : Addr) = some u) ∧ w9.frozen? (⟨w1.heap.size, 5, none⟩ : Addr) = false) ∧ ((∃ u, w9.cell? (⟨w1.heap.size, 6, none⟩ : Addr) = some u) ∧ w9.frozen? (⟨w1.heap.size, 6, none⟩ : Addr) = false)) ∧ ∀ w10 : World, w10 = (((((((w9.setCell (⟨w1.heap.size, 0, none⟩ : Addr) (.int .i64 x110)).setCell (⟨w1.heap.size, 1, none⟩ : Addr) (.int .i64 x111)).setCell (⟨w1.heap.size, 2, none⟩ : Addr) (.int .i64 x112)).setCell (⟨w1.heap.size, 3, none⟩ : Addr) (.bool x113)).setCell (⟨w1.heap.size, 4, none⟩ : Addr) (.slice x114A x114N x114C)).setCell (⟨w1.heap.size, 5, none⟩ : Addr) (.slice x115A x115N x115C)).setCell (⟨w1.heap.size, 6, none⟩ : Addr) (.string x116)) →
  ∃ (r00 : Int), ∃ (r01 : Int), ∃ (r02 : Int), ∃ (r03 : Bool), ∃ (r04A : Option Addr), ∃ (r04N : Nat), ∃ (r04C : Nat), ∃ (r05A : Option Addr), ∃ (r05N : Nat), ∃ (r05C : Nat), ∃ (r06 : ByteArray), (w10.cell? (⟨w1.heap.size, 0, none⟩ : Addr) = some (.int .i64 r00) ∧ w10.cell? (⟨w1.heap.size, 1, none⟩ : Addr) = some (.int .i64 r01) ∧ w10.cell? (⟨w1.heap.size, 2, none⟩ : Addr) = some (.int .i64 r02) ∧ w10.cell? (⟨w1.heap.size, 3, none⟩ : Addr) = some (.bool r03) ∧ w10.cell? (⟨w1.heap.size, 4, none⟩ : Addr) = some (.slice r04A r04N r04C) ∧ w10.cell? (⟨w1.heap.size, 5, none⟩ : Addr) = some (.slice r05A r05N r05C) ∧ w10.cell? (⟨w1.heap.size, 6, none⟩ : Addr) = some (.string r06)) ∧
  R (.agg #[(.int .i64 r00), (.int .i64 r01), (.int .i64 r02), (.bool r03), (.slice r04A r04N r04C), (.slice r05A r05N r05C), (.string r06)]) w10))
theorem order_Copy.vc_eq (c0 : Int) (c1 : Int) (c2 : Int) (c3 : Bool) (c4A : Option Addr) (c4N : Nat) (c4C : Nat) (c5A : Option Addr) (c5N : Nat) (c5C : Nat) (c6 : ByteArray) (w : World) (R : Value → World → Prop) : fnV Try.prog Try.f40 (.tk 0 (.tk 1 (.tk 3 (.tk 4 (.alt 2 (.tk 6 (.alt 5 (.last 7 (.tk 8 (.alt 9 (.fin .nil) .nil))) .nil)) .nil))))) [(.agg #[(.int .i64 c0), (.int .i64 c1), (.int .i64 c2), (.bool c3), (.slice c4A c4N c4C), (.slice c5A c5N c5C), (.string c6)])] w R = order_Copy.vc c0 c1 c2 c3 c4A c4N c4C c5A c5N c5C c6 w R := by kernel_rfl
theorem order_Copy.calls (c0 : Int) (c1 : Int) (c2 : Int) (c3 : Bool) (c4A : Option Addr) (c4N : Nat) (c4C : Nat) (c5A : Option Addr) (c5N : Nat) (c5C : Nat) (c6 : ByteArray) {w : World} {R : Value → World → Prop} (h : order_Copy.vc c0 c1 c2 c3 c4A c4N c4C c5A c5N c5C c6 w R) : Calls Try.prog 40 #[(.agg #[(.int .i64 c0), (.int .i64 c1), (.int .i64 c2), (.bool c3), (.slice c4A c4N c4C), (.slice c5A c5N c5C), (.string c6)])] w (Ret R) :=
  calls_V fit Try.func40 (.tk 0 (.tk 1 (.tk 3 (.tk 4 (.alt 2 (.tk 6 (.alt 5 (.last 7 (.tk 8 (.alt 9 (.fin .nil) .nil))) .nil)) .nil))))) (by rw [show (#[(.agg #[(.int .i64 c0), (.int .i64 c1), (.int .i64 c2), (.bool c3), (.slice c4A c4N c4C), (.slice c5A c5N c5C), (.string c6)])] : Array Value).toList = [(.agg #[(.int .i64 c0), (.int .i64 c1), (.int .i64 c2), (.bool c3), (.slice c4A c4N c4C), (.slice c5A c5N c5C), (.string c6)])] from rfl, order_Copy.vc_eq]; exact h)
/-- function 44 -/
def order_Same.vc (a0 : Int) (a1 : Int) (a2 : Int) (a3 : Bool) (a4A : Option Addr) (a4N : Nat) (a4C : Nat) (a5A : Option Addr) (a5N : Nat) (a5C : Nat) (a6 : ByteArray) (b0 : Int) (b1 : Int) (b2 : Int) (b3 : Bool) (b4A : Option Addr) (b4N : Nat) (b4C : Nat) (b5A : Option Addr) (b5N : Nat) (b5C : Nat) (b6 : ByteArray) (w : World) (R : Value → World → Prop) : Prop :=
  ∀ w1 : World, w1 = w.alloc (.cells #[(.int .i64 a0), (.int .i64 a1), (.int .i64 a2), (.bool a3), (.slice a4A a4N a4C), (.slice a5A a5N a5C), (.string a6)] 72 (0, 0)) →
  ∀ w2 : World, w2 = w1.alloc (.cells #[(.int .i64 b0), (.int .i64 b1), (.int .i64 b2), (.bool b3), (.slice b4A b4N b4C), (.slice b5A b5N b5C), (.string b6)] 72 (0, 0)) →
  ∃ (x6 : Int), w2.cell? (⟨w.heap.size, 0, none⟩ : Addr) = some (.int .i64 x6) ∧
  ∃ (x8 : Int), w2.cell? (⟨w1.heap.size, 0, none⟩ : Addr) = some (.int .i64 x8) ∧
  ((x6 != x8) = true →
  R (.bool false) w2) ∧
  ((x6 != x8) = false →
  ∃ (x12 : Int), w2.cell? (⟨w.heap.size, 1, none⟩ : Addr) = some (.int .i64 x12) ∧
  ∃ (x14 : Int), w2.cell? (⟨w1.heap.size, 1, none⟩ : Addr) = some (.int .i64 x14) ∧
  ((x12 != x14) = true →
  R (.bool false) w2) ∧
  ((x12 != x14) = false →
  ∃ (x19 : Int), w2.cell? (⟨w.heap.size, 2, none⟩ : Addr) = some (.int .i64 x19) ∧
  ∃ (x21 : Int), w2.cell? (⟨w1.heap.size, 2, none⟩ : Addr) = some (.int .i64 x21) ∧
  ((x19 != x21) = true →
  R (.bool false) w2) ∧
  ((x19 != x21) = false →
  ∃ (x26 : Bool), w2.cell? (⟨w.heap.size, 3, none⟩ : Addr) = some (.bool x26) ∧
  ∃ (x28 : Bool), w2.cell? (⟨w1.heap.size, 3, none⟩ : Addr) = some (.bool x28) ∧
  ((!(x26 == x28)) = true →
  R (.bool false) w2) ∧
  ((!(x26 == x28)) = false →
  ∃ (x33 : ByteArray), w2.cell? (⟨w.heap.size, 6, none⟩ : Addr) = some (.string x33) ∧
  ∃ (x35 : ByteArray), w2.cell? (⟨w1.heap.size, 6, none⟩ : Addr) = some (.string x35) ∧
  ((!(x33.toList == x35.toList)) = true →
  R (.bool false) w2) ∧
  ((!(x33.toList == x35.toList)) = false →
  ∃ (x39A : Option Addr), ∃ (x39N : Nat), ∃ (x39C : Nat), w2.cell? (⟨w.heap.size, 4, none⟩ : Addr) = some (.slice x39A x39N x39C) ∧
  ∃ (x41A : Option Addr), ∃ (x41N : Nat), ∃ (x41C : Nat), w2.cell? (⟨w1.heap.size, 4, none⟩ : Addr) = some (.slice x41A x41N x41C) ∧
  Calls Try.prog 56 #[(.slice x39A x39N x39C), (.slice x41A x41N x41C)] w2 (Ret fun v w3 => ∃ (x42 : Bool), v = (.bool x42) ∧
  (x42 = true →
  ∃ (x45A : Option Addr), ∃ (x45N : Nat), ∃ (x45C : Nat), w3.cell? (⟨w.heap.size, 5, none⟩ : Addr) = some (.slice x45A x45N x45C) ∧
  ∃ (x47A : Option Addr), ∃ (x47N : Nat), ∃ (x47C : Nat), w3.cell? (⟨w1.heap.size, 5, none⟩ : Addr) = some (.slice x47A x47N x47C) ∧
  Calls Try.prog 56 #[(.slice x45A x45N x45C), (.slice x47A x47N x47C)] w3 (Ret fun v_1 w4 => ∃ (x48 : Bool), v_1 = (.bool x48) ∧
  R (.bool x48) w4)) ∧
  (x42 = false →
  R (.bool false) w3)))))))
theorem order_Same.vc_eq (a0 : Int) (a1 : Int) (a2 : Int) (a3 : Bool) (a4A : Option Addr) (a4N : Nat) (a4C : Nat) (a5A : Option Addr) (a5N : Nat) (a5C : Nat) (a6 : ByteArray) (b0 : Int) (b1 : Int) (b2 : Int) (b3 : Bool) (b4A : Option Addr) (b4N : Nat) (b4C : Nat) (b5A : Option Addr) (b5N : Nat) (b5C : Nat) (b6 : ByteArray) (w : World) (R : Value → World → Prop) : fnV Try.prog Try.f44 (.at_ 1 5 (.k .nil) (.at_ 1 12 (.k .nil) (.at_ 1 19 (.k .nil) (.at_ 1 26 (.k .nil) (.c .nil (.at_ 3 5 .nil .nil)))))) [(.agg #[(.int .i64 a0), (.int .i64 a1), (.int .i64 a2), (.bool a3), (.slice a4A a4N a4C), (.slice a5A a5N a5C), (.string a6)]), (.agg #[(.int .i64 b0), (.int .i64 b1), (.int .i64 b2), (.bool b3), (.slice b4A b4N b4C), (.slice b5A b5N b5C), (.string b6)])] w R = order_Same.vc a0 a1 a2 a3 a4A a4N a4C a5A a5N a5C a6 b0 b1 b2 b3 b4A b4N b4C b5A b5N b5C b6 w R := by kernel_rfl
theorem order_Same.calls (a0 : Int) (a1 : Int) (a2 : Int) (a3 : Bool) (a4A : Option Addr) (a4N : Nat) (a4C : Nat) (a5A : Option Addr) (a5N : Nat) (a5C : Nat) (a6 : ByteArray) (b0 : Int) (b1 : Int) (b2 : Int) (b3 : Bool) (b4A : Option Addr) (b4N : Nat) (b4C : Nat) (b5A : Option Addr) (b5N : Nat) (b5C : Nat) (b6 : ByteArray) {w : World} {R : Value → World → Prop} (h : order_Same.vc a0 a1 a2 a3 a4A a4N a4C a5A a5N a5C a6 b0 b1 b2 b3 b4A b4N b4C b5A b5N b5C b6 w R) : Calls Try.prog 44 #[(.agg #[(.int .i64 a0), (.int .i64 a1), (.int .i64 a2), (.bool a3), (.slice a4A a4N a4C), (.slice a5A a5N a5C), (.string a6)]), (.agg #[(.int .i64 b0), (.int .i64 b1), (.int .i64 b2), (.bool b3), (.slice b4A b4N b4C), (.slice b5A b5N b5C), (.string b6)])] w (Ret R) :=
  calls_V fit Try.func44 (.at_ 1 5 (.k .nil) (.at_ 1 12 (.k .nil) (.at_ 1 19 (.k .nil) (.at_ 1 26 (.k .nil) (.c .nil (.at_ 3 5 .nil .nil)))))) (by rw [show (#[(.agg #[(.int .i64 a0), (.int .i64 a1), (.int .i64 a2), (.bool a3), (.slice a4A a4N a4C), (.slice a5A a5N a5C), (.string a6)]), (.agg #[(.int .i64 b0), (.int .i64 b1), (.int .i64 b2), (.bool b3), (.slice b4A b4N b4C), (.slice b5A b5N b5C), (.string b6)])] : Array Value).toList = [(.agg #[(.int .i64 a0), (.int .i64 a1), (.int .i64 a2), (.bool a3), (.slice a4A a4N a4C), (.slice a5A a5N a5C), (.string a6)]), (.agg #[(.int .i64 b0), (.int .i64 b1), (.int .i64 b2), (.bool b3), (.slice b4A b4N b4C), (.slice b5A b5N b5C), (.string b6)])] from rfl, order_Same.vc_eq]; exact h)
/-- function 77 -/
def order_rest.vc (c0 : Int) (c1 : Int) (c2 : Int) (c3 : Bool) (c4A : Option Addr) (c4N : Nat) (c4C : Nat) (c5A : Option Addr) (c5N : Nat) (c5C : Nat) (c6 : ByteArray) (w : World) (R : Value → World → Prop) : Prop :=
  ∀ w1 : World, w1 = w.alloc (.cells #[(.int .i64 c0), (.int .i64 c1), (.int .i64 c2), (.bool c3), (.slice c4A c4N c4C), (.slice c5A c5N c5C), (.string c6)] 72 (0, 0)) →
  ∀ w2 : World, w2 = w1.alloc (.cells #[(.int .i64 0), (.int .i64 0), (.int .i64 0), (.bool false), (.slice none 0 0), (.slice none 0 0), (.string ByteArray.empty)] 72 (0, 0)) →
  Calls Try.prog 76 #[(.pointer (some (⟨w.heap.size, 0, none⟩ : Addr))), (.iface 171 (.agg #[]))] w2 (Ret fun v w3 => v = .tuple #[] ∧
  ∃ (x60 : Int), ∃ (x61 : Int), ∃ (x62 : Int), ∃ (x63 : Bool), ∃ (x64A : Option Addr), ∃ (x64N : Nat), ∃ (x64C : Nat), ∃ (x65A : Option Addr), ∃ (x65N : Nat), ∃ (x65C : Nat), ∃ (x66 : ByteArray), (w3.cell? (⟨w.heap.size, 0, none⟩ : Addr) = some (.int .i64 x60) ∧ w3.cell? (⟨w.heap.size, 1, none⟩ : Addr) = some (.int .i64 x61) ∧ w3.cell? (⟨w.heap.size, 2, none⟩ : Addr) = some (.int .i64 x62) ∧ w3.cell? (⟨w.heap.size, 3, none⟩ : Addr) = some (.bool x63) ∧ w3.cell? (⟨w.heap.size, 4, none⟩ : Addr) = some (.slice x64A x64N x64C) ∧ w3.cell? (⟨w.heap.size, 5, none⟩ : Addr) = some (.slice x65A x65N x65C) ∧ w3.cell? (⟨w.heap.size, 6, none⟩ : Addr) = some (.string x66)) ∧
  (((∃ u, w3.cell? (⟨w1.heap.size, 0, none⟩ : Addr) = some u) ∧ w3.frozen? (⟨w1.heap.size, 0, none⟩ : Addr) = false) ∧ ((∃ u, w3.cell? (⟨w1.heap.size, 1, none⟩ : Addr) = some u) ∧ w3.frozen? (⟨w1.heap.size, 1, none⟩ : Addr) = false) ∧ ((∃ u, w3.cell? (⟨w1.heap.size, 2, none⟩ : Addr) = some u) ∧ w3.frozen? (⟨w1.heap.size, 2, none⟩ : Addr) = false) ∧ ((∃ u, w3.cell? (⟨w1.heap.size, 3, none⟩ : Addr) = some u) ∧ w3.frozen? (⟨w1.heap.size, 3, none⟩ : Addr) = false) ∧ ((∃ u, w3.cell? (⟨w1.heap.size, 4, none⟩ : Addr) = some u) ∧ w3.frozen? (⟨w1.heap.size, 4, none⟩ : Addr) = false) ∧ ((∃ u, w3.cell? (⟨w1.heap.size, 5, none⟩ : Addr) = some u) ∧ w3.frozen? (⟨w1.heap.size, 5, none⟩ : Addr) = false) ∧ ((∃ u, w3.cell? (⟨w1.heap.size, 6, none⟩ : Addr) = some u) ∧ w3.frozen? (⟨w1.heap.size, 6, none⟩ : Addr) = false)) ∧ ∀ w4 : World, w4 = (((((((w3.setCell (⟨w1.heap.size, 0, none⟩ : Addr) (.int .i64 x60)).setCell (⟨w1.heap.size, 1, none⟩ : Addr) (.int .i64 x61)).setCell (⟨w1.heap.size, 2, none⟩ : Addr) (.int .i64 x62)).setCell (⟨w1.heap.size, 3, none⟩ : Addr) (.bool x63)).setCell (⟨w1.heap.size, 4, none⟩ : Addr) (.slice x64A x64N x64C)).setCell (⟨w1.heap.size, 5, none⟩ : Addr) (.slice x65A x65N x65C)).setCell (⟨w1.heap.size, 6, none⟩ : Addr) (.string x66)) →
  ∃ (r00 : Int), ∃ (r01 : Int), ∃ (r02 : Int), ∃ (r03 : Bool), ∃ (r04A : Option Addr), ∃ (r04N : Nat), ∃ (r04C : Nat), ∃ (r05A : Option Addr), ∃ (r05N : Nat), ∃ (r05C : Nat), ∃ (r06 : ByteArray), (w4.cell? (⟨w1.heap.size, 0, none⟩ : Addr) = some (.int .i64 r00) ∧ w4.cell? (⟨w1.heap.size, 1, none⟩ : Addr) = some (.int .i64 r01) ∧ w4.cell? (⟨w1.heap.size, 2, none⟩ : Addr) = some (.int .i64 r02) ∧ w4.cell? (⟨w1.heap.size, 3, none⟩ : Addr) = some (.bool r03) ∧ w4.cell? (⟨w1.heap.size, 4, none⟩ : Addr) = some (.slice r04A r04N r04C) ∧ w4.cell? (⟨w1.heap.size, 5, none⟩ : Addr) = some (.slice r05A r05N r05C) ∧ w4.cell? (⟨w1.heap.size, 6, none⟩ : Addr) = some (.string r06)) ∧
  R (.agg #[(.int .i64 r00), (.int .i64 r01), (.int .i64 r02), (.bool r03), (.slice r04A r04N r04C), (.slice r05A r05N r05C), (.string r06)]) w4)
theorem order_rest.vc_eq (c0 : Int) (c1 : Int) (c2 : Int) (c3 : Bool) (c4A : Option Addr) (c4N : Nat) (c4C : Nat) (c5A : Option Addr) (c5N : Nat) (c5C : Nat) (c6 : ByteArray) (w : World) (R : Value → World → Prop) : fnV Try.prog Try.f77 .nil [(.agg #[(.int .i64 c0), (.int .i64 c1), (.int .i64 c2), (.bool c3), (.slice c4A c4N c4C), (.slice c5A c5N c5C), (.string c6)])] w R = order_rest.vc c0 c1 c2 c3 c4A c4N c4C c5A c5N c5C c6 w R := by kernel_rfl
theorem order_rest.calls (c0 : Int) (c1 : Int) (c2 : Int) (c3 : Bool) (c4A : Option Addr) (c4N : Nat) (c4C : Nat) (c5A : Option Addr) (c5N : Nat) (c5C : Nat) (c6 : ByteArray) {w : World} {R : Value → World → Prop} (h : order_rest.vc c0 c1 c2 c3 c4A c4N c4C c5A c5N c5C c6 w R) : Calls Try.prog 77 #[(.agg #[(.int .i64 c0), (.int .i64 c1), (.int .i64 c2), (.bool c3), (.slice c4A c4N c4C), (.slice c5A c5N c5C), (.string c6)])] w (Ret R) :=
  calls_V fit Try.func77 .nil (by rw [show (#[(.agg #[(.int .i64 c0), (.int .i64 c1), (.int .i64 c2), (.bool c3), (.slice c4A c4N c4C), (.slice c5A c5N c5C), (.string c6)])] : Array Value).toList = [(.agg #[(.int .i64 c0), (.int .i64 c1), (.int .i64 c2), (.bool c3), (.slice c4A c4N c4C), (.slice c5A c5N c5C), (.string c6)])] from rfl, order_rest.vc_eq]; exact h)
/-- function 46 -/
def order_Trim.vc (c0 : Int) (c1 : Int) (c2 : Int) (c3 : Bool) (c4A : Option Addr) (c4N : Nat) (c4C : Nat) (c5A : Option Addr) (c5N : Nat) (c5C : Nat) (c6 : ByteArray) (w : World) (R : Value → World → Prop) : Prop :=
  ∀ w1 : World, w1 = w.alloc (.cells #[(.int .i64 c0), (.int .i64 c1), (.int .i64 c2), (.bool c3), (.slice c4A c4N c4C), (.slice c5A c5N c5C), (.string c6)] 72 (0, 0)) →
  ∀ w2 : World, w2 = w1.alloc (.cells #[(.int .i64 0), (.int .i64 0), (.int .i64 0), (.bool false), (.slice none 0 0), (.slice none 0 0), (.string ByteArray.empty)] 72 (0, 0)) →
  ∃ (x5 : Int), w2.cell? (⟨w.heap.size, 0, none⟩ : Addr) = some (.int .i64 x5) ∧
  Calls Try.prog 42 #[(.int .i64 x5)] w2 (Ret fun v w3 => ∃ (x6 : ByteArray), v = (.string x6) ∧
  ((x6.toList == (ByteArray.mk #[]).toList) = true →
  (((∃ u, w3.cell? (⟨w1.heap.size, 0, none⟩ : Addr) = some u) ∧ w3.frozen? (⟨w1.heap.size, 0, none⟩ : Addr) = false) ∧ ((∃ u, w3.cell? (⟨w1.heap.size, 1, none⟩ : Addr) = some u) ∧ w3.frozen? (⟨w1.heap.size, 1, none⟩ : Addr) = false) ∧ ((∃ u, w3.cell? (⟨w1.heap.size, 2, none⟩ : Addr) = some u) ∧ w3.frozen? (⟨w1.heap.size, 2, none⟩ : Addr) = false) ∧ ((∃ u, w3.cell? (⟨w1.heap.size, 3, none⟩ : Addr) = some u) ∧ w3.frozen? (⟨w1.heap.size, 3, none⟩ : Addr) = false) ∧ ((∃ u, w3.cell? (⟨w1.heap.size, 4, none⟩ : Addr) = some u) ∧ w3.frozen? (⟨w1.heap.size, 4, none⟩ : Addr) = false) ∧ ((∃ u, w3.cell? (⟨w1.heap.size, 5, none⟩ : Addr) = some u) ∧ w3.frozen? (⟨w1.heap.size, 5, none⟩ : Addr) = false) ∧ ((∃ u, w3.cell? (⟨w1.heap.size, 6, none⟩ : Addr) = some u) ∧ w3.frozen? (⟨w1.heap.size, 6, none⟩ : Addr) = false)) ∧ ∀ w4 : World, w4 = (((((((w3.setCell (⟨w1.heap.size, 0, none⟩ : Addr) (.int .i64 0)).setCell (⟨w1.heap.size, 1, none⟩ : Addr) (.int .i64 0)).setCell (⟨w1.heap.size, 2, none⟩ : Addr) (.int .i64 0)).setCell (⟨w1.heap.size, 3, none⟩ : Addr) (.bool false)).setCell (⟨w1.heap.size, 4, none⟩ : Addr) (.slice none 0 0)).setCell (⟨w1.heap.size, 5, none⟩ : Addr) (.slice none 0 0)).setCell (⟨w1.heap.size, 6, none⟩ : Addr) (.string ByteArray.empty)) →
  ∃ (r00 : Int), ∃ (r01 : Int), ∃ (r02 : Int), ∃ (r03 : Bool), ∃ (r04A : Option Addr), ∃ (r04N : Nat), ∃ (r04C : Nat), ∃ (r05A : Option Addr), ∃ (r05N : Nat), ∃ (r05C : Nat), ∃ (r06 : ByteArray), (w4.cell? (⟨w1.heap.size, 0, none⟩ : Addr) = some (.int .i64 r00) ∧ w4.cell? (⟨w1.heap.size, 1, none⟩ : Addr) = some (.int .i64 r01) ∧ w4.cell? (⟨w1.heap.size, 2, none⟩ : Addr) = some (.int .i64 r02) ∧ w4.cell? (⟨w1.heap.size, 3, none⟩ : Addr) = some (.bool r03) ∧ w4.cell? (⟨w1.heap.size, 4, none⟩ : Addr) = some (.slice r04A r04N r04C) ∧ w4.cell? (⟨w1.heap.size, 5, none⟩ : Addr) = some (.slice r05A r05N r05C) ∧ w4.cell? (⟨w1.heap.size, 6, none⟩ : Addr) = some (.string r06)) ∧
  R (.agg #[(.int .i64 r00), (.int .i64 r01), (.int .i64 r02), (.bool r03), (.slice r04A r04N r04C), (.slice r05A r05N r05C), (.string r06)]) w4) ∧
  ((x6.toList == (ByteArray.mk #[]).toList) = false →
  ∃ vS : World → Prop, ∀ w5 : World, w5 = w3.drew → vS w5 ∧
  ∃ (x90 : Int), ∃ (x91 : Int), ∃ (x92 : Int), ∃ (x93 : Bool), ∃ (x94A : Option Addr), ∃ (x94N : Nat), ∃ (x94C : Nat), ∃ (x95A : Option Addr), ∃ (x95N : Nat), ∃ (x95C : Nat), ∃ (x96 : ByteArray), ((∀ w6, vS w6 → w6.cell? (⟨w.heap.size, 0, none⟩ : Addr) = some (.int .i64 x90)) ∧ (∀ w6, vS w6 → w6.cell? (⟨w.heap.size, 1, none⟩ : Addr) = some (.int .i64 x91)) ∧ (∀ w6, vS w6 → w6.cell? (⟨w.heap.size, 2, none⟩ : Addr) = some (.int .i64 x92)) ∧ (∀ w6, vS w6 → w6.cell? (⟨w.heap.size, 3, none⟩ : Addr) = some (.bool x93)) ∧ (∀ w6, vS w6 → w6.cell? (⟨w.heap.size, 4, none⟩ : Addr) = some (.slice x94A x94N x94C)) ∧ (∀ w6, vS w6 → w6.cell? (⟨w.heap.size, 5, none⟩ : Addr) = some (.slice x95A x95N x95C)) ∧ (∀ w6, vS w6 → w6.cell? (⟨w.heap.size, 6, none⟩ : Addr) = some (.string x96))) ∧
  ∃ (x110 : Int), ∃ (x111 : Int), ∃ (x112 : Int), ∃ (x113 : Bool), ∃ (x114A : Option Addr), ∃ (x114N : Nat), ∃ (x114C : Nat), ∃ (x115A : Option Addr), ∃ (x115N : Nat), ∃ (x115C : Nat), ∃ (x116 : ByteArray), ((∀ w7, vS w7 → w7.cell? (⟨w.heap.size, 0, none⟩ : Addr) = some (.int .i64 x110)) ∧ (∀ w7, vS w7 → w7.cell? (⟨w.heap.size, 1, none⟩ : Addr) = some (.int .i64 x111)) ∧ (∀ w7, vS w7 → w7.cell? (⟨w.heap.size, 2, none⟩ : Addr) = some (.int .i64 x112)) ∧ (∀ w7, vS w7 → w7.cell? (⟨w.heap.size, 3, none⟩ : Addr) = some (.bool x113)) ∧ (∀ w7, vS w7 → w7.cell? (⟨w.heap.size, 4, none⟩ : Addr) = some (.slice x114A x114N x114C)) ∧ (∀ w7, vS w7 → w7.cell? (⟨w.heap.size, 5, none⟩ : Addr) = some (.slice x115A x115N x115C)) ∧ (∀ w7, vS w7 → w7.cell? (⟨w.heap.size, 6, none⟩ : Addr) = some (.string x116))) ∧
  (Calls Try.prog 40 #[(.agg #[(.int .i64 x90), (.int .i64 x91), (.int .i64 x92), (.bool x93), (.slice x94A x94N x94C), (.slice x95A x95N x95C), (.string x96)])] w5 (Ret fun v_1 w8 => ∃ (x100 : Int), ∃ (x101 : Int), ∃ (x102 : Int), ∃ (x103 : Bool), ∃ (x104A : Option Addr), ∃ (x104N : Nat), ∃ (x104C : Nat), ∃ (x105A : Option Addr), ∃ (x105N : Nat), ∃ (x105C : Nat), ∃ (x106 : ByteArray), v_1 = (.agg #[(.int .i64 x100), (.int .i64 x101), (.int .i64 x102), (.bool x103), (.slice x104A x104N x104C), (.slice x105A x105N x105C), (.string x106)]) ∧
  vS w8 ∧
  (Calls Try.prog 77 #[(.agg #[(.int .i64 x110), (.int .i64 x111), (.int .i64 x112), (.bool x113), (.slice x114A x114N x114C), (.slice x115A x115N x115C), (.string x116)])] w8 (Ret fun v_2 w9 => ∃ (x120 : Int), ∃ (x121 : Int), ∃ (x122 : Int), ∃ (x123 : Bool), ∃ (x124A : Option Addr), ∃ (x124N : Nat), ∃ (x124C : Nat), ∃ (x125A : Option Addr), ∃ (x125N : Nat), ∃ (x125C : Nat), ∃ (x126 : ByteArray), v_2 = (.agg #[(.int .i64 x120), (.int .i64 x121), (.int .i64 x122), (.bool x123), (.slice x124A x124N x124C), (.slice x125A x125N x125C), (.string x126)]) ∧
  vS w9 ∧
  ∀ w10 : World, w10 = w9.alloc (.cells #[(.int .i64 0), (.int .i64 0), (.int .i64 0), (.bool false), (.slice none 0 0), (.slice none 0 0), (.string ByteArray.empty)] 72 (0, 0)) →
  vS w10 ∧
  (((∃ u, w10.cell? (⟨w.heap.size, 0, none⟩ : Addr) = some u) ∧ w10.frozen? (⟨w.heap.size, 0, none⟩ : Addr) = false) ∧ ((∃ u, w10.cell? (⟨w.heap.size, 1, none⟩ : Addr) = some u) ∧ w10.frozen? (⟨w.heap.size, 1, none⟩ : Addr) = false) ∧ ((∃ u, w10.cell? (⟨w.heap.size, 2, none⟩ : Addr) = some u) ∧ w10.frozen? (⟨w.heap.size, 2, none⟩ : Addr) = false) ∧ ((∃ u, w10.cell? (⟨w.heap.size, 3, none⟩ : Addr) = some u) ∧ w10.frozen? (⟨w.heap.size, 3, none⟩ : Addr) = false) ∧ ((∃ u, w10.cell? (⟨w.heap.size, 4, none⟩ : Addr) = some u) ∧ w10.frozen? (⟨w.heap.size, 4, none⟩ : Addr) = false) ∧ ((∃ u, w10.cell? (⟨w.heap.size, 5, none⟩ : Addr) = some u) ∧ w10.frozen? (⟨w.heap.size, 5, none⟩ : Addr) = false) ∧ ((∃ u, w10.cell? (⟨w.heap.size, 6, none⟩ : Addr) = some u) ∧ w10.frozen? (⟨w.heap.size, 6, none⟩ : Addr) = false)) ∧ ∀ w11 : World, w11 = (((((((w10.setCell (⟨w.heap.size, 0, none⟩ : Addr) (.int .i64 x100)).setCell (⟨w.heap.size, 1, none⟩ : Addr) (.int .i64 x101)).setCell (⟨w.heap.size, 2, none⟩ : Addr) (.int .i64 x102)).setCell (⟨w.heap.size, 3, none⟩ : Addr) (.bool x103)).setCell (⟨w.heap.size, 4, none⟩ : Addr) (.slice x104A x104N x104C)).setCell (⟨w.heap.size, 5, none⟩ : Addr) (.slice x105A x105N x105C)).setCell (⟨w.heap.size, 6, none⟩ : Addr) (.string x106)) →
  (((∃ u, w11.cell? (⟨w9.heap.size, 0, none⟩ : Addr) = some u) ∧ w11.frozen? (⟨w9.heap.size, 0, none⟩ : Addr) = false) ∧ ((∃ u, w11.cell? (⟨w9.heap.size, 1, none⟩ : Addr) = some u) ∧ w11.frozen? (⟨w9.heap.size, 1, none⟩ : Addr) = false) ∧ ((∃ u, w11.cell? (⟨w9.heap.size, 2, none⟩ : Addr) = some u) ∧ w11.frozen? (⟨w9.heap.size, 2, none⟩ : Addr) = false) ∧ ((∃ u, w11.cell? (⟨w9.heap.size, 3, none⟩ : Addr) = some u) ∧ w11.frozen? (⟨w9.heap.size, 3, none⟩ : Addr) = false) ∧ ((∃ u, w11.cell? (⟨w9.heap.size, 4, none⟩ : Addr) = some u) ∧ w11.frozen? (⟨w9.heap.size, 4, none⟩ : Addr) = false) ∧ ((∃ u, w11.cell? (⟨w9.heap.size, 5, none⟩ : Addr) = some u) ∧ w11.frozen? (⟨w9.heap.size, 5, none⟩ : Addr) = false) ∧ ((∃ u, w11.cell? (⟨w9.heap.size, 6, none⟩ : Addr) = some u) ∧ w11.frozen? (⟨w9.heap.size, 6, none⟩ : Addr) = false)) ∧ ∀ w12 : World, w12 = (((((((w11.setCell (⟨w9.heap.size, 0, none⟩ : Addr) (.int .i64 x120)).setCell (⟨w9.heap.size, 1, none⟩ : Addr) (.int .i64 x121)).setCell (⟨w9.heap.size, 2, none⟩ : Addr) (.int .i64 x122)).setCell (⟨w9.heap.size, 3, none⟩ : Addr) (.bool x123)).setCell (⟨w9.heap.size, 4, none⟩ : Addr) (.slice x124A x124N x124C)).setCell (⟨w9.heap.size, 5, none⟩ : Addr) (.slice x125A x125N x125C)).setCell (⟨w9.heap.size, 6, none⟩ : Addr) (.string x126)) →
  True ∧
  ∃ J : World → Prop, (∃ (x14 : Int), w12.cell? (⟨w9.heap.size, 1, none⟩ : Addr) = some (.int .i64 x14) ∧
  ((x14 != (0 : Int)) = true →
  (((∃ u, w12.cell? (⟨w.heap.size, 1, none⟩ : Addr) = some u) ∧ w12.frozen? (⟨w.heap.size, 1, none⟩ : Addr) = false)) ∧ ∀ w13 : World, w13 = (w12.setCell (⟨w.heap.size, 1, none⟩ : Addr) (.int .i64 0)) →
  J w13) ∧
  ((x14 != (0 : Int)) = false →
  J w12)) ∧
  ∀ (jk : Nat → Value), ∀ w14 : World, J w14 →
  ∃ J_1 : World → Prop, (∃ (x18 : Int), w14.cell? (⟨w9.heap.size, 2, none⟩ : Addr) = some (.int .i64 x18) ∧
  ((x18 != (0 : Int)) = true →
  (((∃ u, w14.cell? (⟨w.heap.size, 2, none⟩ : Addr) = some u) ∧ w14.frozen? (⟨w.heap.size, 2, none⟩ : Addr) = false)) ∧ ∀ w15 : World, w15 = (w14.setCell (⟨w.heap.size, 2, none⟩ : Addr) (.int .i64 0)) →
  J_1 w15) ∧
  ((x18 != (0 : Int)) = false →
  J_1 w14)) ∧
  ∀ (jk : Nat → Value), ∀ w16 : World, J_1 w16 →
  ∃ J_2 : World → Prop, (∃ (x22 : Bool), w16.cell? (⟨w9.heap.size, 3, none⟩ : Addr) = some (.bool x22) ∧
  (x22 = true →
  (((∃ u, w16.cell? (⟨w.heap.size, 3, none⟩ : Addr) = some u) ∧ w16.frozen? (⟨w.heap.size, 3, none⟩ : Addr) = false)) ∧ ∀ w17 : World, w17 = (w16.setCell (⟨w.heap.size, 3, none⟩ : Addr) (.bool false)) →
  J_2 w17) ∧
  (x22 = false →
  J_2 w16)) ∧
  ∀ (jk : Nat → Value), ∀ w18 : World, J_2 w18 →
  ∃ J_3 : World → Prop, (∃ (x25A : Option Addr), ∃ (x25N : Nat), ∃ (x25C : Nat), w18.cell? (⟨w9.heap.size, 4, none⟩ : Addr) = some (.slice x25A x25N x25C) ∧
  (decide (((x25N : Nat) : Int) > (0 : Int)) = true →
  (((∃ u, w18.cell? (⟨w.heap.size, 4, none⟩ : Addr) = some u) ∧ w18.frozen? (⟨w.heap.size, 4, none⟩ : Addr) = false)) ∧ ∀ w19 : World, w19 = (w18.setCell (⟨w.heap.size, 4, none⟩ : Addr) (.slice none 0 0)) →
  J_3 w19) ∧
  (decide (((x25N : Nat) : Int) > (0 : Int)) = false →
  J_3 w18)) ∧
  ∀ (jk : Nat → Value), ∀ w20 : World, J_3 w20 →
  ∃ J_4 : World → Prop, (∃ (x30A : Option Addr), ∃ (x30N : Nat), ∃ (x30C : Nat), w20.cell? (⟨w9.heap.size, 5, none⟩ : Addr) = some (.slice x30A x30N x30C) ∧
  (decide (((x30N : Nat) : Int) > (0 : Int)) = true →
  (((∃ u, w20.cell? (⟨w.heap.size, 5, none⟩ : Addr) = some u) ∧ w20.frozen? (⟨w.heap.size, 5, none⟩ : Addr) = false)) ∧ ∀ w21 : World, w21 = (w20.setCell (⟨w.heap.size, 5, none⟩ : Addr) (.slice none 0 0)) →
  J_4 w21) ∧
  (decide (((x30N : Nat) : Int) > (0 : Int)) = false →
  J_4 w20)) ∧
  ∀ (jk : Nat → Value), ∀ w22 : World, J_4 w22 →
  ∃ J_5 : World → Prop, (∃ (x35 : ByteArray), w22.cell? (⟨w9.heap.size, 6, none⟩ : Addr) = some (.string x35) ∧
  ((!(x35.toList == (ByteArray.mk #[]).toList)) = true →
  (((∃ u, w22.cell? (⟨w.heap.size, 6, none⟩ : Addr) = some u) ∧ w22.frozen? (⟨w.heap.size, 6, none⟩ : Addr) = false)) ∧ ∀ w23 : World, w23 = (w22.setCell (⟨w.heap.size, 6, none⟩ : Addr) (.string (ByteArray.mk #[]))) →
  J_5 w23) ∧
  ((!(x35.toList == (ByteArray.mk #[]).toList)) = false →
  J_5 w22)) ∧
  ∀ (jk : Nat → Value), ∀ w24 : World, J_5 w24 →
  ∃ (x380 : Int), ∃ (x381 : Int), ∃ (x382 : Int), ∃ (x383 : Bool), ∃ (x384A : Option Addr), ∃ (x384N : Nat), ∃ (x384C : Nat), ∃ (x385A : Option Addr), ∃ (x385N : Nat), ∃ (x385C : Nat), ∃ (x386 : ByteArray), (w24.cell? (⟨w.heap.size, 0, none⟩ : Addr) = some (.int .i64 x380) ∧ w24.cell? (⟨w.heap.size, 1, none⟩ : Addr) = some (.int .i64 x381) ∧ w24.cell? (⟨w.heap.size, 2, none⟩ : Addr) = some (.int .i64 x382) ∧ w24.cell? (⟨w.heap.size, 3, none⟩ : Addr) = some (.bool x383) ∧ w24.cell? (⟨w.heap.size, 4, none⟩ : Addr) = some (.slice x384A x384N x384C) ∧ w24.cell? (⟨w.heap.size, 5, none⟩ : Addr) = some (.slice x385A x385N x385C) ∧ w24.cell? (⟨w.heap.size, 6, none⟩ : Addr) = some (.string x386)) ∧
  (((∃ u, w24.cell? (⟨w1.heap.size, 0, none⟩ : Addr) = some u) ∧ w24.frozen? (⟨w1.heap.size, 0, none⟩ : Addr) = false) ∧ ((∃ u, w24.cell? (⟨w1.heap.size, 1, none⟩ : Addr) = some u) ∧ w24.frozen? (⟨w1.heap.size, 1, none⟩ : Addr) = false) ∧ ((∃ u, w24.cell? (⟨w1.heap.size, 2, none⟩ : Addr) = some u) ∧ w24.frozen? (⟨w1.heap.size, 2, none⟩ : Addr) = false) ∧ ((∃ u, w24.cell? (⟨w1.heap.size, 3, none⟩ : Addr) = some u) ∧ w24.frozen? (⟨w1.heap.size, 3, none⟩ : Addr) = false) ∧ ((∃ u, w24.cell? (⟨w1.heap.size, 4, none⟩ : Addr) = some u) ∧ w24.frozen? (⟨w1.heap.size, 4, none⟩ : Addr) = false) ∧ ((∃ u, w24.cell? (⟨w1.heap.size, 5, none⟩ : Addr) = some u) ∧ w24.frozen? (⟨w1.heap.size, 5, none⟩ : Addr) = false) ∧ ((∃ u, w24.cell? (⟨w1.heap.size, 6, none⟩ : Addr) = some u) ∧ w24.frozen? (⟨w1.heap.size, 6, none⟩ : Addr) = false)) ∧ ∀ w25 : World, w25 = (((((((w24.setCell (⟨w1.heap.size, 0, none⟩ : Addr) (.int .i64 x380)).setCell (⟨w1.heap.size, 1, none⟩ : Addr) (.int .i64 x381)).setCell (⟨w1.heap.size, 2, none⟩ : Addr) (.int .i64 x382)).setCell (⟨w1.heap.size, 3, none⟩ : Addr) (.bool x383)).setCell (⟨w1.heap.size, 4, none⟩ : Addr) (.slice x384A x384N x384C)).setCell (⟨w1.heap.size, 5, none⟩ : Addr) (.slice x385A x385N x385C)).setCell (⟨w1.heap.size, 6, none⟩ : Addr) (.string x386)) →
  ∃ (r00_1 : Int), ∃ (r01_1 : Int), ∃ (r02_1 : Int), ∃ (r03_1 : Bool), ∃ (r04A_1 : Option Addr), ∃ (r04N_1 : Nat), ∃ (r04C_1 : Nat), ∃ (r05A_1 : Option Addr), ∃ (r05N_1 : Nat), ∃ (r05C_1 : Nat), ∃ (r06_1 : ByteArray), (w25.cell? (⟨w1.heap.size, 0, none⟩ : Addr) = some (.int .i64 r00_1) ∧ w25.cell? (⟨w1.heap.size, 1, none⟩ : Addr) = some (.int .i64 r01_1) ∧ w25.cell? (⟨w1.heap.size, 2, none⟩ : Addr) = some (.int .i64 r02_1) ∧ w25.cell? (⟨w1.heap.size, 3, none⟩ : Addr) = some (.bool r03_1) ∧ w25.cell? (⟨w1.heap.size, 4, none⟩ : Addr) = some (.slice r04A_1 r04N_1 r04C_1) ∧ w25.cell? (⟨w1.heap.size, 5, none⟩ : Addr) = some (.slice r05A_1 r05N_1 r05C_1) ∧ w25.cell? (⟨w1.heap.size, 6, none⟩ : Addr) = some (.string r06_1)) ∧
  R (.agg #[(.int .i64 r00_1), (.int .i64 r01_1), (.int .i64 r02_1), (.bool r03_1), (.slice r04A_1 r04N_1 r04C_1), (.slice r05A_1 r05N_1 r05C_1), (.string r06_1)]) w25)) ∧ (∀ w26 : World, w26 = w8.alloc (.cells #[(.int .i64 0), (.int .i64 0), (.int .i64 0), (.bool false), (.slice none 0 0), (.slice none 0 0), (.string ByteArray.empty)] 72 (0, 0)) →
  vS w26 ∧
  Calls Try.prog 77 #[(.agg #[(.int .i64 x110), (.int .i64 x111), (.int .i64 x112), (.bool x113), (.slice x114A x114N x114C), (.slice x115A x115N x115C), (.string x116)])] w26 (Ret fun v_3 w27 => ∃ (x120_1 : Int), ∃ (x121_1 : Int), ∃ (x122_1 : Int), ∃ (x123_1 : Bool), ∃ (x124A_1 : Option Addr), ∃ (x124N_1 : Nat), ∃ (x124C_1 : Nat), ∃ (x125A_1 : Option Addr), ∃ (x125N_1 : Nat), ∃ (x125C_1 : Nat), ∃ (x126_1 : ByteArray), v_3 = (.agg #[(.int .i64 x120_1), (.int .i64 x121_1), (.int .i64 x122_1), (.bool x123_1), (.slice x124A_1 x124N_1 x124C_1), (.slice x125A_1 x125N_1 x125C_1), (.string x126_1)]) ∧
  vS w27 ∧
  (((∃ u, w27.cell? (⟨w.heap.size, 0, none⟩ : Addr) = some u) ∧ w27.frozen? (⟨w.heap.size, 0, none⟩ : Addr) = false) ∧ ((∃ u, w27.cell? (⟨w.heap.size, 1, none⟩ : Addr) = some u) ∧ w27.frozen? (⟨w.heap.size, 1, none⟩ : Addr) = false) ∧ ((∃ u, w27.cell? (⟨w.heap.size, 2, none⟩ : Addr) = some u) ∧ w27.frozen? (⟨w.heap.size, 2, none⟩ : Addr) = false) ∧ ((∃ u, w27.cell? (⟨w.heap.size, 3, none⟩ : Addr) = some u) ∧ w27.frozen? (⟨w.heap.size, 3, none⟩ : Addr) = false) ∧ ((∃ u, w27.cell? (⟨w.heap.size, 4, none⟩ : Addr) = some u) ∧ w27.frozen? (⟨w.heap.size, 4, none⟩ : Addr) = false) ∧ ((∃ u, w27.cell? (⟨w.heap.size, 5, none⟩ : Addr) = some u) ∧ w27.frozen? (⟨w.heap.size, 5, none⟩ : Addr) = false) ∧ ((∃ u, w27.cell? (⟨w.heap.size, 6, none⟩ : Addr) = some u) ∧ w27.frozen? (⟨w.heap.size, 6, none⟩ : Addr) = false)) ∧ ∀ w28 : World, w28 = (((((((w27.setCell (⟨w.heap.size, 0, none⟩ : Addr) (.int .i64 x100)).setCell (⟨w.heap.size, 1, none⟩ : Addr) (.int .i64 x101)).setCell (⟨w.heap.size, 2, none⟩ : Addr) (.int .i64 x102)).setCell (⟨w.heap.size, 3, none⟩ : Addr) (.bool x103)).setCell (⟨w.heap.size, 4, none⟩ : Addr) (.slice x104A x104N x104C)).setCell (⟨w.heap.size, 5, none⟩ : Addr) (.slice x105A x105N x105C)).setCell (⟨w.heap.size, 6, none⟩ : Addr) (.string x106)) →
  (((∃ u, w28.cell? (⟨w8.heap.size, 0, none⟩ : Addr) = some u) ∧ w28.frozen? (⟨w8.heap.size, 0, none⟩ : Addr) = false) ∧ ((∃ u, w28.cell? (⟨w8.heap.size, 1, none⟩ : Addr) = some u) ∧ w28.frozen? (⟨w8.heap.size, 1, none⟩ : Addr) = false) ∧ ((∃ u, w28.cell? (⟨w8.heap.size, 2, none⟩ : Addr) = some u) ∧ w28.frozen? (⟨w8.heap.size, 2, none⟩ : Addr) = false) ∧ ((∃ u, w28.cell? (⟨w8.heap.size, 3, none⟩ : Addr) = some u) ∧ w28.frozen? (⟨w8.heap.size, 3, none⟩ : Addr) = false) ∧ ((∃ u, w28.cell? (⟨w8.heap.size, 4, none⟩ : Addr) = some u) ∧ w28.frozen? (⟨w8.heap.size, 4, none⟩ : Addr) = false) ∧ ((∃ u, w28.cell? (⟨w8.heap.size, 5, none⟩ : Addr) = some u) ∧ w28.frozen? (⟨w8.heap.size, 5, none⟩ : Addr) = false) ∧ ((∃ u, w28.cell? (⟨w8.heap.size, 6, none⟩ : Addr) = some u) ∧ w28.frozen? (⟨w8.heap.size, 6, none⟩ : Addr) = false)) ∧ ∀ w29 : World, w29 = (((((((w28.setCell (⟨w8.heap.size, 0, none⟩ : Addr) (.int .i64 x120_1)).setCell (⟨w8.heap.size, 1, none⟩ : Addr) (.int .i64 x121_1)).setCell (⟨w8.heap.size, 2, none⟩ : Addr) (.int .i64 x122_1)).setCell (⟨w8.heap.size, 3, none⟩ : Addr) (.bool x123_1)).setCell (⟨w8.heap.size, 4, none⟩ : Addr) (.slice x124A_1 x124N_1 x124C_1)).setCell (⟨w8.heap.size, 5, none⟩ : Addr) (.slice x125A_1 x125N_1 x125C_1)).setCell (⟨w8.heap.size, 6, none⟩ : Addr) (.string x126_1)) →
  True ∧
  ∃ J_6 : World → Prop, (∃ (x14_1 : Int), w29.cell? (⟨w8.heap.size, 1, none⟩ : Addr) = some (.int .i64 x14_1) ∧
  ((x14_1 != (0 : Int)) = true →
  (((∃ u, w29.cell? (⟨w.heap.size, 1, none⟩ : Addr) = some u) ∧ w29.frozen? (⟨w.heap.size, 1, none⟩ : Addr) = false)) ∧ ∀ w30 : World, w30 = (w29.setCell (⟨w.heap.size, 1, none⟩ : Addr) (.int .i64 0)) →
  J_6 w30) ∧
  ((x14_1 != (0 : Int)) = false →
  J_6 w29)) ∧
  ∀ (jk : Nat → Value), ∀ w31 : World, J_6 w31 →
  ∃ J_7 : World → Prop, (∃ (x18_1 : Int), w31.cell? (⟨w8.heap.size, 2, none⟩ : Addr) = some (.int .i64 x18_1) ∧
  ((x18_1 != (0 : Int)) = true →
  (((∃ u, w31.cell? (⟨w.heap.size, 2, none⟩ : Addr) = some u) ∧ w31.frozen? (⟨w.heap.size, 2, none⟩ : Addr) = false)) ∧ ∀ w32 : World, w32 = (w31.setCell (⟨w.heap.size, 2, none⟩ : Addr) (.int .i64 0)) →
  J_7 w32) ∧
  ((x18_1 != (0 : Int)) = false →
  J_7 w31)) ∧
  ∀ (jk : Nat → Value), ∀ w33 : World, J_7 w33 →
  ∃ J_8 : World → Prop, (∃ (x22_1 : Bool), w33.cell? (⟨w8.heap.size, 3, none⟩ : Addr) = some (.bool x22_1) ∧
  (x22_1 = true →
  (((∃ u, w33.cell? (⟨w.heap.size, 3, none⟩ : Addr) = some u) ∧ w33.frozen? (⟨w.heap.size, 3, none⟩ : Addr) = false)) ∧ ∀ w34 : World, w34 = (w33.setCell (⟨w.heap.size, 3, none⟩ : Addr) (.bool false)) →
  J_8 w34) ∧
  (x22_1 = false →
  J_8 w33)) ∧
  ∀ (jk : Nat → Value), ∀ w35 : World, J_8 w35 →
  ∃ J_9 : World → Prop, (∃ (x25A_1 : Option Addr), ∃ (x25N_1 : Nat), ∃ (x25C_1 : Nat), w35.cell? (⟨w8.heap.size, 4, none⟩ : Addr) = some (.slice x25A_1 x25N_1 x25C_1) ∧
  (decide (((x25N_1 : Nat) : Int) > (0 : Int)) = true →
  (((∃ u, w35.cell? (⟨w.heap.size, 4, none⟩ : Addr) = some u) ∧ w35.frozen? (⟨w.heap.size, 4, none⟩ : Addr) = false)) ∧ ∀ w36 : World, w36 = (w35.setCell (⟨w.heap.size, 4, none⟩ : Addr) (.slice none 0 0)) →
  J_9 w36) ∧
  (decide (((x25N_1 : Nat) : Int) > (0 : Int)) = false →
  J_9 w35)) ∧
  ∀ (jk : Nat → Value), ∀ w37 : World, J_9 w37 →
  ∃ J_10 : World → Prop, (∃ (x30A_1 : Option Addr), ∃ (x30N_1 : Nat), ∃ (x30C_1 : Nat), w37.cell? (⟨w8.heap.size, 5, none⟩ : Addr) = some (.slice x30A_1 x30N_1 x30C_1) ∧
  (decide (((x30N_1 : Nat) : Int) > (0 : Int)) = true →
  (((∃ u, w37.cell? (⟨w.heap.size, 5, none⟩ : Addr) = some u) ∧ w37.frozen? (⟨w.heap.size, 5, none⟩ : Addr) = false)) ∧ ∀ w38 : World, w38 = (w37.setCell (⟨w.heap.size, 5, none⟩ : Addr) (.slice none 0 0)) →
  J_10 w38) ∧
  (decide (((x30N_1 : Nat) : Int) > (0 : Int)) = false →
  J_10 w37)) ∧
  ∀ (jk : Nat → Value), ∀ w39 : World, J_10 w39 →
  ∃ J_11 : World → Prop, (∃ (x35_1 : ByteArray), w39.cell? (⟨w8.heap.size, 6, none⟩ : Addr) = some (.string x35_1) ∧
  ((!(x35_1.toList == (ByteArray.mk #[]).toList)) = true →
  (((∃ u, w39.cell? (⟨w.heap.size, 6, none⟩ : Addr) = some u) ∧ w39.frozen? (⟨w.heap.size, 6, none⟩ : Addr) = false)) ∧ ∀ w40 : World, w40 = (w39.setCell (⟨w.heap.size, 6, none⟩ : Addr) (.string (ByteArray.mk #[]))) →
  J_11 w40) ∧
  ((!(x35_1.toList == (ByteArray.mk #[]).toList)) = false →
  J_11 w39)) ∧
  ∀ (jk : Nat → Value), ∀ w41 : World, J_11 w41 →
  ∃ (x380_1 : Int), ∃ (x381_1 : Int), ∃ (x382_1 : Int), ∃ (x383_1 : Bool), ∃ (x384A_1 : Option Addr), ∃ (x384N_1 : Nat), ∃ (x384C_1 : Nat), ∃ (x385A_1 : Option Addr), ∃ (x385N_1 : Nat), ∃ (x385C_1 : Nat), ∃ (x386_1 : ByteArray), (w41.cell? (⟨w.heap.size, 0, none⟩ : Addr) = some (.int .i64 x380_1) ∧ w41.cell? (⟨w.heap.size, 1, none⟩ : Addr) = some (.int .i64 x381_1) ∧ w41.cell? (⟨w.heap.size, 2, none⟩ : Addr) = some (.int .i64 x382_1) ∧ w41.cell? (⟨w.heap.size, 3, none⟩ : Addr) = some (.bool x383_1) ∧ w41.cell? (⟨w.heap.size, 4, none⟩ : Addr) = some (.slice x384A_1 x384N_1 x384C_1) ∧ w41.cell? (⟨w.heap.size, 5, none⟩ : Addr) = some (.slice x385A_1 x385N_1 x385C_1) ∧ w41.cell? (⟨w.heap.size, 6, none⟩ : Addr) = some (.string x386_1)) ∧
  (((∃ u, w41.cell? (⟨w1.heap.size, 0, none⟩ : Addr) = some u) ∧ w41.frozen? (⟨w1.heap.size, 0, none⟩ : Addr) = false) ∧ ((∃ u, w41.cell? (⟨w1.heap.size, 1, none⟩ : Addr) = some u) ∧ w41.frozen? (⟨w1.heap.size, 1, none⟩ : Addr) = false) ∧ ((∃ u, w41.cell? (⟨w1.heap.size, 2, none⟩ : Addr) = some u) ∧ w41.frozen? (⟨w1.heap.size, 2, none⟩ : Addr) = false) ∧ ((∃ u, w41.cell? (⟨w1.heap.size, 3, none⟩ : Addr) = some u) ∧ w41.frozen? (⟨w1.heap.size, 3, none⟩ : Addr) = false) ∧ ((∃ u, w41.cell? (⟨w1.heap.size, 4, none⟩ : Addr) = some u) ∧ w41.frozen? (⟨w1.heap.size, 4, none⟩ : Addr) = false) ∧ ((∃ u, w41.cell? (⟨w1.heap.size, 5, none⟩ : Addr) = some u) ∧ w41.frozen? (⟨w1.heap.size, 5, none⟩ : Addr) = false) ∧ ((∃ u, w41.cell? (⟨w1.heap.size, 6, none⟩ : Addr) = some u) ∧ w41.frozen? (⟨w1.heap.size, 6, none⟩ : Addr) = false)) ∧ ∀ w42 : World, w42 = (((((((w41.setCell (⟨w1.heap.size, 0, none⟩ : Addr) (.int .i64 x380_1)).setCell (⟨w1.heap.size, 1, none⟩ : Addr) (.int .i64 x381_1)).setCell (⟨w1.heap.size, 2, none⟩ : Addr) (.int .i64 x382_1)).setCell (⟨w1.heap.size, 3, none⟩ : Addr) (.bool x383_1)).setCell (⟨w1.heap.size, 4, none⟩ : Addr) (.slice x384A_1 x384N_1 x384C_1)).setCell (⟨w1.heap.size, 5, none⟩ : Addr) (.slice x385A_1 x385N_1 x385C_1)).setCell (⟨w1.heap.size, 6, none⟩ : Addr) (.string x386_1)) →
  ∃ (r00_2 : Int), ∃ (r01_2 : Int), ∃ (r02_2 : Int), ∃ (r03_2 : Bool), ∃ (r04A_2 : Option Addr), ∃ (r04N_2 : Nat), ∃ (r04C_2 : Nat), ∃ (r05A_2 : Option Addr), ∃ (r05N_2 : Nat), ∃ (r05C_2 : Nat), ∃ (r06_2 : ByteArray), (w42.cell? (⟨w1.heap.size, 0, none⟩ : Addr) = some (.int .i64 r00_2) ∧ w42.cell? (⟨w1.heap.size, 1, none⟩ : Addr) = some (.int .i64 r01_2) ∧ w42.cell? (⟨w1.heap.size, 2, none⟩ : Addr) = some (.int .i64 r02_2) ∧ w42.cell? (⟨w1.heap.size, 3, none⟩ : Addr) = some (.bool r03_2) ∧ w42.cell? (⟨w1.heap.size, 4, none⟩ : Addr) = some (.slice r04A_2 r04N_2 r04C_2) ∧ w42.cell? (⟨w1.heap.size, 5, none⟩ : Addr) = some (.slice r05A_2 r05N_2 r05C_2) ∧ w42.cell? (⟨w1.heap.size, 6, none⟩ : Addr) = some (.string r06_2)) ∧
  R (.agg #[(.int .i64 r00_2), (.int .i64 r01_2), (.int .i64 r02_2), (.bool r03_2), (.slice r04A_2 r04N_2 r04C_2), (.slice r05A_2 r05N_2 r05C_2), (.string r06_2)]) w42)) ∧ True)) ∧ (∀ w43 : World, w43 = w5.alloc (.cells #[(.int .i64 0), (.int .i64 0), (.int .i64 0), (.bool false), (.slice none 0 0), (.slice none 0 0), (.string ByteArray.empty)] 72 (0, 0)) →
  vS w43 ∧
  Calls Try.prog 40 #[(.agg #[(.int .i64 x90), (.int .i64 x91), (.int .i64 x92), (.bool x93), (.slice x94A x94N x94C), (.slice x95A x95N x95C), (.string x96)])] w43 (Ret fun v_4 w44 => ∃ (x100_1 : Int), ∃ (x101_1 : Int), ∃ (x102_1 : Int), ∃ (x103_1 : Bool), ∃ (x104A_1 : Option Addr), ∃ (x104N_1 : Nat), ∃ (x104C_1 : Nat), ∃ (x105A_1 : Option Addr), ∃ (x105N_1 : Nat), ∃ (x105C_1 : Nat), ∃ (x106_1 : ByteArray), v_4 = (.agg #[(.int .i64 x100_1), (.int .i64 x101_1), (.int .i64 x102_1), (.bool x103_1), (.slice x104A_1 x104N_1 x104C_1), (.slice x105A_1 x105N_1 x105C_1), (.string x106_1)]) ∧
  vS w44 ∧
  Calls Try.prog 77 #[(.agg #[(.int .i64 x110), (.int .i64 x111), (.int .i64 x112), (.bool x113), (.slice x114A x114N x114C), (.slice x115A x115N x115C), (.string x116)])] w44 (Ret fun v_5 w45 => ∃ (x120_2 : Int), ∃ (x121_2 : Int), ∃ (x122_2 : Int), ∃ (x123_2 : Bool), ∃ (x124A_2 : Option Addr), ∃ (x124N_2 : Nat), ∃ (x124C_2 : Nat), ∃ (x125A_2 : Option Addr), ∃ (x125N_2 : Nat), ∃ (x125C_2 : Nat), ∃ (x126_2 : ByteArray), v_5 = (.agg #[(.int .i64 x120_2), (.int .i64 x121_2), (.int .i64 x122_2), (.bool x123_2), (.slice x124A_2 x124N_2 x124C_2), (.slice x125A_2 x125N_2 x125C_2), (.string x126_2)]) ∧
  vS w45 ∧
  (((∃ u, w45.cell? (⟨w.heap.size, 0, none⟩ : Addr) = some u) ∧ w45.frozen? (⟨w.heap.size, 0, none⟩ : Addr) = false) ∧ ((∃ u, w45.cell? (⟨w.heap.size, 1, none⟩ : Addr) = some u) ∧ w45.frozen? (⟨w.heap.size, 1, none⟩ : Addr) = false) ∧ ((∃ u, w45.cell? (⟨w.heap.size, 2, none⟩ : Addr) = some u) ∧ w45.frozen? (⟨w.heap.size, 2, none⟩ : Addr) = false) ∧ ((∃ u, w45.cell? (⟨w.heap.size, 3, none⟩ : Addr) = some u) ∧ w45.frozen? (⟨w.heap.size, 3, none⟩ : Addr) = false) ∧ ((∃ u, w45.cell? (⟨w.heap.size, 4, none⟩ : Addr) = some u) ∧ w45.frozen? (⟨w.heap.size, 4, none⟩ : Addr) = false) ∧ ((∃ u, w45.cell? (⟨w.heap.size, 5, none⟩ : Addr) = some u) ∧ w45.frozen? (⟨w.heap.size, 5, none⟩ : Addr) = false) ∧ ((∃ u, w45.cell? (⟨w.heap.size, 6, none⟩ : Addr) = some u) ∧ w45.frozen? (⟨w.heap.size, 6, none⟩ : Addr) = false)) ∧ ∀ w46 : World, w46 = (((((((w45.setCell (⟨w.heap.size, 0, none⟩ : Addr) (.int .i64 x100_1)).setCell (⟨w.heap.size, 1, none⟩ : Addr) (.int .i64 x101_1)).setCell (⟨w.heap.size, 2, none⟩ : Addr) (.int .i64 x102_1)).setCell (⟨w.heap.size, 3, none⟩ : Addr) (.bool x103_1)).setCell (⟨w.heap.size, 4, none⟩ : Addr) (.slice x104A_1 x104N_1 x104C_1)).setCell (⟨w.heap.size, 5, none⟩ : Addr) (.slice x105A_1 x105N_1 x105C_1)).setCell (⟨w.heap.size, 6, none⟩ : Addr) (.string x106_1)) →
  (((∃ u, w46.cell? (⟨w5.heap.size, 0, none⟩ : Addr) = some u) ∧ w46.frozen? (⟨w5.heap.size, 0, none⟩ : Addr) = false) ∧ ((∃ u, w46.cell? (⟨w5.heap.size, 1, none⟩ : Addr) = some u) ∧ w46.frozen? (⟨w5.heap.size, 1, none⟩ : Addr) = false) ∧ ((∃ u, w46.cell? (⟨w5.heap.size, 2, none⟩ : Addr) = some u) ∧ w46.frozen? (⟨w5.heap.size, 2, none⟩ : Addr) = false) ∧ ((∃ u, w46.cell? (⟨w5.heap.size, 3, none⟩ : Addr) = some u) ∧ w46.frozen? (⟨w5.heap.size, 3, none⟩ : Addr) = false) ∧ ((∃ u, w46.cell? (⟨w5.heap.size, 4, none⟩ : Addr) = some u) ∧ w46.frozen? (⟨w5.heap.size, 4, none⟩ : Addr) = false) ∧ ((∃ u, w46.cell? (⟨w5.heap.size, 5, none⟩ : Addr) = some u) ∧ w46.frozen? (⟨w5.heap.size, 5, none⟩ : Addr) = false) ∧ ((∃ u, w46.cell? (⟨w5.heap.size, 6, none⟩ : Addr) = some u) ∧ w46.frozen? (⟨w5.heap.size, 6, none⟩ : Addr) = false)) ∧ ∀ w47 : World, w47 = (((((((w46.setCell (⟨w5.heap.size, 0, none⟩ : Addr) (.int .i64 x120_2)).setCell (⟨w5.heap.size, 1, none⟩ : Addr) (.int .i64 x121_2)).setCell (⟨w5.heap.size, 2, none⟩ : Addr) (.int .i64 x122_2)).setCell (⟨w5.heap.size, 3, none⟩ : Addr) (.bool x123_2)).setCell (⟨w5.heap.size, 4, none⟩ : Addr) (.slice x124A_2 x124N_2 x124C_2)).setCell (⟨w5.heap.size, 5, none⟩ : Addr) (.slice x125A_2 x125N_2 x125C_2)).setCell (⟨w5.heap.size, 6, none⟩ : Addr) (.string x126_2)) →
  True ∧
  ∃ J_12 : World → Prop, (∃ (x14_2 : Int), w47.cell? (⟨w5.heap.size, 1, none⟩ : Addr) = some (.int .i64 x14_2) ∧
  ((x14_2 != (0 : Int)) = true →
  (((∃ u, w47.cell? (⟨w.heap.size, 1, none⟩ : Addr) = some u) ∧ w47.frozen? (⟨w.heap.size, 1, none⟩ : Addr) = false)) ∧ ∀ w48 : World, w48 = (w47.setCell (⟨w.heap.size, 1, none⟩ : Addr) (.int .i64 0)) →
  J_12 w48) ∧
  ((x14_2 != (0 : Int)) = false →
  J_12 w47)) ∧
  ∀ (jk : Nat → Value), ∀ w49 : World, J_12 w49 →
  ∃ J_13 : World → Prop, (∃ (x18_2 : Int), w49.cell? (⟨w5.heap.size, 2, none⟩ : Addr) = some (.int .i64 x18_2) ∧
  ((x18_2 != (0 : Int)) = true →
  (((∃ u, w49.cell? (⟨w.heap.size, 2, none⟩ : Addr) = some u) ∧ w49.frozen? (⟨w.heap.size, 2, none⟩ : Addr) = false)) ∧ ∀ w50 : World, w50 = (w49.setCell (⟨w.heap.size, 2, none⟩ : Addr) (.int .i64 0)) →
  J_13 w50) ∧
  ((x18_2 != (0 : Int)) = false →
  J_13 w49)) ∧
  ∀ (jk : Nat → Value), ∀ w51 : World, J_13 w51 →
  ∃ J_14 : World → Prop, (∃ (x22_2 : Bool), w51.cell? (⟨w5.heap.size, 3, none⟩ : Addr) = some (.bool x22_2) ∧
  (x22_2 = true →
  (((∃ u, w51.cell? (⟨w.heap.size, 3, none⟩ : Addr) = some u) ∧ w51.frozen? (⟨w.heap.size, 3, none⟩ : Addr) = false)) ∧ ∀ w52 : World, w52 = (w51.setCell (⟨w.heap.size, 3, none⟩ : Addr) (.bool false)) →
  J_14 w52) ∧
  (x22_2 = false →
  J_14 w51)) ∧
  ∀ (jk : Nat → Value), ∀ w53 : World, J_14 w53 →
  ∃ J_15 : World → Prop, (∃ (x25A_2 : Option Addr), ∃ (x25N_2 : Nat), ∃ (x25C_2 : Nat), w53.cell? (⟨w5.heap.size, 4, none⟩ : Addr) = some (.slice x25A_2 x25N_2 x25C_2) ∧
  (decide (((x25N_2 : Nat) : Int) > (0 : Int)) = true →
  (((∃ u, w53.cell? (⟨w.heap.size, 4, none⟩ : Addr) = some u) ∧ w53.frozen? (⟨w.heap.size, 4, none⟩ : Addr) = false)) ∧ ∀ w54 : World, w54 = (w53.setCell (⟨w.heap.size, 4, none⟩ : Addr) (.slice none 0 0)) →
  J_15 w54) ∧
  (decide (((x25N_2 : Nat) : Int) > (0 : Int)) = false →
  J_15 w53)) ∧
  ∀ (jk : Nat → Value), ∀ w55 : World, J_15 w55 →
  ∃ J_16 : World → Prop, (∃ (x30A_2 : Option Addr), ∃ (x30N_2 : Nat), ∃ (x30C_2 : Nat), w55.cell? (⟨w5.heap.size, 5, none⟩ : Addr) = some (.slice x30A_2 x30N_2 x30C_2) ∧
  (decide (((x30N_2 : Nat) : Int) > (0 : Int)) = true →
  (((∃ u, w55.cell? (⟨w.heap.size, 5, none⟩ : Addr) = some u) ∧ w55.frozen? (⟨w.heap.size, 5, none⟩ : Addr) = false)) ∧ ∀ w56 : World, w56 = (w55.setCell (⟨w.heap.size, 5, none⟩ : Addr) (.slice none 0 0)) →
  J_16 w56) ∧
  (decide (((x30N_2 : Nat) : Int) > (0 : Int)) = false →
  J_16 w55)) ∧
  ∀ (jk : Nat → Value), ∀ w57 : World, J_16 w57 →
  ∃ J_17 : World → Prop, (∃ (x35_2 : ByteArray), w57.cell? (⟨w5.heap.size, 6, none⟩ : Addr) = some (.string x35_2) ∧
  ((!(x35_2.toList == (ByteArray.mk #[]).toList)) = true →
  (((∃ u, w57.cell? (⟨w.heap.size, 6, none⟩ : Addr) = some u) ∧ w57.frozen? (⟨w.heap.size, 6, none⟩ : Addr) = false)) ∧ ∀ w58 : World, w58 = (w57.setCell (⟨w.heap.size, 6, none⟩ : Addr) (.string (ByteArray.mk #[]))) →
  J_17 w58) ∧
  ((!(x35_2.toList == (ByteArray.mk #[]).toList)) = false →
  J_17 w57)) ∧
  ∀ (jk : Nat → Value), ∀ w59 : World, J_17 w59 →
  ∃ (x380_2 : Int), ∃ (x381_2 : Int), ∃ (x382_2 : Int), ∃ (x383_2 : Bool), ∃ (x384A_2 : Option Addr), ∃ (x384N_2 : Nat), ∃ (x384C_2 : Nat), ∃ (x385A_2 : Option Addr), ∃ (x385N_2 : Nat), ∃ (x385C_2 : Nat), ∃ (x386_2 : ByteArray), (w59.cell? (⟨w.heap.size, 0, none⟩ : Addr) = some (.int .i64 x380_2) ∧ w59.cell? (⟨w.heap.size, 1, none⟩ : Addr) = some (.int .i64 x381_2) ∧ w59.cell? (⟨w.heap.size, 2, none⟩ : Addr) = some (.int .i64 x382_2) ∧ w59.cell? (⟨w.heap.size, 3, none⟩ : Addr) = some (.bool x383_2) ∧ w59.cell? (⟨w.heap.size, 4, none⟩ : Addr) = some (.slice x384A_2 x384N_2 x384C_2) ∧ w59.cell? (⟨w.heap.size, 5, none⟩ : Addr) = some (.slice x385A_2 x385N_2 x385C_2) ∧ w59.cell? (⟨w.heap.size, 6, none⟩ : Addr) = some (.string x386_2)) ∧
  (((∃ u, w59.cell? (⟨w1.heap.size, 0, none⟩ : Addr) = some u) ∧ w59.frozen? (⟨w1.heap.size, 0, none⟩ : Addr) = false) ∧ ((∃ u, w59.cell? (⟨w1.heap.size, 1, none⟩ : Addr) = some u) ∧ w59.frozen? (⟨w1.heap.size, 1, none⟩ : Addr) = false) ∧ ((∃ u, w59.cell? (⟨w1.heap.size, 2, none⟩ : Addr) = some u) ∧ w59.frozen? (⟨w1.heap.size, 2, none⟩ : Addr) = false) ∧ ((∃ u, w59.cell? (⟨w1.heap.size, 3, none⟩ : Addr) = some u) ∧ w59.frozen? (⟨w1.heap.size, 3, none⟩ : Addr) = false) ∧ ((∃ u, w59.cell? (⟨w1.heap.size, 4, none⟩ : Addr) = some u) ∧ w59.frozen? (⟨w1.heap.size, 4, none⟩ : Addr) = false) ∧ ((∃ u, w59.cell? (⟨w1.heap.size, 5, none⟩ : Addr) = some u) ∧ w59.frozen? (⟨w1.heap.size, 5, none⟩ : Addr) = false) ∧ ((∃ u, w59.cell? (⟨w1.heap.size, 6, none⟩ : Addr) = some u) ∧ w59.frozen? (⟨w1.heap.size, 6, none⟩ : Addr) = false)) ∧ ∀ w60 : World, w60 = (((((((w59.setCell (⟨w1.heap.size, 0, none⟩ : Addr) (.int .i64 x380_2)).setCell (⟨w1.heap.size, 1, none⟩ : Addr) (.int .i64 x381_2)).setCell (⟨w1.heap.size, 2, none⟩ : Addr) (.int .i64 x382_2)).setCell (⟨w1.heap.size, 3, none⟩ : Addr) (.bool x383_2)).setCell (⟨w1.heap.size, 4, none⟩ : Addr) (.slice x384A_2 x384N_2 x384C_2)).setCell (⟨w1.heap.size, 5, none⟩ : Addr) (.slice x385A_2 x385N_2 x385C_2)).setCell (⟨w1.heap.size, 6, none⟩ : Addr) (.string x386_2)) →
  ∃ (r00_3 : Int), ∃ (r01_3 : Int), ∃ (r02_3 : Int), ∃ (r03_3 : Bool), ∃ (r04A_3 : Option Addr), ∃ (r04N_3 : Nat), ∃ (r04C_3 : Nat), ∃ (r05A_3 : Option Addr), ∃ (r05N_3 : Nat), ∃ (r05C_3 : Nat), ∃ (r06_3 : ByteArray), (w60.cell? (⟨w1.heap.size, 0, none⟩ : Addr) = some (.int .i64 r00_3) ∧ w60.cell? (⟨w1.heap.size, 1, none⟩ : Addr) = some (.int .i64 r01_3) ∧ w60.cell? (⟨w1.heap.size, 2, none⟩ : Addr) = some (.int .i64 r02_3) ∧ w60.cell? (⟨w1.heap.size, 3, none⟩ : Addr) = some (.bool r03_3) ∧ w60.cell? (⟨w1.heap.size, 4, none⟩ : Addr) = some (.slice r04A_3 r04N_3 r04C_3) ∧ w60.cell? (⟨w1.heap.size, 5, none⟩ : Addr) = some (.slice r05A_3 r05N_3 r05C_3) ∧ w60.cell? (⟨w1.heap.size, 6, none⟩ : Addr) = some (.string r06_3)) ∧
  R (.agg #[(.int .i64 r00_3), (.int .i64 r01_3), (.int .i64 r02_3), (.bool r03_3), (.slice r04A_3 r04N_3 r04C_3), (.slice r05A_3 r05N_3 r05C_3), (.string r06_3)]) w60))) ∧ True))
theorem order_Trim.vc_eq (c0 : Int) (c1 : Int) (c2 : Int) (c3 : Bool) (c4A : Option Addr) (c4N : Nat) (c4C : Nat) (c5A : Option Addr) (c5N : Nat) (c5C : Nat) (c6 : ByteArray) (w : World) (R : Value → World → Prop) : fnV Try.prog Try.f46 (.c .nil (.tk 0 (.tk 2 (.alt 1 (.alt 3 (.alt 4 (.last 5 (.alt 6 (.fin (.cut 0 [(13, none), (14, none), (15, none), (16, none)] (.c .nil .nil) (.cut 0 [(17, none), (18, none), (19, none), (20, none)] (.c .nil .nil) (.cut 0 [(21, none), (22, none), (23, none)] (.c .nil .nil) (.cut 0 [(24, none), (25, none), (26, none), (27, none), (28, none)] (.c .nil .nil) (.cut 0 [(29, none), (30, none), (31, none), (32, none), (33, none)] (.c .nil .nil) (.cut 0 [(34, none), (35, none), (36, none), (37, none)] (.c .nil .nil) .nil))))))) .nil)) .nil) (.alt 4 (.alt 3 (.last 5 (.alt 6 (.fin (.cut 0 [(13, none), (14, none), (15, none), (16, none)] (.c .nil .nil) (.cut 0 [(17, none), (18, none), (19, none), (20, none)] (.c .nil .nil) (.cut 0 [(21, none), (22, none), (23, none)] (.c .nil .nil) (.cut 0 [(24, none), (25, none), (26, none), (27, none), (28, none)] (.c .nil .nil) (.cut 0 [(29, none), (30, none), (31, none), (32, none), (33, none)] (.c .nil .nil) (.cut 0 [(34, none), (35, none), (36, none), (37, none)] (.c .nil .nil) .nil))))))) .nil)) .nil) .nil)) (.alt 4 (.alt 1 (.alt 3 (.last 5 (.alt 6 (.fin (.cut 0 [(13, none), (14, none), (15, none), (16, none)] (.c .nil .nil) (.cut 0 [(17, none), (18, none), (19, none), (20, none)] (.c .nil .nil) (.cut 0 [(21, none), (22, none), (23, none)] (.c .nil .nil) (.cut 0 [(24, none), (25, none), (26, none), (27, none), (28, none)] (.c .nil .nil) (.cut 0 [(29, none), (30, none), (31, none), (32, none), (33, none)] (.c .nil .nil) (.cut 0 [(34, none), (35, none), (36, none), (37, none)] (.c .nil .nil) .nil))))))) .nil)) .nil) .nil) .nil))))) [(.agg #[(.int .i64 c0), (.int .i64 c1), (.int .i64 c2), (.bool c3), (.slice c4A c4N c4C), (.slice c5A c5N c5C), (.string c6)])] w R = order_Trim.vc c0 c1 c2 c3 c4A c4N c4C c5A c5N c5C c6 w R := by kernel_rfl
theorem order_Trim.calls (c0 : Int) (c1 : Int) (c2 : Int) (c3 : Bool) (c4A : Option Addr) (c4N : Nat) (c4C : Nat) (c5A : Option Addr) (c5N : Nat) (c5C : Nat) (c6 : ByteArray) {w : World} {R : Value → World → Prop} (h : order_Trim.vc c0 c1 c2 c3 c4A c4N c4C c5A c5N c5C c6 w R) : Calls Try.prog 46 #[(.agg #[(.int .i64 c0), (.int .i64 c1), (.int .i64 c2), (.bool c3), (.slice c4A c4N c4C), (.slice c5A c5N c5C), (.string c6)])] w (Ret R) :=
  calls_V fit Try.func46 (.c .nil (.tk 0 (.tk 2 (.alt 1 (.alt 3 (.alt 4 (.last 5 (.alt 6 (.fin (.cut 0 [(13, none), (14, none), (15, none), (16, none)] (.c .nil .nil) (.cut 0 [(17, none), (18, none), (19, none), (20, none)] (.c .nil .nil) (.cut 0 [(21, none), (22, none), (23, none)] (.c .nil .nil) (.cut 0 [(24, none), (25, none), (26, none), (27, none), (28, none)] (.c .nil .nil) (.cut 0 [(29, none), (30, none), (31, none), (32, none), (33, none)] (.c .nil .nil) (.cut 0 [(34, none), (35, none), (36, none), (37, none)] (.c .nil .nil) .nil))))))) .nil)) .nil) (.alt 4 (.alt 3 (.last 5 (.alt 6 (.fin (.cut 0 [(13, none), (14, none), (15, none), (16, none)] (.c .nil .nil) (.cut 0 [(17, none), (18, none), (19, none), (20, none)] (.c .nil .nil) (.cut 0 [(21, none), (22, none), (23, none)] (.c .nil .nil) (.cut 0 [(24, none), (25, none), (26, none), (27, none), (28, none)] (.c .nil .nil) (.cut 0 [(29, none), (30, none), (31, none), (32, none), (33, none)] (.c .nil .nil) (.cut 0 [(34, none), (35, none), (36, none), (37, none)] (.c .nil .nil) .nil))))))) .nil)) .nil) .nil)) (.alt 4 (.alt 1 (.alt 3 (.last 5 (.alt 6 (.fin (.cut 0 [(13, none), (14, none), (15, none), (16, none)] (.c .nil .nil) (.cut 0 [(17, none), (18, none), (19, none), (20, none)] (.c .nil .nil) (.cut 0 [(21, none), (22, none), (23, none)] (.c .nil .nil) (.cut 0 [(24, none), (25, none), (26, none), (27, none), (28, none)] (.c .nil .nil) (.cut 0 [(29, none), (30, none), (31, none), (32, none), (33, none)] (.c .nil .nil) (.cut 0 [(34, none), (35, none), (36, none), (37, none)] (.c .nil .nil) .nil))))))) .nil)) .nil) .nil) .nil))))) (by rw [show (#[(.agg #[(.int .i64 c0), (.int .i64 c1), (.int .i64 c2), (.bool c3), (.slice c4A c4N c4C), (.slice c5A c5N c5C), (.string c6)])] : Array Value).toList = [(.agg #[(.int .i64 c0), (.int .i64 c1), (.int .i64 c2), (.bool c3), (.slice c4A c4N c4C), (.slice c5A c5N c5C), (.string c6)])] from rfl, order_Trim.vc_eq]; exact h)
/-- function 78 -/
def order_isNumber.vc (n : Int) (w : World) (R : Value → World → Prop) : Prop :=
  (decide (n ≥ (-2147483648 : Int)) = true →
  R (.bool (decide (n < (2147483648 : Int)))) w) ∧
  (decide (n ≥ (-2147483648 : Int)) = false →
  R (.bool false) w)
theorem order_isNumber.vc_eq (n : Int) (w : World) (R : Value → World → Prop) : fnV Try.prog Try.f78 (.at_ 1 2 .nil .nil) [(.int .i64 n)] w R = order_isNumber.vc n w R := by kernel_rfl
theorem order_isNumber.calls (n : Int) {w : World} {R : Value → World → Prop} (h : order_isNumber.vc n w R) : Calls Try.prog 78 #[(.int .i64 n)] w (Ret R) :=
  calls_V fit Try.func78 (.at_ 1 2 .nil .nil) (by rw [show (#[(.int .i64 n)] : Array Value).toList = [(.int .i64 n)] from rfl, order_isNumber.vc_eq]; exact h)
/-- function 104 -/
def order_isRow_c1.vc (n : Int) (w : World) (R : Value → World → Prop) : Prop :=
  Calls Try.prog 78 #[(.int .i64 n)] w (Ret fun v w1 => ∃ (x4 : Bool), v = (.bool x4) ∧
  R (.bool (!x4)) w1)
theorem order_isRow_c1.vc_eq (n : Int) (w : World) (R : Value → World → Prop) : fnV Try.prog Try.f104 .nil [(.int .i64 n)] w R = order_isRow_c1.vc n w R := by kernel_rfl
theorem order_isRow_c1.calls (n : Int) {w : World} {R : Value → World → Prop} (h : order_isRow_c1.vc n w R) : Calls Try.prog 104 #[(.int .i64 n)] w (Ret R) :=
  calls_V fit Try.func104 .nil (by rw [show (#[(.int .i64 n)] : Array Value).toList = [(.int .i64 n)] from rfl, order_isRow_c1.vc_eq]; exact h)
/-- function 107 -/
def slices_IndexFunc.vc_rw (sA : Option Addr) (sN : Nat) (sC : Nat) (w : World) (R : Value → World → Prop) : Prop :=
  ∃ vI : Int → Nat → World → Prop, (∃ vk_2 : Nat, vI 0 vk_2 w) ∧
  ∀ (jk : Nat → Value) (x8 : Int), ∀ (vk : Nat) (w1 : World), vI x8 vk w1 →
  (decide (x8 < ((sN : Nat) : Int)) = true →
  (0 ≤ x8 ∧ x8 < ((sN : Nat) : Int)) ∧ someV sA fun p =>
  ∃ (x15 : Int), w1.cell? (p.add (x8.toNat * 1)) = some (.int .i64 x15) ∧
  Calls Try.prog 104 #[(.int .i64 x15)] w1 (Ret fun v w2 => ∃ (x16 : Bool), v = (.bool x16) ∧
  (x16 = true →
  R (.int .i64 x8) w2) ∧
  (x16 = false →
  ∃ vk_1 : Nat, vk_1 < vk ∧ vI (IntKind.i64.wrap (x8 + 1)) vk_1 w2))) ∧
  (decide (x8 < ((sN : Nat) : Int)) = false →
  R (.int .i64 (-1)) w1)
theorem slices_IndexFunc.vc_rw_eq (sA : Option Addr) (sN : Nat) (sC : Nat) (w : World) (R : Value → World → Prop) : fnV Try.prog Try.f107 (.lp [(4, none), (5, none), (8, some (.int .i64)), (9, none), (10, none), (11, none), (12, none), (13, none), (14, none), (15, none), (16, none), (17, none), (18, none)] (.c (.c .nil .nil) .nil)) [(.slice sA sN sC), (.func (.func 104) #[] #[])] w R = slices_IndexFunc.vc_rw sA sN sC w R := by kernel_rfl
theorem slices_IndexFunc.calls_rw (sA : Option Addr) (sN : Nat) (sC : Nat) {w : World} {R : Value → World → Prop} (h : slices_IndexFunc.vc_rw sA sN sC w R) : Calls Try.prog 107 #[(.slice sA sN sC), (.func (.func 104) #[] #[])] w (Ret R) :=
  calls_V fit Try.func107 (.lp [(4, none), (5, none), (8, some (.int .i64)), (9, none), (10, none), (11, none), (12, none), (13, none), (14, none), (15, none), (16, none), (17, none), (18, none)] (.c (.c .nil .nil) .nil)) (by rw [show (#[(.slice sA sN sC), (.func (.func 104) #[] #[])] : Array Value).toList = [(.slice sA sN sC), (.func (.func 104) #[] #[])] from rfl, slices_IndexFunc.vc_rw_eq]; exact h)
/-- function 90 -/
def slices_ContainsFunc.vc_rw (sA : Option Addr) (sN : Nat) (sC : Nat) (w : World) (R : Value → World → Prop) : Prop :=
  Calls Try.prog 107 #[(.slice sA sN sC), (.func (.func 104) #[] #[])] w (Ret fun v w1 => ∃ (x7 : Int), v = (.int .i64 x7) ∧
  R (.bool (decide (x7 ≥ (0 : Int)))) w1)
theorem slices_ContainsFunc.vc_rw_eq (sA : Option Addr) (sN : Nat) (sC : Nat) (w : World) (R : Value → World → Prop) : fnV Try.prog Try.f90 .nil [(.slice sA sN sC), (.func (.func 104) #[] #[])] w R = slices_ContainsFunc.vc_rw sA sN sC w R := by kernel_rfl
theorem slices_ContainsFunc.calls_rw (sA : Option Addr) (sN : Nat) (sC : Nat) {w : World} {R : Value → World → Prop} (h : slices_ContainsFunc.vc_rw sA sN sC w R) : Calls Try.prog 90 #[(.slice sA sN sC), (.func (.func 104) #[] #[])] w (Ret R) :=
  calls_V fit Try.func90 .nil (by rw [show (#[(.slice sA sN sC), (.func (.func 104) #[] #[])] : Array Value).toList = [(.slice sA sN sC), (.func (.func 104) #[] #[])] from rfl, slices_ContainsFunc.vc_rw_eq]; exact h)
/-- function 79 -/
def order_isRow.vc (listA : Option Addr) (listN : Nat) (listC : Nat) (w : World) (R : Value → World → Prop) : Prop :=
  (decide (((listN : Nat) : Int) ≤ (32 : Int)) = true →
  Calls Try.prog 90 #[(.slice listA listN listC), (.func (.func 104) #[] #[])] w (Ret fun v w1 => ∃ (x8 : Bool), v = (.bool x8) ∧
  R (.bool (!x8)) w1)) ∧
  (decide (((listN : Nat) : Int) ≤ (32 : Int)) = false →
  R (.bool false) w)
theorem order_isRow.vc_eq (listA : Option Addr) (listN : Nat) (listC : Nat) (w : World) (R : Value → World → Prop) : fnV Try.prog Try.f79 (.at_ 1 3 .nil .nil) [(.slice listA listN listC)] w R = order_isRow.vc listA listN listC w R := by kernel_rfl
theorem order_isRow.calls (listA : Option Addr) (listN : Nat) (listC : Nat) {w : World} {R : Value → World → Prop} (h : order_isRow.vc listA listN listC w R) : Calls Try.prog 79 #[(.slice listA listN listC)] w (Ret R) :=
  calls_V fit Try.func79 (.at_ 1 3 .nil .nil) (by rw [show (#[(.slice listA listN listC)] : Array Value).toList = [(.slice listA listN listC)] from rfl, order_isRow.vc_eq]; exact h)
/-- function 41 -/
def order_Good.vc (c0 : Int) (c1 : Int) (c2 : Int) (c3 : Bool) (c4A : Option Addr) (c4N : Nat) (c4C : Nat) (c5A : Option Addr) (c5N : Nat) (c5C : Nat) (c6 : ByteArray) (w : World) (R : Value → World → Prop) : Prop :=
  ∀ w1 : World, w1 = w.alloc (.cells #[(.int .i64 c0), (.int .i64 c1), (.int .i64 c2), (.bool c3), (.slice c4A c4N c4C), (.slice c5A c5N c5C), (.string c6)] 72 (0, 0)) →
  ∃ vS : World → Prop, ∀ w2 : World, w2 = w1.drew → vS w2 ∧
  ∃ (x4 : Int), (∀ w3, vS w3 → w3.cell? (⟨w.heap.size, 0, none⟩ : Addr) = some (.int .i64 x4)) ∧
  Calls Try.prog 42 #[(.int .i64 x4)] w2 (Ret fun v w4 => ∃ (x5 : ByteArray), v = (.string x5) ∧
  vS w4 ∧
  ((x5.toList == (ByteArray.mk #[]).toList) = true →
  R (.bool false) w4) ∧
  ((x5.toList == (ByteArray.mk #[]).toList) = false →
  ∃ (x80 : Int), ∃ (x81 : Int), ∃ (x82 : Int), ∃ (x83 : Bool), ∃ (x84A : Option Addr), ∃ (x84N : Nat), ∃ (x84C : Nat), ∃ (x85A : Option Addr), ∃ (x85N : Nat), ∃ (x85C : Nat), ∃ (x86 : ByteArray), ((∀ w5, vS w5 → w5.cell? (⟨w.heap.size, 0, none⟩ : Addr) = some (.int .i64 x80)) ∧ (∀ w5, vS w5 → w5.cell? (⟨w.heap.size, 1, none⟩ : Addr) = some (.int .i64 x81)) ∧ (∀ w5, vS w5 → w5.cell? (⟨w.heap.size, 2, none⟩ : Addr) = some (.int .i64 x82)) ∧ (∀ w5, vS w5 → w5.cell? (⟨w.heap.size, 3, none⟩ : Addr) = some (.bool x83)) ∧ (∀ w5, vS w5 → w5.cell? (⟨w.heap.size, 4, none⟩ : Addr) = some (.slice x84A x84N x84C)) ∧ (∀ w5, vS w5 → w5.cell? (⟨w.heap.size, 5, none⟩ : Addr) = some (.slice x85A x85N x85C)) ∧ (∀ w5, vS w5 → w5.cell? (⟨w.heap.size, 6, none⟩ : Addr) = some (.string x86))) ∧
  ∃ (x11 : Int), (∀ w6, vS w6 → w6.cell? (⟨w.heap.size, 0, none⟩ : Addr) = some (.int .i64 x11)) ∧
  Calls Try.prog 77 #[(.agg #[(.int .i64 x80), (.int .i64 x81), (.int .i64 x82), (.bool x83), (.slice x84A x84N x84C), (.slice x85A x85N x85C), (.string x86)])] w4 (Ret fun v_1 w7 => ∃ (x90 : Int), ∃ (x91 : Int), ∃ (x92 : Int), ∃ (x93 : Bool), ∃ (x94A : Option Addr), ∃ (x94N : Nat), ∃ (x94C : Nat), ∃ (x95A : Option Addr), ∃ (x95N : Nat), ∃ (x95C : Nat), ∃ (x96 : ByteArray), v_1 = (.agg #[(.int .i64 x90), (.int .i64 x91), (.int .i64 x92), (.bool x93), (.slice x94A x94N x94C), (.slice x95A x95N x95C), (.string x96)]) ∧
  vS w7 ∧
  Calls Try.prog 44 #[(.agg #[(.int .i64 x90), (.int .i64 x91), (.int .i64 x92), (.bool x93), (.slice x94A x94N x94C), (.slice x95A x95N x95C), (.string x96)]), (.agg #[(.int .i64 x11), (.int .i64 0), (.int .i64 0), (.bool false), (.slice none 0 0), (.slice none 0 0), (.string ByteArray.empty)])] w7 (Ret fun v_2 w8 => ∃ (x13 : Bool), v_2 = (.bool x13) ∧
  vS w8 ∧
  ((!x13) = true →
  R (.bool false) w8) ∧
  ((!x13) = false →
  ∃ (x17 : Int), w8.cell? (⟨w.heap.size, 1, none⟩ : Addr) = some (.int .i64 x17) ∧
  Calls Try.prog 78 #[(.int .i64 x17)] w8 (Ret fun v_3 w9 => ∃ (x18 : Bool), v_3 = (.bool x18) ∧
  (x18 = true →
  ∃ (x21 : Int), w9.cell? (⟨w.heap.size, 2, none⟩ : Addr) = some (.int .i64 x21) ∧
  Calls Try.prog 78 #[(.int .i64 x21)] w9 (Ret fun v_4 w10 => ∃ (x22 : Bool), v_4 = (.bool x22) ∧
  (x22 = true →
  ∃ (x26A : Option Addr), ∃ (x26N : Nat), ∃ (x26C : Nat), w10.cell? (⟨w.heap.size, 4, none⟩ : Addr) = some (.slice x26A x26N x26C) ∧
  Calls Try.prog 79 #[(.slice x26A x26N x26C)] w10 (Ret fun v_5 w11 => ∃ (x27 : Bool), v_5 = (.bool x27) ∧
  (x27 = true →
  ∃ (x31A : Option Addr), ∃ (x31N : Nat), ∃ (x31C : Nat), w11.cell? (⟨w.heap.size, 5, none⟩ : Addr) = some (.slice x31A x31N x31C) ∧
  Calls Try.prog 79 #[(.slice x31A x31N x31C)] w11 (Ret fun v_6 w12 => ∃ (x32 : Bool), v_6 = (.bool x32) ∧
  (x32 = true →
  ∃ (x36 : ByteArray), w12.cell? (⟨w.heap.size, 6, none⟩ : Addr) = some (.string x36) ∧
  R (.bool (decide (((x36.size : Nat) : Int) ≤ (1024 : Int)))) w12) ∧
  (x32 = false →
  R (.bool false) w12))) ∧
  (x27 = false →
  R (.bool false) w11))) ∧
  (x22 = false →
  R (.bool false) w10))) ∧
  (x18 = false →
  R (.bool false) w9)))))))
theorem order_Good.vc_eq (c0 : Int) (c1 : Int) (c2 : Int) (c3 : Bool) (c4A : Option Addr) (c4N : Nat) (c4C : Nat) (c5A : Option Addr) (c5N : Nat) (c5C : Nat) (c6 : ByteArray) (w : World) (R : Value → World → Prop) : fnV Try.prog Try.f41 (.tk 0 (.tk 1 (.alt 2 (.tk 3 (.tks 4 (.tk 5 (.tk 6 (.tk 7 (.tk 8 (.tk 9 (.tk 10 (.tk 11 (.tk 12 (.fin (.k .nil)))))))))) (.tk 5 (.tk 7 (.tk 8 (.tk 9 (.alt 6 (.alt 10 (.tk 11 (.tk 12 (.fin (.c .nil (.at_ 3 3 (.at_ 3 8 (.at_ 3 13 (.at_ 3 18 .nil .nil) .nil) .nil) .nil))))) .nil) .nil))))))) .nil))) [(.agg #[(.int .i64 c0), (.int .i64 c1), (.int .i64 c2), (.bool c3), (.slice c4A c4N c4C), (.slice c5A c5N c5C), (.string c6)])] w R = order_Good.vc c0 c1 c2 c3 c4A c4N c4C c5A c5N c5C c6 w R := by kernel_rfl
theorem order_Good.calls (c0 : Int) (c1 : Int) (c2 : Int) (c3 : Bool) (c4A : Option Addr) (c4N : Nat) (c4C : Nat) (c5A : Option Addr) (c5N : Nat) (c5C : Nat) (c6 : ByteArray) {w : World} {R : Value → World → Prop} (h : order_Good.vc c0 c1 c2 c3 c4A c4N c4C c5A c5N c5C c6 w R) : Calls Try.prog 41 #[(.agg #[(.int .i64 c0), (.int .i64 c1), (.int .i64 c2), (.bool c3), (.slice c4A c4N c4C), (.slice c5A c5N c5C), (.string c6)])] w (Ret R) :=
  calls_V fit Try.func41 (.tk 0 (.tk 1 (.alt 2 (.tk 3 (.tks 4 (.tk 5 (.tk 6 (.tk 7 (.tk 8 (.tk 9 (.tk 10 (.tk 11 (.tk 12 (.fin (.k .nil)))))))))) (.tk 5 (.tk 7 (.tk 8 (.tk 9 (.alt 6 (.alt 10 (.tk 11 (.tk 12 (.fin (.c .nil (.at_ 3 3 (.at_ 3 8 (.at_ 3 13 (.at_ 3 18 .nil .nil) .nil) .nil) .nil))))) .nil) .nil))))))) .nil))) (by rw [show (#[(.agg #[(.int .i64 c0), (.int .i64 c1), (.int .i64 c2), (.bool c3), (.slice c4A c4N c4C), (.slice c5A c5N c5C), (.string c6)])] : Array Value).toList = [(.agg #[(.int .i64 c0), (.int .i64 c1), (.int .i64 c2), (.bool c3), (.slice c4A c4N c4C), (.slice c5A c5N c5C), (.string c6)])] from rfl, order_Good.vc_eq]; exact h)
/-- function 39 -/
def order_Bytes.vc (c0 : Int) (c1 : Int) (c2 : Int) (c3 : Bool) (c4A : Option Addr) (c4N : Nat) (c4C : Nat) (c5A : Option Addr) (c5N : Nat) (c5C : Nat) (c6 : ByteArray) (w : World) (R : Value → World → Prop) : Prop :=
  ∀ w1 : World, w1 = w.alloc (.cells #[(.int .i64 c0), (.int .i64 c1), (.int .i64 c2), (.bool c3), (.slice c4A c4N c4C), (.slice c5A c5N c5C), (.string c6)] 72 (0, 0)) →
  ∃ (x50 : Int), ∃ (x51 : Int), ∃ (x52 : Int), ∃ (x53 : Bool), ∃ (x54A : Option Addr), ∃ (x54N : Nat), ∃ (x54C : Nat), ∃ (x55A : Option Addr), ∃ (x55N : Nat), ∃ (x55C : Nat), ∃ (x56 : ByteArray), (w1.cell? (⟨w.heap.size, 0, none⟩ : Addr) = some (.int .i64 x50) ∧ w1.cell? (⟨w.heap.size, 1, none⟩ : Addr) = some (.int .i64 x51) ∧ w1.cell? (⟨w.heap.size, 2, none⟩ : Addr) = some (.int .i64 x52) ∧ w1.cell? (⟨w.heap.size, 3, none⟩ : Addr) = some (.bool x53) ∧ w1.cell? (⟨w.heap.size, 4, none⟩ : Addr) = some (.slice x54A x54N x54C) ∧ w1.cell? (⟨w.heap.size, 5, none⟩ : Addr) = some (.slice x55A x55N x55C) ∧ w1.cell? (⟨w.heap.size, 6, none⟩ : Addr) = some (.string x56)) ∧
  Calls Try.prog 41 #[(.agg #[(.int .i64 x50), (.int .i64 x51), (.int .i64 x52), (.bool x53), (.slice x54A x54N x54C), (.slice x55A x55N x55C), (.string x56)])] w1 (Ret fun v w2 => ∃ (x6 : Bool), v = (.bool x6) ∧
  ((!x6) = true →
  R (.tuple #[(.string (ByteArray.mk #[])), (.int .i64 1)]) w2) ∧
  ((!x6) = false →
  ∀ w3 : World, w3 = w2.alloc (.cells #[(.pointer none), (.slice none 0 0), (.bool false)] 129 (0, 0)) →
  ∃ (x10 : Int), w3.cell? (⟨w.heap.size, 0, none⟩ : Addr) = some (.int .i64 x10) ∧
  ∀ w4 : World, w4 = w3.alloc (.cells #[(.int .u8 (IntKind.u8.wrap x10))] 5 (0, 0)) →
  Calls Try.prog 75 #[(.pointer (some (⟨w2.heap.size, 0, none⟩ : Addr))), (.slice (some (⟨w3.heap.size, 0, none⟩ : Addr)) 1 1)] w4 (Ret fun v_1 w5 => v_1 = .tuple #[] ∧
  Calls Try.prog 76 #[(.pointer (some (⟨w.heap.size, 0, none⟩ : Addr))), (.iface 132 (.pointer (some (⟨w2.heap.size, 0, none⟩ : Addr))))] w5 (Ret fun v_2 w6 => v_2 = .tuple #[] ∧
  Calls Try.prog 65 #[(.pointer (some (⟨w2.heap.size, 0, none⟩ : Addr)))] w6 (Ret fun v_3 w7 => ∃ (x17 : ByteArray), v_3 = (.string x17) ∧
  R (.tuple #[(.string x17), (.int .i64 0)]) w7)))))
theorem order_Bytes.vc_eq (c0 : Int) (c1 : Int) (c2 : Int) (c3 : Bool) (c4A : Option Addr) (c4N : Nat) (c4C : Nat) (c5A : Option Addr) (c5N : Nat) (c5C : Nat) (c6 : ByteArray) (w : World) (R : Value → World → Prop) : fnV Try.prog Try.f39 (.c .nil .nil) [(.agg #[(.int .i64 c0), (.int .i64 c1), (.int .i64 c2), (.bool c3), (.slice c4A c4N c4C), (.slice c5A c5N c5C), (.string c6)])] w R = order_Bytes.vc c0 c1 c2 c3 c4A c4N c4C c5A c5N c5C c6 w R := by kernel_rfl
theorem order_Bytes.calls (c0 : Int) (c1 : Int) (c2 : Int) (c3 : Bool) (c4A : Option Addr) (c4N : Nat) (c4C : Nat) (c5A : Option Addr) (c5N : Nat) (c5C : Nat) (c6 : ByteArray) {w : World} {R : Value → World → Prop} (h : order_Bytes.vc c0 c1 c2 c3 c4A c4N c4C c5A c5N c5C c6 w R) : Calls Try.prog 39 #[(.agg #[(.int .i64 c0), (.int .i64 c1), (.int .i64 c2), (.bool c3), (.slice c4A c4N c4C), (.slice c5A c5N c5C), (.string c6)])] w (Ret R) :=
  calls_V fit Try.func39 (.c .nil .nil) (by rw [show (#[(.agg #[(.int .i64 c0), (.int .i64 c1), (.int .i64 c2), (.bool c3), (.slice c4A c4N c4C), (.slice c5A c5N c5C), (.string c6)])] : Array Value).toList = [(.agg #[(.int .i64 c0), (.int .i64 c1), (.int .i64 c2), (.bool c3), (.slice c4A c4N c4C), (.slice c5A c5N c5C), (.string c6)])] from rfl, order_Bytes.vc_eq]; exact h)
/-- function 48 -/
def order_Parse.vc (s : ByteArray) (w : World) (R : Value → World → Prop) : Prop :=
  ∀ w1 : World, w1 = w.alloc (.cells #[(.int .i64 0), (.int .i64 0), (.int .i64 0), (.bool false), (.slice none 0 0), (.slice none 0 0), (.string ByteArray.empty)] 72 (0, 0)) →
  Calls Try.prog 68 #[(.string s)] w1 (Ret fun v w2 => ∃ (x7 : Option Addr), v = (.pointer x7) ∧
  ∀ w3 : World, w3 = w2.alloc (.cells #[(.pointer x7), (.bool false)] 139 (0, 0)) →
  ∃ (x13 : Option Addr), w3.cell? (⟨w2.heap.size, 0, none⟩ : Addr) = some (.pointer x13) ∧
  Calls Try.prog 82 #[(.pointer x13)] w3 (Ret fun v_1 w4 => ∃ (x14 : Int), v_1 = (.int .u8 x14) ∧
  ∀ w5 : World, w5 = w4.alloc (.cells #[(.int .i64 0), (.int .i64 0), (.int .i64 0), (.bool false), (.slice none 0 0), (.slice none 0 0), (.string ByteArray.empty)] 72 (0, 0)) →
  (((∃ u, w5.cell? (⟨w4.heap.size, 0, none⟩ : Addr) = some u) ∧ w5.frozen? (⟨w4.heap.size, 0, none⟩ : Addr) = false) ∧ ((∃ u, w5.cell? (⟨w4.heap.size, 1, none⟩ : Addr) = some u) ∧ w5.frozen? (⟨w4.heap.size, 1, none⟩ : Addr) = false) ∧ ((∃ u, w5.cell? (⟨w4.heap.size, 2, none⟩ : Addr) = some u) ∧ w5.frozen? (⟨w4.heap.size, 2, none⟩ : Addr) = false) ∧ ((∃ u, w5.cell? (⟨w4.heap.size, 3, none⟩ : Addr) = some u) ∧ w5.frozen? (⟨w4.heap.size, 3, none⟩ : Addr) = false) ∧ ((∃ u, w5.cell? (⟨w4.heap.size, 4, none⟩ : Addr) = some u) ∧ w5.frozen? (⟨w4.heap.size, 4, none⟩ : Addr) = false) ∧ ((∃ u, w5.cell? (⟨w4.heap.size, 5, none⟩ : Addr) = some u) ∧ w5.frozen? (⟨w4.heap.size, 5, none⟩ : Addr) = false) ∧ ((∃ u, w5.cell? (⟨w4.heap.size, 6, none⟩ : Addr) = some u) ∧ w5.frozen? (⟨w4.heap.size, 6, none⟩ : Addr) = false)) ∧ ∀ w6 : World, w6 = (((((((w5.setCell (⟨w4.heap.size, 0, none⟩ : Addr) (.int .i64 (IntKind.i64.wrap x14))).setCell (⟨w4.heap.size, 1, none⟩ : Addr) (.int .i64 0)).setCell (⟨w4.heap.size, 2, none⟩ : Addr) (.int .i64 0)).setCell (⟨w4.heap.size, 3, none⟩ : Addr) (.bool false)).setCell (⟨w4.heap.size, 4, none⟩ : Addr) (.slice none 0 0)).setCell (⟨w4.heap.size, 5, none⟩ : Addr) (.slice none 0 0)).setCell (⟨w4.heap.size, 6, none⟩ : Addr) (.string ByteArray.empty)) →
  Calls Try.prog 76 #[(.pointer (some (⟨w4.heap.size, 0, none⟩ : Addr))), (.iface 137 (.pointer (some (⟨w2.heap.size, 0, none⟩ : Addr))))] w6 (Ret fun v_2 w7 => v_2 = .tuple #[] ∧
  ∃ (x23 : Option Addr), w7.cell? (⟨w2.heap.size, 0, none⟩ : Addr) = some (.pointer x23) ∧
  Calls Try.prog 71 #[(.pointer x23)] w7 (Ret fun v_3 w8 => ∃ (x24 : Int), v_3 = (.int .i64 x24) ∧
  ((x24 != (0 : Int)) = true →
  (((∃ u, w8.cell? (⟨w.heap.size, 0, none⟩ : Addr) = some u) ∧ w8.frozen? (⟨w.heap.size, 0, none⟩ : Addr) = false) ∧ ((∃ u, w8.cell? (⟨w.heap.size, 1, none⟩ : Addr) = some u) ∧ w8.frozen? (⟨w.heap.size, 1, none⟩ : Addr) = false) ∧ ((∃ u, w8.cell? (⟨w.heap.size, 2, none⟩ : Addr) = some u) ∧ w8.frozen? (⟨w.heap.size, 2, none⟩ : Addr) = false) ∧ ((∃ u, w8.cell? (⟨w.heap.size, 3, none⟩ : Addr) = some u) ∧ w8.frozen? (⟨w.heap.size, 3, none⟩ : Addr) = false) ∧ ((∃ u, w8.cell? (⟨w.heap.size, 4, none⟩ : Addr) = some u) ∧ w8.frozen? (⟨w.heap.size, 4, none⟩ : Addr) = false) ∧ ((∃ u, w8.cell? (⟨w.heap.size, 5, none⟩ : Addr) = some u) ∧ w8.frozen? (⟨w.heap.size, 5, none⟩ : Addr) = false) ∧ ((∃ u, w8.cell? (⟨w.heap.size, 6, none⟩ : Addr) = some u) ∧ w8.frozen? (⟨w.heap.size, 6, none⟩ : Addr) = false)) ∧ ∀ w9 : World, w9 = (((((((w8.setCell (⟨w.heap.size, 0, none⟩ : Addr) (.int .i64 0)).setCell (⟨w.heap.size, 1, none⟩ : Addr) (.int .i64 0)).setCell (⟨w.heap.size, 2, none⟩ : Addr) (.int .i64 0)).setCell (⟨w.heap.size, 3, none⟩ : Addr) (.bool false)).setCell (⟨w.heap.size, 4, none⟩ : Addr) (.slice none 0 0)).setCell (⟨w.heap.size, 5, none⟩ : Addr) (.slice none 0 0)).setCell (⟨w.heap.size, 6, none⟩ : Addr) (.string ByteArray.empty)) →
  ∃ (r00 : Int), ∃ (r01 : Int), ∃ (r02 : Int), ∃ (r03 : Bool), ∃ (r04A : Option Addr), ∃ (r04N : Nat), ∃ (r04C : Nat), ∃ (r05A : Option Addr), ∃ (r05N : Nat), ∃ (r05C : Nat), ∃ (r06 : ByteArray), (w9.cell? (⟨w.heap.size, 0, none⟩ : Addr) = some (.int .i64 r00) ∧ w9.cell? (⟨w.heap.size, 1, none⟩ : Addr) = some (.int .i64 r01) ∧ w9.cell? (⟨w.heap.size, 2, none⟩ : Addr) = some (.int .i64 r02) ∧ w9.cell? (⟨w.heap.size, 3, none⟩ : Addr) = some (.bool r03) ∧ w9.cell? (⟨w.heap.size, 4, none⟩ : Addr) = some (.slice r04A r04N r04C) ∧ w9.cell? (⟨w.heap.size, 5, none⟩ : Addr) = some (.slice r05A r05N r05C) ∧ w9.cell? (⟨w.heap.size, 6, none⟩ : Addr) = some (.string r06)) ∧
  R (.tuple #[(.agg #[(.int .i64 r00), (.int .i64 r01), (.int .i64 r02), (.bool r03), (.slice r04A r04N r04C), (.slice r05A r05N r05C), (.string r06)]), (.int .i64 5)]) w9) ∧
  ((x24 != (0 : Int)) = false →
  ∃ (x30 : Bool), w8.cell? (⟨w2.heap.size, 1, none⟩ : Addr) = some (.bool x30) ∧
  (x30 = true →
  (((∃ u, w8.cell? (⟨w.heap.size, 0, none⟩ : Addr) = some u) ∧ w8.frozen? (⟨w.heap.size, 0, none⟩ : Addr) = false) ∧ ((∃ u, w8.cell? (⟨w.heap.size, 1, none⟩ : Addr) = some u) ∧ w8.frozen? (⟨w.heap.size, 1, none⟩ : Addr) = false) ∧ ((∃ u, w8.cell? (⟨w.heap.size, 2, none⟩ : Addr) = some u) ∧ w8.frozen? (⟨w.heap.size, 2, none⟩ : Addr) = false) ∧ ((∃ u, w8.cell? (⟨w.heap.size, 3, none⟩ : Addr) = some u) ∧ w8.frozen? (⟨w.heap.size, 3, none⟩ : Addr) = false) ∧ ((∃ u, w8.cell? (⟨w.heap.size, 4, none⟩ : Addr) = some u) ∧ w8.frozen? (⟨w.heap.size, 4, none⟩ : Addr) = false) ∧ ((∃ u, w8.cell? (⟨w.heap.size, 5, none⟩ : Addr) = some u) ∧ w8.frozen? (⟨w.heap.size, 5, none⟩ : Addr) = false) ∧ ((∃ u, w8.cell? (⟨w.heap.size, 6, none⟩ : Addr) = some u) ∧ w8.frozen? (⟨w.heap.size, 6, none⟩ : Addr) = false)) ∧ ∀ w10 : World, w10 = (((((((w8.setCell (⟨w.heap.size, 0, none⟩ : Addr) (.int .i64 0)).setCell (⟨w.heap.size, 1, none⟩ : Addr) (.int .i64 0)).setCell (⟨w.heap.size, 2, none⟩ : Addr) (.int .i64 0)).setCell (⟨w.heap.size, 3, none⟩ : Addr) (.bool false)).setCell (⟨w.heap.size, 4, none⟩ : Addr) (.slice none 0 0)).setCell (⟨w.heap.size, 5, none⟩ : Addr) (.slice none 0 0)).setCell (⟨w.heap.size, 6, none⟩ : Addr) (.string ByteArray.empty)) →
  ∃ (r00_1 : Int), ∃ (r01_1 : Int), ∃ (r02_1 : Int), ∃ (r03_1 : Bool), ∃ (r04A_1 : Option Addr), ∃ (r04N_1 : Nat), ∃ (r04C_1 : Nat), ∃ (r05A_1 : Option Addr), ∃ (r05N_1 : Nat), ∃ (r05C_1 : Nat), ∃ (r06_1 : ByteArray), (w10.cell? (⟨w.heap.size, 0, none⟩ : Addr) = some (.int .i64 r00_1) ∧ w10.cell? (⟨w.heap.size, 1, none⟩ : Addr) = some (.int .i64 r01_1) ∧ w10.cell? (⟨w.heap.size, 2, none⟩ : Addr) = some (.int .i64 r02_1) ∧ w10.cell? (⟨w.heap.size, 3, none⟩ : Addr) = some (.bool r03_1) ∧ w10.cell? (⟨w.heap.size, 4, none⟩ : Addr) = some (.slice r04A_1 r04N_1 r04C_1) ∧ w10.cell? (⟨w.heap.size, 5, none⟩ : Addr) = some (.slice r05A_1 r05N_1 r05C_1) ∧ w10.cell? (⟨w.heap.size, 6, none⟩ : Addr) = some (.string r06_1)) ∧
  R (.tuple #[(.agg #[(.int .i64 r00_1), (.int .i64 r01_1), (.int .i64 r02_1), (.bool r03_1), (.slice r04A_1 r04N_1 r04C_1), (.slice r05A_1 r05N_1 r05C_1), (.string r06_1)]), (.int .i64 5)]) w10) ∧
  (x30 = false →
  ∃ (x34 : Int), w8.cell? (⟨w4.heap.size, 0, none⟩ : Addr) = some (.int .i64 x34) ∧
  Calls Try.prog 42 #[(.int .i64 x34)] w8 (Ret fun v_4 w11 => ∃ (x35 : ByteArray), v_4 = (.string x35) ∧
  ((x35.toList == (ByteArray.mk #[]).toList) = true →
  (((∃ u, w11.cell? (⟨w.heap.size, 0, none⟩ : Addr) = some u) ∧ w11.frozen? (⟨w.heap.size, 0, none⟩ : Addr) = false) ∧ ((∃ u, w11.cell? (⟨w.heap.size, 1, none⟩ : Addr) = some u) ∧ w11.frozen? (⟨w.heap.size, 1, none⟩ : Addr) = false) ∧ ((∃ u, w11.cell? (⟨w.heap.size, 2, none⟩ : Addr) = some u) ∧ w11.frozen? (⟨w.heap.size, 2, none⟩ : Addr) = false) ∧ ((∃ u, w11.cell? (⟨w.heap.size, 3, none⟩ : Addr) = some u) ∧ w11.frozen? (⟨w.heap.size, 3, none⟩ : Addr) = false) ∧ ((∃ u, w11.cell? (⟨w.heap.size, 4, none⟩ : Addr) = some u) ∧ w11.frozen? (⟨w.heap.size, 4, none⟩ : Addr) = false) ∧ ((∃ u, w11.cell? (⟨w.heap.size, 5, none⟩ : Addr) = some u) ∧ w11.frozen? (⟨w.heap.size, 5, none⟩ : Addr) = false) ∧ ((∃ u, w11.cell? (⟨w.heap.size, 6, none⟩ : Addr) = some u) ∧ w11.frozen? (⟨w.heap.size, 6, none⟩ : Addr) = false)) ∧ ∀ w12 : World, w12 = (((((((w11.setCell (⟨w.heap.size, 0, none⟩ : Addr) (.int .i64 0)).setCell (⟨w.heap.size, 1, none⟩ : Addr) (.int .i64 0)).setCell (⟨w.heap.size, 2, none⟩ : Addr) (.int .i64 0)).setCell (⟨w.heap.size, 3, none⟩ : Addr) (.bool false)).setCell (⟨w.heap.size, 4, none⟩ : Addr) (.slice none 0 0)).setCell (⟨w.heap.size, 5, none⟩ : Addr) (.slice none 0 0)).setCell (⟨w.heap.size, 6, none⟩ : Addr) (.string ByteArray.empty)) →
  ∃ (r00_2 : Int), ∃ (r01_2 : Int), ∃ (r02_2 : Int), ∃ (r03_2 : Bool), ∃ (r04A_2 : Option Addr), ∃ (r04N_2 : Nat), ∃ (r04C_2 : Nat), ∃ (r05A_2 : Option Addr), ∃ (r05N_2 : Nat), ∃ (r05C_2 : Nat), ∃ (r06_2 : ByteArray), (w12.cell? (⟨w.heap.size, 0, none⟩ : Addr) = some (.int .i64 r00_2) ∧ w12.cell? (⟨w.heap.size, 1, none⟩ : Addr) = some (.int .i64 r01_2) ∧ w12.cell? (⟨w.heap.size, 2, none⟩ : Addr) = some (.int .i64 r02_2) ∧ w12.cell? (⟨w.heap.size, 3, none⟩ : Addr) = some (.bool r03_2) ∧ w12.cell? (⟨w.heap.size, 4, none⟩ : Addr) = some (.slice r04A_2 r04N_2 r04C_2) ∧ w12.cell? (⟨w.heap.size, 5, none⟩ : Addr) = some (.slice r05A_2 r05N_2 r05C_2) ∧ w12.cell? (⟨w.heap.size, 6, none⟩ : Addr) = some (.string r06_2)) ∧
  R (.tuple #[(.agg #[(.int .i64 r00_2), (.int .i64 r01_2), (.int .i64 r02_2), (.bool r03_2), (.slice r04A_2 r04N_2 r04C_2), (.slice r05A_2 r05N_2 r05C_2), (.string r06_2)]), (.int .i64 5)]) w12) ∧
  ((x35.toList == (ByteArray.mk #[]).toList) = false →
  ∃ (x390 : Int), ∃ (x391 : Int), ∃ (x392 : Int), ∃ (x393 : Bool), ∃ (x394A : Option Addr), ∃ (x394N : Nat), ∃ (x394C : Nat), ∃ (x395A : Option Addr), ∃ (x395N : Nat), ∃ (x395C : Nat), ∃ (x396 : ByteArray), (w11.cell? (⟨w4.heap.size, 0, none⟩ : Addr) = some (.int .i64 x390) ∧ w11.cell? (⟨w4.heap.size, 1, none⟩ : Addr) = some (.int .i64 x391) ∧ w11.cell? (⟨w4.heap.size, 2, none⟩ : Addr) = some (.int .i64 x392) ∧ w11.cell? (⟨w4.heap.size, 3, none⟩ : Addr) = some (.bool x393) ∧ w11.cell? (⟨w4.heap.size, 4, none⟩ : Addr) = some (.slice x394A x394N x394C) ∧ w11.cell? (⟨w4.heap.size, 5, none⟩ : Addr) = some (.slice x395A x395N x395C) ∧ w11.cell? (⟨w4.heap.size, 6, none⟩ : Addr) = some (.string x396)) ∧
  (((∃ u, w11.cell? (⟨w.heap.size, 0, none⟩ : Addr) = some u) ∧ w11.frozen? (⟨w.heap.size, 0, none⟩ : Addr) = false) ∧ ((∃ u, w11.cell? (⟨w.heap.size, 1, none⟩ : Addr) = some u) ∧ w11.frozen? (⟨w.heap.size, 1, none⟩ : Addr) = false) ∧ ((∃ u, w11.cell? (⟨w.heap.size, 2, none⟩ : Addr) = some u) ∧ w11.frozen? (⟨w.heap.size, 2, none⟩ : Addr) = false) ∧ ((∃ u, w11.cell? (⟨w.heap.size, 3, none⟩ : Addr) = some u) ∧ w11.frozen? (⟨w.heap.size, 3, none⟩ : Addr) = false) ∧ ((∃ u, w11.cell? (⟨w.heap.size, 4, none⟩ : Addr) = some u) ∧ w11.frozen? (⟨w.heap.size, 4, none⟩ : Addr) = false) ∧ ((∃ u, w11.cell? (⟨w.heap.size, 5, none⟩ : Addr) = some u) ∧ w11.frozen? (⟨w.heap.size, 5, none⟩ : Addr) = false) ∧ ((∃ u, w11.cell? (⟨w.heap.size, 6, none⟩ : Addr) = some u) ∧ w11.frozen? (⟨w.heap.size, 6, none⟩ : Addr) = false)) ∧ ∀ w13 : World, w13 = (((((((w11.setCell (⟨w.heap.size, 0, none⟩ : Addr) (.int .i64 x390)).setCell (⟨w.heap.size, 1, none⟩ : Addr) (.int .i64 x391)).setCell (⟨w.heap.size, 2, none⟩ : Addr) (.int .i64 x392)).setCell (⟨w.heap.size, 3, none⟩ : Addr) (.bool x393)).setCell (⟨w.heap.size, 4, none⟩ : Addr) (.slice x394A x394N x394C)).setCell (⟨w.heap.size, 5, none⟩ : Addr) (.slice x395A x395N x395C)).setCell (⟨w.heap.size, 6, none⟩ : Addr) (.string x396)) →
  ∃ (r00_3 : Int), ∃ (r01_3 : Int), ∃ (r02_3 : Int), ∃ (r03_3 : Bool), ∃ (r04A_3 : Option Addr), ∃ (r04N_3 : Nat), ∃ (r04C_3 : Nat), ∃ (r05A_3 : Option Addr), ∃ (r05N_3 : Nat), ∃ (r05C_3 : Nat), ∃ (r06_3 : ByteArray), (w13.cell? (⟨w.heap.size, 0, none⟩ : Addr) = some (.int .i64 r00_3) ∧ w13.cell? (⟨w.heap.size, 1, none⟩ : Addr) = some (.int .i64 r01_3) ∧ w13.cell? (⟨w.heap.size, 2, none⟩ : Addr) = some (.int .i64 r02_3) ∧ w13.cell? (⟨w.heap.size, 3, none⟩ : Addr) = some (.bool r03_3) ∧ w13.cell? (⟨w.heap.size, 4, none⟩ : Addr) = some (.slice r04A_3 r04N_3 r04C_3) ∧ w13.cell? (⟨w.heap.size, 5, none⟩ : Addr) = some (.slice r05A_3 r05N_3 r05C_3) ∧ w13.cell? (⟨w.heap.size, 6, none⟩ : Addr) = some (.string r06_3)) ∧
  R (.tuple #[(.agg #[(.int .i64 r00_3), (.int .i64 r01_3), (.int .i64 r02_3), (.bool r03_3), (.slice r04A_3 r04N_3 r04C_3), (.slice r05A_3 r05N_3 r05C_3), (.string r06_3)]), (.int .i64 0)]) w13))))))))
theorem order_Parse.vc_eq (s : ByteArray) (w : World) (R : Value → World → Prop) : fnV Try.prog Try.f48 (.at_ 4 6 (.k .nil) (.at_ 4 12 (.k .nil) (.c .nil .nil))) [(.string s)] w R = order_Parse.vc s w R := by kernel_rfl
theorem order_Parse.calls (s : ByteArray) {w : World} {R : Value → World → Prop} (h : order_Parse.vc s w R) : Calls Try.prog 48 #[(.string s)] w (Ret R) :=
  calls_V fit Try.func48 (.at_ 4 6 (.k .nil) (.at_ 4 12 (.k .nil) (.c .nil .nil))) (by rw [show (#[(.string s)] : Array Value).toList = [(.string s)] from rfl, order_Parse.vc_eq]; exact h)
/-- function 34 -/
def order_All.vc (listA : Option Addr) (listN : Nat) (listC : Nat) (w : World) (R : Value → World → Prop) : Prop :=
  (decide (((listN : Nat) : Int) > (400 : Int)) = true →
  R (.tuple #[(.string (ByteArray.mk #[])), (.int .i64 1)]) w) ∧
  (decide (((listN : Nat) : Int) > (400 : Int)) = false →
  ∀ w1 : World, w1 = w.alloc (.cells #[(.pointer none), (.slice none 0 0), (.bool false)] 116 (0, 0)) →
  ∀ w2 : World, w2 = w1.alloc (.cells #[(.int .i64 ((listN : Nat) : Int))] 3 (0, 0)) →
  Calls Try.prog 63 #[(.pointer (some (⟨w.heap.size, 0, none⟩ : Addr))), (.slice (some (⟨w1.heap.size, 0, none⟩ : Addr)) 1 1)] w2 (Ret fun v w3 => v = .tuple #[] ∧
  ∃ vI : Int → Nat → World → Prop, (∃ vk_2 : Nat, vI 0 vk_2 w3) ∧
  ∀ (jk : Nat → Value) (x18 : Int), ∀ (vk : Nat) (w4 : World), vI x18 vk w4 →
  (decide (x18 < ((listN : Nat) : Int)) = true →
  (0 ≤ x18 ∧ x18 < ((listN : Nat) : Int)) ∧ someV listA fun p =>
  ∃ (x210 : Int), ∃ (x211 : Int), ∃ (x212 : Int), ∃ (x213 : Bool), ∃ (x214A : Option Addr), ∃ (x214N : Nat), ∃ (x214C : Nat), ∃ (x215A : Option Addr), ∃ (x215N : Nat), ∃ (x215C : Nat), ∃ (x216 : ByteArray), (w4.cell? (p.add (x18.toNat * 7)) = some (.int .i64 x210) ∧ w4.cell? ((p.add (x18.toNat * 7)).add 1) = some (.int .i64 x211) ∧ w4.cell? ((p.add (x18.toNat * 7)).add 2) = some (.int .i64 x212) ∧ w4.cell? ((p.add (x18.toNat * 7)).add 3) = some (.bool x213) ∧ w4.cell? ((p.add (x18.toNat * 7)).add 4) = some (.slice x214A x214N x214C) ∧ w4.cell? ((p.add (x18.toNat * 7)).add 5) = some (.slice x215A x215N x215C) ∧ w4.cell? ((p.add (x18.toNat * 7)).add 6) = some (.string x216)) ∧
  ∀ w5 : World, w5 = w4.alloc (.cells #[(.int .i64 0), (.int .i64 0), (.int .i64 0), (.bool false), (.slice none 0 0), (.slice none 0 0), (.string ByteArray.empty)] 72 (0, 0)) →
  (((∃ u, w5.cell? (⟨w4.heap.size, 0, none⟩ : Addr) = some u) ∧ w5.frozen? (⟨w4.heap.size, 0, none⟩ : Addr) = false) ∧ ((∃ u, w5.cell? (⟨w4.heap.size, 1, none⟩ : Addr) = some u) ∧ w5.frozen? (⟨w4.heap.size, 1, none⟩ : Addr) = false) ∧ ((∃ u, w5.cell? (⟨w4.heap.size, 2, none⟩ : Addr) = some u) ∧ w5.frozen? (⟨w4.heap.size, 2, none⟩ : Addr) = false) ∧ ((∃ u, w5.cell? (⟨w4.heap.size, 3, none⟩ : Addr) = some u) ∧ w5.frozen? (⟨w4.heap.size, 3, none⟩ : Addr) = false) ∧ ((∃ u, w5.cell? (⟨w4.heap.size, 4, none⟩ : Addr) = some u) ∧ w5.frozen? (⟨w4.heap.size, 4, none⟩ : Addr) = false) ∧ ((∃ u, w5.cell? (⟨w4.heap.size, 5, none⟩ : Addr) = some u) ∧ w5.frozen? (⟨w4.heap.size, 5, none⟩ : Addr) = false) ∧ ((∃ u, w5.cell? (⟨w4.heap.size, 6, none⟩ : Addr) = some u) ∧ w5.frozen? (⟨w4.heap.size, 6, none⟩ : Addr) = false)) ∧ ∀ w6 : World, w6 = (((((((w5.setCell (⟨w4.heap.size, 0, none⟩ : Addr) (.int .i64 x210)).setCell (⟨w4.heap.size, 1, none⟩ : Addr) (.int .i64 x211)).setCell (⟨w4.heap.size, 2, none⟩ : Addr) (.int .i64 x212)).setCell (⟨w4.heap.size, 3, none⟩ : Addr) (.bool x213)).setCell (⟨w4.heap.size, 4, none⟩ : Addr) (.slice x214A x214N x214C)).setCell (⟨w4.heap.size, 5, none⟩ : Addr) (.slice x215A x215N x215C)).setCell (⟨w4.heap.size, 6, none⟩ : Addr) (.string x216)) →
  ∃ (x230 : Int), ∃ (x231 : Int), ∃ (x232 : Int), ∃ (x233 : Bool), ∃ (x234A : Option Addr), ∃ (x234N : Nat), ∃ (x234C : Nat), ∃ (x235A : Option Addr), ∃ (x235N : Nat), ∃ (x235C : Nat), ∃ (x236 : ByteArray), (w6.cell? (⟨w4.heap.size, 0, none⟩ : Addr) = some (.int .i64 x230) ∧ w6.cell? (⟨w4.heap.size, 1, none⟩ : Addr) = some (.int .i64 x231) ∧ w6.cell? (⟨w4.heap.size, 2, none⟩ : Addr) = some (.int .i64 x232) ∧ w6.cell? (⟨w4.heap.size, 3, none⟩ : Addr) = some (.bool x233) ∧ w6.cell? (⟨w4.heap.size, 4, none⟩ : Addr) = some (.slice x234A x234N x234C) ∧ w6.cell? (⟨w4.heap.size, 5, none⟩ : Addr) = some (.slice x235A x235N x235C) ∧ w6.cell? (⟨w4.heap.size, 6, none⟩ : Addr) = some (.string x236)) ∧
  Calls Try.prog 39 #[(.agg #[(.int .i64 x230), (.int .i64 x231), (.int .i64 x232), (.bool x233), (.slice x234A x234N x234C), (.slice x235A x235N x235C), (.string x236)])] w6 (Ret fun v_1 w7 => ∃ (x24_0 : ByteArray), ∃ (x24_1 : Int), v_1 = (.tuple #[(.string x24_0), (.int .i64 x24_1)]) ∧
  ((x24_1 != (0 : Int)) = true →
  R (.tuple #[(.string (ByteArray.mk #[])), (.int .i64 x24_1)]) w7) ∧
  ((x24_1 != (0 : Int)) = false →
  ∀ w8 : World, w8 = w7.alloc (.cells #[(.string x24_0)] 9 (0, 0)) →
  Calls Try.prog 64 #[(.pointer (some (⟨w.heap.size, 0, none⟩ : Addr))), (.slice (some (⟨w7.heap.size, 0, none⟩ : Addr)) 1 1)] w8 (Ret fun v_2 w9 => v_2 = .tuple #[] ∧
  ∃ vk_1 : Nat, vk_1 < vk ∧ vI (IntKind.i64.wrap (x18 + 1)) vk_1 w9)))) ∧
  (decide (x18 < ((listN : Nat) : Int)) = false →
  Calls Try.prog 65 #[(.pointer (some (⟨w.heap.size, 0, none⟩ : Addr)))] w4 (Ret fun v_3 w10 => ∃ (x34 : ByteArray), v_3 = (.string x34) ∧
  R (.tuple #[(.string x34), (.int .i64 0)]) w10))))
theorem order_All.vc_eq (listA : Option Addr) (listN : Nat) (listC : Nat) (w : World) (R : Value → World → Prop) : fnV Try.prog Try.f34 (.c .nil (.lp [(2, none), (3, none), (6, none), (7, none), (8, none), (18, some (.int .i64)), (19, none), (20, none), (21, none), (22, none), (23, none), (24, none), (25, none), (26, none), (27, none), (28, none), (29, none), (30, none), (31, none), (32, none), (33, none)] (.c (.c .nil .nil) .nil))) [(.slice listA listN listC)] w R = order_All.vc listA listN listC w R := by kernel_rfl
theorem order_All.calls (listA : Option Addr) (listN : Nat) (listC : Nat) {w : World} {R : Value → World → Prop} (h : order_All.vc listA listN listC w R) : Calls Try.prog 34 #[(.slice listA listN listC)] w (Ret R) :=
  calls_V fit Try.func34 (.c .nil (.lp [(2, none), (3, none), (6, none), (7, none), (8, none), (18, some (.int .i64)), (19, none), (20, none), (21, none), (22, none), (23, none), (24, none), (25, none), (26, none), (27, none), (28, none), (29, none), (30, none), (31, none), (32, none), (33, none)] (.c (.c .nil .nil) .nil))) (by rw [show (#[(.slice listA listN listC)] : Array Value).toList = [(.slice listA listN listC)] from rfl, order_All.vc_eq]; exact h)
/-- function 36 -/
def order_Split.vc (s : ByteArray) (w : World) (R : Value → World → Prop) : Prop :=
  Calls Try.prog 68 #[(.string s)] w (Ret fun v w1 => ∃ (x10 : Option Addr), v = (.pointer x10) ∧
  Calls Try.prog 69 #[(.pointer x10), (.int .i64 400)] w1 (Ret fun v_1 w2 => ∃ (x12 : Int), v_1 = (.int .i64 x12) ∧
  ∃ vI : Option Addr → Nat → Nat → Int → Nat → World → Prop, (∃ vk_2 : Nat, vI none 0 0 0 vk_2 w2) ∧
  ∀ (jk : Nat → Value) (outA : Option Addr) (outN : Nat) (outC : Nat) (x13 : Int), ∀ (vk : Nat) (w3 : World), vI outA outN outC x13 vk w3 →
  (decide (x13 < x12) = true →
  Calls Try.prog 70 #[(.pointer x10), (.int .i64 ((s.size : Nat) : Int))] w3 (Ret fun v_2 w4 => ∃ (x19 : ByteArray), v_2 = (.string x19) ∧
  Calls Try.prog 48 #[(.string x19)] w4 (Ret fun v_3 w5 => ∃ (x20_00 : Int), ∃ (x20_01 : Int), ∃ (x20_02 : Int), ∃ (x20_03 : Bool), ∃ (x20_04A : Option Addr), ∃ (x20_04N : Nat), ∃ (x20_04C : Nat), ∃ (x20_05A : Option Addr), ∃ (x20_05N : Nat), ∃ (x20_05C : Nat), ∃ (x20_06 : ByteArray), ∃ (x20_1 : Int), v_3 = (.tuple #[(.agg #[(.int .i64 x20_00), (.int .i64 x20_01), (.int .i64 x20_02), (.bool x20_03), (.slice x20_04A x20_04N x20_04C), (.slice x20_05A x20_05N x20_05C), (.string x20_06)]), (.int .i64 x20_1)]) ∧
  ∀ w6 : World, w6 = w5.alloc (.cells #[(.int .i64 0), (.int .i64 0), (.int .i64 0), (.bool false), (.slice none 0 0), (.slice none 0 0), (.string ByteArray.empty)] 72 (0, 0)) →
  (((∃ u, w6.cell? (⟨w5.heap.size, 0, none⟩ : Addr) = some u) ∧ w6.frozen? (⟨w5.heap.size, 0, none⟩ : Addr) = false) ∧ ((∃ u, w6.cell? (⟨w5.heap.size, 1, none⟩ : Addr) = some u) ∧ w6.frozen? (⟨w5.heap.size, 1, none⟩ : Addr) = false) ∧ ((∃ u, w6.cell? (⟨w5.heap.size, 2, none⟩ : Addr) = some u) ∧ w6.frozen? (⟨w5.heap.size, 2, none⟩ : Addr) = false) ∧ ((∃ u, w6.cell? (⟨w5.heap.size, 3, none⟩ : Addr) = some u) ∧ w6.frozen? (⟨w5.heap.size, 3, none⟩ : Addr) = false) ∧ ((∃ u, w6.cell? (⟨w5.heap.size, 4, none⟩ : Addr) = some u) ∧ w6.frozen? (⟨w5.heap.size, 4, none⟩ : Addr) = false) ∧ ((∃ u, w6.cell? (⟨w5.heap.size, 5, none⟩ : Addr) = some u) ∧ w6.frozen? (⟨w5.heap.size, 5, none⟩ : Addr) = false) ∧ ((∃ u, w6.cell? (⟨w5.heap.size, 6, none⟩ : Addr) = some u) ∧ w6.frozen? (⟨w5.heap.size, 6, none⟩ : Addr) = false)) ∧ ∀ w7 : World, w7 = (((((((w6.setCell (⟨w5.heap.size, 0, none⟩ : Addr) (.int .i64 x20_00)).setCell (⟨w5.heap.size, 1, none⟩ : Addr) (.int .i64 x20_01)).setCell (⟨w5.heap.size, 2, none⟩ : Addr) (.int .i64 x20_02)).setCell (⟨w5.heap.size, 3, none⟩ : Addr) (.bool x20_03)).setCell (⟨w5.heap.size, 4, none⟩ : Addr) (.slice x20_04A x20_04N x20_04C)).setCell (⟨w5.heap.size, 5, none⟩ : Addr) (.slice x20_05A x20_05N x20_05C)).setCell (⟨w5.heap.size, 6, none⟩ : Addr) (.string x20_06)) →
  ((x20_1 != (0 : Int)) = true →
  R (.tuple #[(.slice none 0 0), (.int .i64 x20_1)]) w7) ∧
  ((x20_1 != (0 : Int)) = false →
  ∃ (x270 : Int), ∃ (x271 : Int), ∃ (x272 : Int), ∃ (x273 : Bool), ∃ (x274A : Option Addr), ∃ (x274N : Nat), ∃ (x274C : Nat), ∃ (x275A : Option Addr), ∃ (x275N : Nat), ∃ (x275C : Nat), ∃ (x276 : ByteArray), (w7.cell? (⟨w5.heap.size, 0, none⟩ : Addr) = some (.int .i64 x270) ∧ w7.cell? (⟨w5.heap.size, 1, none⟩ : Addr) = some (.int .i64 x271) ∧ w7.cell? (⟨w5.heap.size, 2, none⟩ : Addr) = some (.int .i64 x272) ∧ w7.cell? (⟨w5.heap.size, 3, none⟩ : Addr) = some (.bool x273) ∧ w7.cell? (⟨w5.heap.size, 4, none⟩ : Addr) = some (.slice x274A x274N x274C) ∧ w7.cell? (⟨w5.heap.size, 5, none⟩ : Addr) = some (.slice x275A x275N x275C) ∧ w7.cell? (⟨w5.heap.size, 6, none⟩ : Addr) = some (.string x276)) ∧
  ∀ w8 : World, w8 = w7.alloc (.cells #[(.int .i64 x270), (.int .i64 x271), (.int .i64 x272), (.bool x273), (.slice x274A x274N x274C), (.slice x275A x275N x275C), (.string x276)] 72 (0, 0)) →
  ∃ (x29A : Option Addr), ∃ (x29N : Nat), ∃ (x29C : Nat), ∃ w9 : World, (Builtin.append_ #[68, 68] 68 #[(.slice outA outN outC), (.slice (some (⟨w7.heap.size, 0, none⟩ : Addr)) 1 1)]).run Try.prog w8 = .ok (.slice x29A x29N x29C) w9 ∧
  ∃ vk_1 : Nat, vk_1 < vk ∧ vI x29A x29N x29C (IntKind.i64.wrap (x13 + 1)) vk_1 w9)))) ∧
  (decide (x13 < x12) = false →
  Calls Try.prog 71 #[(.pointer x10)] w3 (Ret fun v_4 w10 => ∃ (x32 : Int), v_4 = (.int .i64 x32) ∧
  ((x32 != (0 : Int)) = true →
  R (.tuple #[(.slice none 0 0), (.int .i64 x32)]) w10) ∧
  ((x32 != (0 : Int)) = false →
  R (.tuple #[(.slice outA outN outC), (.int .i64 0)]) w10)))))
theorem order_Split.vc_eq (s : ByteArray) (w : World) (R : Value → World → Prop) : fnV Try.prog Try.f36 (.lp [(2, none), (3, none), (5, some (.slice)), (6, none), (7, none), (13, some (.int .i64)), (14, none), (15, none), (16, none), (17, none), (18, none), (19, none), (20, none), (21, none), (22, none), (23, none), (24, none), (25, none), (26, none), (27, none), (28, none), (29, none), (30, none)] (.c (.c .nil .nil) (.c .nil .nil))) [(.string s)] w R = order_Split.vc s w R := by kernel_rfl
theorem order_Split.calls (s : ByteArray) {w : World} {R : Value → World → Prop} (h : order_Split.vc s w R) : Calls Try.prog 36 #[(.string s)] w (Ret R) :=
  calls_V fit Try.func36 (.lp [(2, none), (3, none), (5, some (.slice)), (6, none), (7, none), (13, some (.int .i64)), (14, none), (15, none), (16, none), (17, none), (18, none), (19, none), (20, none), (21, none), (22, none), (23, none), (24, none), (25, none), (26, none), (27, none), (28, none), (29, none), (30, none)] (.c (.c .nil .nil) (.c .nil .nil))) (by rw [show (#[(.string s)] : Array Value).toList = [(.string s)] from rfl, order_Split.vc_eq]; exact h)
end Go.Proofs.Ytamkffjmggbekaa.Vc
