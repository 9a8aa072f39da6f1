import Derived.Test.YtamkffjmggbekaaVc
import Derived.Test.YtamkffjmggbekaaH
import Derived.Test.YtamkffjmggbekaaProg
import Derived.KernelRfl
set_option linter.unusedVariables false
set_option maxRecDepth 100000
namespace Go.Proofs.Ytamkffjmggbekaa.Vc
open Go Go.Proofs Go.Proofs.Ytamkffjmggbekaa.V
/-- function 66 -/
def coadjutorref03_Num.vc (n : Int) (w : World) (R : Value → World → Prop) : Prop :=
  (decide (n < (0 : Int)) = true →
  R (.tuple #[(.string (ByteArray.mk #[0, 0, 0, 0])), (.bool false)]) w) ∧
  (decide (n < (0 : Int)) = false →
  (decide (n > (4294967295 : Int)) = true →
  R (.tuple #[(.string (ByteArray.mk #[0, 0, 0, 0])), (.bool false)]) w) ∧
  (decide (n > (4294967295 : Int)) = false →
  (256 : Int) ≠ 0 ∧
  (256 : Int) ≠ 0 ∧
  (256 : Int) ≠ 0 ∧
  (65536 : Int) ≠ 0 ∧
  (256 : Int) ≠ 0 ∧
  (16777216 : Int) ≠ 0 ∧
  ∀ w1 : World, w1 = w.alloc (.cells #[(.int .u8 (IntKind.u8.wrap (Int.tmod n 256))), (.int .u8 (IntKind.u8.wrap (Int.tmod (IntKind.i64.wrap (Int.tdiv n 256)) 256))), (.int .u8 (IntKind.u8.wrap (Int.tmod (IntKind.i64.wrap (Int.tdiv n 65536)) 256))), (.int .u8 (IntKind.u8.wrap (IntKind.i64.wrap (Int.tdiv n 16777216))))] 5 (0, 0)) →
  ∃ (x25 : ByteArray), ∃ w2 : World, (convert 99 9 (.slice (some (⟨w.heap.size, 0, none⟩ : Addr)) 4 4)).run Try.prog w1 = .ok (.string x25) w2 ∧
  R (.tuple #[(.string x25), (.bool true)]) w2))
theorem coadjutorref03_Num.vc_eq (n : Int) (w : World) (R : Value → World → Prop) : fnV Try.prog Try.f66 (.at_ 1 2 (.k .nil) (.c .nil .nil)) [(.int .i64 n)] w R = coadjutorref03_Num.vc n w R := by kernel_rfl
theorem coadjutorref03_Num.calls (n : Int) {w : World} {R : Value → World → Prop} (h : coadjutorref03_Num.vc n w R) : Calls Try.prog 66 #[(.int .i64 n)] w (Ret R) :=
  calls_V fit Try.func66 (.at_ 1 2 (.k .nil) (.c .nil .nil)) (by rw [show (#[(.int .i64 n)] : Array Value).toList = [(.int .i64 n)] from rfl, coadjutorref03_Num.vc_eq]; exact h)
/-- function 67 -/
def coadjutorref03_Text.vc (s : ByteArray) (w : World) (R : Value → World → Prop) : Prop :=
  Calls Try.prog 66 #[(.int .i64 ((s.size : Nat) : Int))] w (Ret fun v w1 => ∃ (x8_0 : ByteArray), ∃ (x8_1 : Bool), v = (.tuple #[(.string x8_0), (.bool x8_1)]) ∧
  ((x8_0.size + s.size : Nat) : Int) ≤ 9223372036854775807 ∧
  R (.string (x8_0 ++ s)) w1)
theorem coadjutorref03_Text.vc_eq (s : ByteArray) (w : World) (R : Value → World → Prop) : fnV Try.prog Try.f67 .nil [(.string s)] w R = coadjutorref03_Text.vc s w R := by kernel_rfl
theorem coadjutorref03_Text.calls (s : ByteArray) {w : World} {R : Value → World → Prop} (h : coadjutorref03_Text.vc s w R) : Calls Try.prog 67 #[(.string s)] w (Ret R) :=
  calls_V fit Try.func67 .nil (by rw [show (#[(.string s)] : Array Value).toList = [(.string s)] from rfl, coadjutorref03_Text.vc_eq]; exact h)
/-- function 102 -/
def coadjutorref03_Eye_fail.vc (eB : Nat) (w : World) (R : Value → World → Prop) : Prop :=
  (((∃ u, w.cell? (⟨eB, 1, none⟩ : Addr) = some u) ∧ w.frozen? (⟨eB, 1, none⟩ : Addr) = false)) ∧ ∀ w1 : World, w1 = (w.setCell (⟨eB, 1, none⟩ : Addr) (.bool true)) →
  (((∃ u, w1.cell? (⟨eB, 0, none⟩ : Addr) = some u) ∧ w1.frozen? (⟨eB, 0, none⟩ : Addr) = false)) ∧ ∀ w2 : World, w2 = (w1.setCell (⟨eB, 0, none⟩ : Addr) (.string (ByteArray.mk #[]))) →
  R (.tuple #[]) w2
theorem coadjutorref03_Eye_fail.vc_eq (eB : Nat) (w : World) (R : Value → World → Prop) : fnV Try.prog Try.f102 .nil [(.pointer (some (⟨eB, 0, none⟩ : Addr)))] w R = coadjutorref03_Eye_fail.vc eB w R := by kernel_rfl
theorem coadjutorref03_Eye_fail.calls (eB : Nat) {w : World} {R : Value → World → Prop} (h : coadjutorref03_Eye_fail.vc eB w R) : Calls Try.prog 102 #[(.pointer (some (⟨eB, 0, none⟩ : Addr)))] w (Ret R) :=
  calls_V fit Try.func102 .nil (by rw [show (#[(.pointer (some (⟨eB, 0, none⟩ : Addr)))] : Array Value).toList = [(.pointer (some (⟨eB, 0, none⟩ : Addr)))] from rfl, coadjutorref03_Eye_fail.vc_eq]; exact h)
/-- function 83 -/
def coadjutorref03_Eye_Take.vc (eB : Nat) (n : Int) (w : World) (R : Value → World → Prop) : Prop :=
  ∃ (x9 : Bool), w.cell? (⟨eB, 1, none⟩ : Addr) = some (.bool x9) ∧
  (x9 = true →
  Calls Try.prog 102 #[(.pointer (some (⟨eB, 0, none⟩ : Addr)))] w (Ret fun v w1 => v = .tuple #[] ∧
  R (.string (ByteArray.mk #[])) w1)) ∧
  (x9 = false →
  (decide (n < (0 : Int)) = true →
  Calls Try.prog 102 #[(.pointer (some (⟨eB, 0, none⟩ : Addr)))] w (Ret fun v_1 w2 => v_1 = .tuple #[] ∧
  R (.string (ByteArray.mk #[])) w2)) ∧
  (decide (n < (0 : Int)) = false →
  ∃ (x19 : ByteArray), w.cell? (⟨eB, 0, none⟩ : Addr) = some (.string x19) ∧
  (decide (n > ((x19.size : Nat) : Int)) = true →
  Calls Try.prog 102 #[(.pointer (some (⟨eB, 0, none⟩ : Addr)))] w (Ret fun v_2 w3 => v_2 = .tuple #[] ∧
  R (.string (ByteArray.mk #[])) w3)) ∧
  (decide (n > ((x19.size : Nat) : Int)) = false →
  ∃ (x28 : ByteArray), w.cell? (⟨eB, 0, none⟩ : Addr) = some (.string x28) ∧
  (0 ≤ n ∧ n ≤ ((x28.size : Nat) : Int)) ∧
  ∃ (x35 : ByteArray), w.cell? (⟨eB, 0, none⟩ : Addr) = some (.string x35) ∧
  (0 ≤ n ∧ n ≤ ((x35.size : Nat) : Int)) ∧
  (((∃ u, w.cell? (⟨eB, 0, none⟩ : Addr) = some u) ∧ w.frozen? (⟨eB, 0, none⟩ : Addr) = false)) ∧ ∀ w4 : World, w4 = (w.setCell (⟨eB, 0, none⟩ : Addr) (.string (x35.extract n.toNat x35.size))) →
  R (.string (x28.extract 0 n.toNat)) w4)))
theorem coadjutorref03_Eye_Take.vc_eq (eB : Nat) (n : Int) (w : World) (R : Value → World → Prop) : fnV Try.prog Try.f83 (.at_ 1 4 (.k .nil) (.at_ 1 8 (.k .nil) (.c .nil .nil))) [(.pointer (some (⟨eB, 0, none⟩ : Addr))), (.int .i64 n)] w R = coadjutorref03_Eye_Take.vc eB n w R := by kernel_rfl
theorem coadjutorref03_Eye_Take.calls (eB : Nat) (n : Int) {w : World} {R : Value → World → Prop} (h : coadjutorref03_Eye_Take.vc eB n w R) : Calls Try.prog 83 #[(.pointer (some (⟨eB, 0, none⟩ : Addr))), (.int .i64 n)] w (Ret R) :=
  calls_V fit Try.func83 (.at_ 1 4 (.k .nil) (.at_ 1 8 (.k .nil) (.c .nil .nil))) (by rw [show (#[(.pointer (some (⟨eB, 0, none⟩ : Addr))), (.int .i64 n)] : Array Value).toList = [(.pointer (some (⟨eB, 0, none⟩ : Addr))), (.int .i64 n)] from rfl, coadjutorref03_Eye_Take.vc_eq]; exact h)
/-- function 72 -/
def coadjutorref03_Eye_Num.vc (eB : Nat) (most : Int) (w : World) (R : Value → World → Prop) : Prop :=
  Calls Try.prog 83 #[(.pointer (some (⟨eB, 0, none⟩ : Addr))), (.int .i64 4)] w (Ret fun v w1 => ∃ (x8 : ByteArray), v = (.string x8) ∧
  ∃ (x12 : Bool), w1.cell? (⟨eB, 1, none⟩ : Addr) = some (.bool x12) ∧
  (x12 = true →
  R (.int .i64 0) w1) ∧
  (x12 = false →
  ∃ vS : World → Prop, ∀ w2 : World, w2 = w1.drew → vS w2 ∧
  (0 ≤ (0 : Int) ∧ (0 : Int) < ((x8.size : Nat) : Int)) ∧
  (0 ≤ (1 : Int) ∧ (1 : Int) < ((x8.size : Nat) : Int)) ∧
  (0 ≤ (2 : Int) ∧ (2 : Int) < ((x8.size : Nat) : Int)) ∧
  (0 ≤ (3 : Int) ∧ (3 : Int) < ((x8.size : Nat) : Int)) ∧
  (decide ((IntKind.i64.wrap ((IntKind.i64.wrap ((IntKind.i64.wrap ((IntKind.i64.wrap (bt x8 0)) + (IntKind.i64.wrap ((IntKind.i64.wrap (bt x8 1)) * 256)))) + (IntKind.i64.wrap ((IntKind.i64.wrap (bt x8 2)) * 65536)))) + (IntKind.i64.wrap ((IntKind.i64.wrap (bt x8 3)) * 16777216)))) > most) = true →
  Calls Try.prog 102 #[(.pointer (some (⟨eB, 0, none⟩ : Addr)))] w2 (Ret fun v_1 w3 => v_1 = .tuple #[] ∧
  R (.int .i64 0) w3)) ∧
  (decide ((IntKind.i64.wrap ((IntKind.i64.wrap ((IntKind.i64.wrap ((IntKind.i64.wrap (bt x8 0)) + (IntKind.i64.wrap ((IntKind.i64.wrap (bt x8 1)) * 256)))) + (IntKind.i64.wrap ((IntKind.i64.wrap (bt x8 2)) * 65536)))) + (IntKind.i64.wrap ((IntKind.i64.wrap (bt x8 3)) * 16777216)))) > most) = false →
  R (.int .i64 (IntKind.i64.wrap ((IntKind.i64.wrap ((IntKind.i64.wrap ((IntKind.i64.wrap (bt x8 0)) + (IntKind.i64.wrap ((IntKind.i64.wrap (bt x8 1)) * 256)))) + (IntKind.i64.wrap ((IntKind.i64.wrap (bt x8 2)) * 65536)))) + (IntKind.i64.wrap ((IntKind.i64.wrap (bt x8 3)) * 16777216))))) w2)))
theorem coadjutorref03_Eye_Num.vc_eq (eB : Nat) (most : Int) (w : World) (R : Value → World → Prop) : fnV Try.prog Try.f72 (.c .nil (.tk 0 (.tk 1 (.tk 2 (.tk 3 (.tk 4 (.tk 5 (.tk 6 (.tk 7 (.tk 8 (.tk 9 (.tk 10 (.tk 11 (.tk 12 (.tk 13 (.tk 14 (.tk 15 (.tk 16 (.tk 17 (.tk 18 (.fin (.c .nil .nil)))))))))))))))))))))) [(.pointer (some (⟨eB, 0, none⟩ : Addr))), (.int .i64 most)] w R = coadjutorref03_Eye_Num.vc eB most w R := by kernel_rfl
theorem coadjutorref03_Eye_Num.calls (eB : Nat) (most : Int) {w : World} {R : Value → World → Prop} (h : coadjutorref03_Eye_Num.vc eB most w R) : Calls Try.prog 72 #[(.pointer (some (⟨eB, 0, none⟩ : Addr))), (.int .i64 most)] w (Ret R) :=
  calls_V fit Try.func72 (.c .nil (.tk 0 (.tk 1 (.tk 2 (.tk 3 (.tk 4 (.tk 5 (.tk 6 (.tk 7 (.tk 8 (.tk 9 (.tk 10 (.tk 11 (.tk 12 (.tk 13 (.tk 14 (.tk 15 (.tk 16 (.tk 17 (.tk 18 (.fin (.c .nil .nil)))))))))))))))))))))) (by rw [show (#[(.pointer (some (⟨eB, 0, none⟩ : Addr))), (.int .i64 most)] : Array Value).toList = [(.pointer (some (⟨eB, 0, none⟩ : Addr))), (.int .i64 most)] from rfl, coadjutorref03_Eye_Num.vc_eq]; exact h)
/-- function 73 -/
def coadjutorref03_Eye_Text.vc (eB : Nat) (most : Int) (w : World) (R : Value → World → Prop) : Prop :=
  Calls Try.prog 72 #[(.pointer (some (⟨eB, 0, none⟩ : Addr))), (.int .i64 most)] w (Ret fun v w1 => ∃ (x8 : Int), v = (.int .i64 x8) ∧
  ∃ (x12 : Bool), w1.cell? (⟨eB, 1, none⟩ : Addr) = some (.bool x12) ∧
  (x12 = true →
  R (.string (ByteArray.mk #[])) w1) ∧
  (x12 = false →
  Calls Try.prog 83 #[(.pointer (some (⟨eB, 0, none⟩ : Addr))), (.int .i64 x8)] w1 (Ret fun v_1 w2 => ∃ (x15 : ByteArray), v_1 = (.string x15) ∧
  R (.string x15) w2)))
theorem coadjutorref03_Eye_Text.vc_eq (eB : Nat) (most : Int) (w : World) (R : Value → World → Prop) : fnV Try.prog Try.f73 (.c .nil .nil) [(.pointer (some (⟨eB, 0, none⟩ : Addr))), (.int .i64 most)] w R = coadjutorref03_Eye_Text.vc eB most w R := by kernel_rfl
theorem coadjutorref03_Eye_Text.calls (eB : Nat) (most : Int) {w : World} {R : Value → World → Prop} (h : coadjutorref03_Eye_Text.vc eB most w R) : Calls Try.prog 73 #[(.pointer (some (⟨eB, 0, none⟩ : Addr))), (.int .i64 most)] w (Ret R) :=
  calls_V fit Try.func73 (.c .nil .nil) (by rw [show (#[(.pointer (some (⟨eB, 0, none⟩ : Addr))), (.int .i64 most)] : Array Value).toList = [(.pointer (some (⟨eB, 0, none⟩ : Addr))), (.int .i64 most)] from rfl, coadjutorref03_Eye_Text.vc_eq]; exact h)
end Go.Proofs.Ytamkffjmggbekaa.Vc
