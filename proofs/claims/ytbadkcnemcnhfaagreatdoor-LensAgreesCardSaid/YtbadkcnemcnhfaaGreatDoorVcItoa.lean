import Derived.Test.YtbadkcnemcnhfaaGreatDoorVc
import Derived.Test.YtbadkcnemcnhfaaGreatDoorH
import Derived.Test.YtbadkcnemcnhfaaGreatDoorProg
import Derived.KernelRfl
set_option linter.unusedVariables false
set_option maxRecDepth 100000
namespace Go.Proofs.YtbadkcnemcnhfaaGreatDoor.Vc
open Go Go.Proofs Go.Proofs.YtbadkcnemcnhfaaGreatDoor.V
/-- function 8 -/
def lens_Place_Name.vc (p0 : Int) (p1 : Int) (w : World) (R : Value → World → Prop) : Prop :=
  ∀ w1 : World, w1 = w.alloc (.cells #[(.int .i64 p0), (.int .i64 p1)] 24 (0, 0)) →
  ∀ w2 : World, w2 = w1.alloc (.cells #[(.string (ByteArray.mk #[116, 111, 107, 101, 110])), (.string (ByteArray.mk #[112, 108, 97, 99, 101])), (.string (ByteArray.mk #[110, 111, 114, 109, 49])), (.string (ByteArray.mk #[113, 117, 101, 114, 121])), (.string (ByteArray.mk #[107, 101, 121])), (.string (ByteArray.mk #[118, 97, 108, 117, 101])), (.string (ByteArray.mk #[109, 105, 120])), (.string (ByteArray.mk #[110, 111, 114, 109, 50])), (.string (ByteArray.mk #[103, 97, 116, 101])), (.string (ByteArray.mk #[117, 112])), (.string (ByteArray.mk #[100, 111, 119, 110])), (.string (ByteArray.mk #[108, 97, 115, 116]))] 9 (0, 0)) →
  ∃ (x7 : Int), w2.cell? (⟨w.heap.size, 0, none⟩ : Addr) = some (.int .i64 x7) ∧
  (decide (x7 < (0 : Int)) = true →
  R (.string (ByteArray.mk #[])) w2) ∧
  (decide (x7 < (0 : Int)) = false →
  ∃ (x11 : Int), w2.cell? (⟨w.heap.size, 0, none⟩ : Addr) = some (.int .i64 x11) ∧
  (decide (x11 ≥ ((12 : Nat) : Int)) = true →
  R (.string (ByteArray.mk #[])) w2) ∧
  (decide (x11 ≥ ((12 : Nat) : Int)) = false →
  ∃ (x18 : Int), w2.cell? (⟨w.heap.size, 1, none⟩ : Addr) = some (.int .i64 x18) ∧
  (decide (x18 < (0 : Int)) = true →
  R (.string (ByteArray.mk #[])) w2) ∧
  (decide (x18 < (0 : Int)) = false →
  ∃ (x23 : Int), w2.cell? (⟨w.heap.size, 0, none⟩ : Addr) = some (.int .i64 x23) ∧
  Calls Tryz.prog 19 #[(.int .i64 x23)] w2 (Ret fun v w3 => ∃ (x24 : Bool), v = (.bool x24) ∧
  (x24 = true →
  ∃ (x27 : Int), w3.cell? (⟨w.heap.size, 0, none⟩ : Addr) = some (.int .i64 x27) ∧
  (0 ≤ x27 ∧ x27 < ((12 : Nat) : Int)) ∧
  ∃ (x29 : ByteArray), w3.cell? ((⟨w1.heap.size, 0, none⟩ : Addr).add (x27.toNat * 1)) = some (.string x29) ∧
  R (.string x29) w3) ∧
  (x24 = false →
  ∃ vS : World → Prop, ∀ w4 : World, w4 = w3.drew → vS w4 ∧
  ∃ (x32 : Int), (∀ w5, vS w5 → w5.cell? (⟨w.heap.size, 0, none⟩ : Addr) = some (.int .i64 x32)) ∧
  (0 ≤ x32 ∧ x32 < ((12 : Nat) : Int)) ∧
  ∃ (x34 : ByteArray), (∀ w6, vS w6 → w6.cell? ((⟨w1.heap.size, 0, none⟩ : Addr).add (x32.toNat * 1)) = some (.string x34)) ∧
  ((x34.size + (ByteArray.mk #[32]).size : Nat) : Int) ≤ 9223372036854775807 ∧
  ∃ (x37 : Int), (∀ w7, vS w7 → w7.cell? (⟨w.heap.size, 1, none⟩ : Addr) = some (.int .i64 x37)) ∧
  Calls Tryz.prog 20 #[(.int .i64 x37)] w4 (Ret fun v_1 w8 => ∃ (x38 : ByteArray), v_1 = (.string x38) ∧
  vS w8 ∧
  (((x34 ++ (ByteArray.mk #[32])).size + x38.size : Nat) : Int) ≤ 9223372036854775807 ∧
  R (.string ((x34 ++ (ByteArray.mk #[32])) ++ x38)) w8))))))
theorem lens_Place_Name.vc_eq (p0 : Int) (p1 : Int) (w : World) (R : Value → World → Prop) : fnV Tryz.prog Tryz.f8 (.at_ 2 3 (.k .nil) (.at_ 2 10 (.k .nil) (.c .nil (.c .nil (.tk 0 (.tk 1 (.tk 2 (.tk 3 (.tk 4 (.tk 5 (.tk 6 (.tk 7 (.alt 8 (.tk 9 (.tk 10 (.fin .nil))) .nil))))))))))))) [(.agg #[(.int .i64 p0), (.int .i64 p1)])] w R = lens_Place_Name.vc p0 p1 w R := by kernel_rfl
theorem lens_Place_Name.calls (p0 : Int) (p1 : Int) {w : World} {R : Value → World → Prop} (h : lens_Place_Name.vc p0 p1 w R) : Calls Tryz.prog 8 #[(.agg #[(.int .i64 p0), (.int .i64 p1)])] w (Ret R) :=
  calls_V fit Tryz.func8 (.at_ 2 3 (.k .nil) (.at_ 2 10 (.k .nil) (.c .nil (.c .nil (.tk 0 (.tk 1 (.tk 2 (.tk 3 (.tk 4 (.tk 5 (.tk 6 (.tk 7 (.alt 8 (.tk 9 (.tk 10 (.fin .nil))) .nil))))))))))))) (by rw [show (#[(.agg #[(.int .i64 p0), (.int .i64 p1)])] : Array Value).toList = [(.agg #[(.int .i64 p0), (.int .i64 p1)])] from rfl, lens_Place_Name.vc_eq]; exact h)
end Go.Proofs.YtbadkcnemcnhfaaGreatDoor.Vc
