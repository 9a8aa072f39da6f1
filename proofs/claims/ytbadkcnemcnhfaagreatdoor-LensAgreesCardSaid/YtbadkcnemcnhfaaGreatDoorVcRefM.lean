import Derived.Test.YtbadkcnemcnhfaaGreatDoorVc
import Derived.Test.YtbadkcnemcnhfaaGreatDoorH
import Derived.Test.YtbadkcnemcnhfaaGreatDoorProg
import Derived.KernelRfl
set_option linter.unusedVariables false
set_option maxRecDepth 100000
namespace Go.Proofs.YtbadkcnemcnhfaaGreatDoor.Vc
open Go Go.Proofs Go.Proofs.YtbadkcnemcnhfaaGreatDoor.V
/-- function 122 -/
def coadjutorref15_in.vc (n : Int) (vfrom : Int) (to : Int) (w : World) (R : Value → World → Prop) : Prop :=
  (decide (n ≥ vfrom) = true →
  R (.bool (decide (n ≤ to))) w) ∧
  (decide (n ≥ vfrom) = false →
  R (.bool false) w)
theorem coadjutorref15_in.vc_eq (n : Int) (vfrom : Int) (to : Int) (w : World) (R : Value → World → Prop) : fnV Tryz.prog Tryz.f122 (.at_ 1 3 .nil .nil) [(.int .i64 n), (.int .i64 vfrom), (.int .i64 to)] w R = coadjutorref15_in.vc n vfrom to w R := by kernel_rfl
theorem coadjutorref15_in.calls (n : Int) (vfrom : Int) (to : Int) {w : World} {R : Value → World → Prop} (h : coadjutorref15_in.vc n vfrom to w R) : Calls Tryz.prog 122 #[(.int .i64 n), (.int .i64 vfrom), (.int .i64 to)] w (Ret R) :=
  calls_V fit Tryz.func122 (.at_ 1 3 .nil .nil) (by rw [show (#[(.int .i64 n), (.int .i64 vfrom), (.int .i64 to)] : Array Value).toList = [(.int .i64 n), (.int .i64 vfrom), (.int .i64 to)] from rfl, coadjutorref15_in.vc_eq]; exact h)
/-- function 98 -/
def coadjutorref15_side.vc (c0 : Int) (c1 : Int) (c2 : Int) (c3 : Int) (c4 : Int) (c5 : Int) (part : Int) (w : World) (R : Value → World → Prop) : Prop :=
  ∀ w1 : World, w1 = w.alloc (.cells #[(.int .i64 c0), (.int .i64 c1), (.int .i64 c2), (.int .i64 c3), (.int .i64 c4), (.int .i64 c5)] 31 (0, 0)) →
  ((part == (0 : Int)) = true →
  ∃ vS : World → Prop, ∀ w2 : World, w2 = w1.drew → vS w2 ∧
  ∃ (x10 : Int), (∀ w3, vS w3 → w3.cell? (⟨w.heap.size, 0, none⟩ : Addr) = some (.int .i64 x10)) ∧
  ∃ (x12 : Int), (∀ w4, vS w4 → w4.cell? (⟨w.heap.size, 1, none⟩ : Addr) = some (.int .i64 x12)) ∧
  R (.tuple #[(.int .i64 x10), (.int .i64 x12)]) w2) ∧
  ((part == (0 : Int)) = false →
  ((part == (1 : Int)) = true →
  ∃ vS_1 : World → Prop, ∀ w5 : World, w5 = w1.drew → vS_1 w5 ∧
  ∃ (x16 : Int), (∀ w6, vS_1 w6 → w6.cell? (⟨w.heap.size, 5, none⟩ : Addr) = some (.int .i64 x16)) ∧
  ∃ (x18 : Int), (∀ w7, vS_1 w7 → w7.cell? (⟨w.heap.size, 1, none⟩ : Addr) = some (.int .i64 x18)) ∧
  R (.tuple #[(.int .i64 x16), (.int .i64 x18)]) w5) ∧
  ((part == (1 : Int)) = false →
  ((part == (2 : Int)) = true →
  (part == (2 : Int)) = true ∧
  ∃ vS_2 : World → Prop, ∀ w8 : World, w8 = w1.drew → vS_2 w8 ∧
  ∃ (x24 : Int), (∀ w9, vS_2 w9 → w9.cell? (⟨w.heap.size, 1, none⟩ : Addr) = some (.int .i64 x24)) ∧
  R (.tuple #[(.int .i64 1), (.int .i64 x24)]) w8) ∧
  ((part == (2 : Int)) = false →
  ((part == (7 : Int)) = true →
  (part == (7 : Int)) = true ∧
  ∃ vS_3 : World → Prop, ∀ w10 : World, w10 = w1.drew → vS_3 w10 ∧
  ∃ (x24_1 : Int), (∀ w11, vS_3 w11 → w11.cell? (⟨w.heap.size, 1, none⟩ : Addr) = some (.int .i64 x24_1)) ∧
  R (.tuple #[(.int .i64 1), (.int .i64 x24_1)]) w10) ∧
  ((part == (7 : Int)) = false →
  ((part == (11 : Int)) = true →
  ∃ vS_4 : World → Prop, ∀ w12 : World, w12 = w1.drew → vS_4 w12 ∧
  ∃ (x24_2 : Int), (∀ w13, vS_4 w13 → w13.cell? (⟨w.heap.size, 1, none⟩ : Addr) = some (.int .i64 x24_2)) ∧
  R (.tuple #[(.int .i64 1), (.int .i64 x24_2)]) w12) ∧
  ((part == (11 : Int)) = false →
  ((part == (3 : Int)) = true →
  (part == (3 : Int)) = true ∧
  ∃ vS_5 : World → Prop, ∀ w14 : World, w14 = w1.drew → vS_5 w14 ∧
  ∃ (x31 : Int), (∀ w15, vS_5 w15 → w15.cell? (⟨w.heap.size, 1, none⟩ : Addr) = some (.int .i64 x31)) ∧
  ∃ (x33 : Int), (∀ w16, vS_5 w16 → w16.cell? (⟨w.heap.size, 1, none⟩ : Addr) = some (.int .i64 x33)) ∧
  R (.tuple #[(.int .i64 x31), (.int .i64 x33)]) w14) ∧
  ((part == (3 : Int)) = false →
  ((part == (4 : Int)) = true →
  (part == (4 : Int)) = true ∧
  ∃ vS_6 : World → Prop, ∀ w17 : World, w17 = w1.drew → vS_6 w17 ∧
  ∃ (x31_1 : Int), (∀ w18, vS_6 w18 → w18.cell? (⟨w.heap.size, 1, none⟩ : Addr) = some (.int .i64 x31_1)) ∧
  ∃ (x33_1 : Int), (∀ w19, vS_6 w19 → w19.cell? (⟨w.heap.size, 1, none⟩ : Addr) = some (.int .i64 x33_1)) ∧
  R (.tuple #[(.int .i64 x31_1), (.int .i64 x33_1)]) w17) ∧
  ((part == (4 : Int)) = false →
  ((part == (5 : Int)) = true →
  (part == (5 : Int)) = true ∧
  ∃ vS_7 : World → Prop, ∀ w20 : World, w20 = w1.drew → vS_7 w20 ∧
  ∃ (x31_2 : Int), (∀ w21, vS_7 w21 → w21.cell? (⟨w.heap.size, 1, none⟩ : Addr) = some (.int .i64 x31_2)) ∧
  ∃ (x33_2 : Int), (∀ w22, vS_7 w22 → w22.cell? (⟨w.heap.size, 1, none⟩ : Addr) = some (.int .i64 x33_2)) ∧
  R (.tuple #[(.int .i64 x31_2), (.int .i64 x33_2)]) w20) ∧
  ((part == (5 : Int)) = false →
  ((part == (6 : Int)) = true →
  ∃ vS_8 : World → Prop, ∀ w23 : World, w23 = w1.drew → vS_8 w23 ∧
  ∃ (x31_3 : Int), (∀ w24, vS_8 w24 → w24.cell? (⟨w.heap.size, 1, none⟩ : Addr) = some (.int .i64 x31_3)) ∧
  ∃ (x33_3 : Int), (∀ w25, vS_8 w25 → w25.cell? (⟨w.heap.size, 1, none⟩ : Addr) = some (.int .i64 x33_3)) ∧
  R (.tuple #[(.int .i64 x31_3), (.int .i64 x33_3)]) w23) ∧
  ((part == (6 : Int)) = false →
  ((part == (8 : Int)) = true →
  (part == (8 : Int)) = true ∧
  ∃ vS_9 : World → Prop, ∀ w26 : World, w26 = w1.drew → vS_9 w26 ∧
  ∃ (x38 : Int), (∀ w27, vS_9 w27 → w27.cell? (⟨w.heap.size, 4, none⟩ : Addr) = some (.int .i64 x38)) ∧
  ∃ (x40 : Int), (∀ w28, vS_9 w28 → w28.cell? (⟨w.heap.size, 1, none⟩ : Addr) = some (.int .i64 x40)) ∧
  R (.tuple #[(.int .i64 x38), (.int .i64 x40)]) w26) ∧
  ((part == (8 : Int)) = false →
  ((part == (9 : Int)) = true →
  ∃ vS_10 : World → Prop, ∀ w29 : World, w29 = w1.drew → vS_10 w29 ∧
  ∃ (x38_1 : Int), (∀ w30, vS_10 w30 → w30.cell? (⟨w.heap.size, 4, none⟩ : Addr) = some (.int .i64 x38_1)) ∧
  ∃ (x40_1 : Int), (∀ w31, vS_10 w31 → w31.cell? (⟨w.heap.size, 1, none⟩ : Addr) = some (.int .i64 x40_1)) ∧
  R (.tuple #[(.int .i64 x38_1), (.int .i64 x40_1)]) w29) ∧
  ((part == (9 : Int)) = false →
  ((part == (10 : Int)) = true →
  ∃ vS_11 : World → Prop, ∀ w32 : World, w32 = w1.drew → vS_11 w32 ∧
  ∃ (x44 : Int), (∀ w33, vS_11 w33 → w33.cell? (⟨w.heap.size, 1, none⟩ : Addr) = some (.int .i64 x44)) ∧
  ∃ (x46 : Int), (∀ w34, vS_11 w34 → w34.cell? (⟨w.heap.size, 4, none⟩ : Addr) = some (.int .i64 x46)) ∧
  R (.tuple #[(.int .i64 x44), (.int .i64 x46)]) w32) ∧
  ((part == (10 : Int)) = false →
  R (.tuple #[(.int .i64 0), (.int .i64 0)]) w1))))))))))))
theorem coadjutorref15_side.vc_eq (c0 : Int) (c1 : Int) (c2 : Int) (c3 : Int) (c4 : Int) (c5 : Int) (part : Int) (w : World) (R : Value → World → Prop) : fnV Tryz.prog Tryz.f98 (.c (.tk 0 (.tk 1 (.tk 2 (.tk 3 (.tk 4 (.tk 5 (.fin .nil))))))) (.c (.tk 0 (.tk 1 (.tk 2 (.tk 3 (.tk 4 (.tk 5 (.fin .nil))))))) (.c (.y (.tk 0 (.tk 1 (.tk 2 (.tk 3 (.fin .nil)))))) (.c (.y (.tk 0 (.tk 1 (.tk 2 (.tk 3 (.fin .nil)))))) (.c (.tk 0 (.tk 1 (.tk 2 (.tk 3 (.fin .nil))))) (.c (.y (.tk 0 (.tk 1 (.tk 2 (.tk 3 (.tk 4 (.tk 5 (.fin .nil)))))))) (.c (.y (.tk 0 (.tk 1 (.tk 2 (.tk 3 (.tk 4 (.tk 5 (.fin .nil)))))))) (.c (.y (.tk 0 (.tk 1 (.tk 2 (.tk 3 (.tk 4 (.tk 5 (.fin .nil)))))))) (.c (.tk 0 (.tk 1 (.tk 2 (.tk 3 (.tk 4 (.tk 5 (.fin .nil))))))) (.c (.y (.tk 0 (.tk 1 (.tk 2 (.tk 3 (.tk 4 (.tk 5 (.fin .nil)))))))) (.c (.tk 0 (.tk 1 (.tk 2 (.tk 3 (.tk 4 (.tk 5 (.fin .nil))))))) (.c (.tk 0 (.tk 1 (.tk 2 (.tk 3 (.tk 4 (.tk 5 (.fin .nil))))))) .nil)))))))))))) [(.agg #[(.int .i64 c0), (.int .i64 c1), (.int .i64 c2), (.int .i64 c3), (.int .i64 c4), (.int .i64 c5)]), (.int .i64 part)] w R = coadjutorref15_side.vc c0 c1 c2 c3 c4 c5 part w R := by kernel_rfl
theorem coadjutorref15_side.calls (c0 : Int) (c1 : Int) (c2 : Int) (c3 : Int) (c4 : Int) (c5 : Int) (part : Int) {w : World} {R : Value → World → Prop} (h : coadjutorref15_side.vc c0 c1 c2 c3 c4 c5 part w R) : Calls Tryz.prog 98 #[(.agg #[(.int .i64 c0), (.int .i64 c1), (.int .i64 c2), (.int .i64 c3), (.int .i64 c4), (.int .i64 c5)]), (.int .i64 part)] w (Ret R) :=
  calls_V fit Tryz.func98 (.c (.tk 0 (.tk 1 (.tk 2 (.tk 3 (.tk 4 (.tk 5 (.fin .nil))))))) (.c (.tk 0 (.tk 1 (.tk 2 (.tk 3 (.tk 4 (.tk 5 (.fin .nil))))))) (.c (.y (.tk 0 (.tk 1 (.tk 2 (.tk 3 (.fin .nil)))))) (.c (.y (.tk 0 (.tk 1 (.tk 2 (.tk 3 (.fin .nil)))))) (.c (.tk 0 (.tk 1 (.tk 2 (.tk 3 (.fin .nil))))) (.c (.y (.tk 0 (.tk 1 (.tk 2 (.tk 3 (.tk 4 (.tk 5 (.fin .nil)))))))) (.c (.y (.tk 0 (.tk 1 (.tk 2 (.tk 3 (.tk 4 (.tk 5 (.fin .nil)))))))) (.c (.y (.tk 0 (.tk 1 (.tk 2 (.tk 3 (.tk 4 (.tk 5 (.fin .nil)))))))) (.c (.tk 0 (.tk 1 (.tk 2 (.tk 3 (.tk 4 (.tk 5 (.fin .nil))))))) (.c (.y (.tk 0 (.tk 1 (.tk 2 (.tk 3 (.tk 4 (.tk 5 (.fin .nil)))))))) (.c (.tk 0 (.tk 1 (.tk 2 (.tk 3 (.tk 4 (.tk 5 (.fin .nil))))))) (.c (.tk 0 (.tk 1 (.tk 2 (.tk 3 (.tk 4 (.tk 5 (.fin .nil))))))) .nil)))))))))))) (by rw [show (#[(.agg #[(.int .i64 c0), (.int .i64 c1), (.int .i64 c2), (.int .i64 c3), (.int .i64 c4), (.int .i64 c5)]), (.int .i64 part)] : Array Value).toList = [(.agg #[(.int .i64 c0), (.int .i64 c1), (.int .i64 c2), (.int .i64 c3), (.int .i64 c4), (.int .i64 c5)]), (.int .i64 part)] from rfl, coadjutorref15_side.vc_eq]; exact h)
/-- function 97 -/
def coadjutorref15_rows.vc (c0 : Int) (c1 : Int) (c2 : Int) (c3 : Int) (c4 : Int) (c5 : Int) (w : World) (R : Value → World → Prop) : Prop :=
  ∀ w1 : World, w1 = w.alloc (.cells #[(.int .i64 c0), (.int .i64 c1), (.int .i64 c2), (.int .i64 c3), (.int .i64 c4), (.int .i64 c5)] 31 (0, 0)) →
  ∀ w2 : World, w2 = w1.alloc (.cells #[] 147 (0, 0)) →
  ∃ vI : Option Addr → Nat → Nat → Int → Int → Nat → World → Prop, (∃ vk_2 : Nat, vI (some (⟨w1.heap.size, 0, none⟩ : Addr)) 0 0 0 (-1) vk_2 w2) ∧
  ∀ (jk : Nat → Value) (outA : Option Addr) (outN : Nat) (outC : Nat) (vat : Int) (b : Int), ∀ (vk : Nat) (w3 : World), vI outA outN outC vat b vk w3 →
  ∃ (x13 : Int), w3.cell? (⟨w.heap.size, 3, none⟩ : Addr) = some (.int .i64 x13) ∧
  (decide (b ≤ x13) = true →
  ∃ vI_1 : Option Addr → Nat → Nat → Int → Int → Nat → World → Prop, (∃ vk_5 : Nat, vI_1 outA outN outC vat 0 vk_5 w3) ∧
  ∀ (jk : Nat → Value) (outA_1 : Option Addr) (outN_1 : Nat) (outC_1 : Nat) (vat_1 : Int) (p : Int), ∀ (vk_3 : Nat) (w4 : World), vI_1 outA_1 outN_1 outC_1 vat_1 p vk_3 w4 →
  (decide (p < (12 : Int)) = true →
  ∃ J : Option Addr → Nat → Nat → Int → World → Prop, (∃ J_1 : World → Prop, ((decide (b < (0 : Int)) = true →
  (decide (p > (1 : Int)) = true →
  J outA_1 outN_1 outC_1 vat_1 w4) ∧
  (decide (p > (1 : Int)) = false →
  ∃ (x30 : Int), w4.cell? (⟨w.heap.size, 3, none⟩ : Addr) = some (.int .i64 x30) ∧
  ((b == x30) = true →
  (decide (p < (11 : Int)) = true →
  J outA_1 outN_1 outC_1 vat_1 w4) ∧
  (decide (p < (11 : Int)) = false →
  (decide (b ≥ (0 : Int)) = true →
  ∃ (x43 : Int), w4.cell? (⟨w.heap.size, 3, none⟩ : Addr) = some (.int .i64 x43) ∧
  (decide (b < x43) = true →
  (decide (p < (2 : Int)) = true →
  J outA_1 outN_1 outC_1 vat_1 w4) ∧
  (decide (p < (2 : Int)) = false →
  (decide (p > (10 : Int)) = true →
  J outA_1 outN_1 outC_1 vat_1 w4) ∧
  (decide (p > (10 : Int)) = false →
  J_1 w4))) ∧
  (decide (b < x43) = false →
  J_1 w4)) ∧
  (decide (b ≥ (0 : Int)) = false →
  J_1 w4))) ∧
  ((b == x30) = false →
  (decide (b ≥ (0 : Int)) = true →
  ∃ (x43_1 : Int), w4.cell? (⟨w.heap.size, 3, none⟩ : Addr) = some (.int .i64 x43_1) ∧
  (decide (b < x43_1) = true →
  (decide (p < (2 : Int)) = true →
  J outA_1 outN_1 outC_1 vat_1 w4) ∧
  (decide (p < (2 : Int)) = false →
  (decide (p > (10 : Int)) = true →
  J outA_1 outN_1 outC_1 vat_1 w4) ∧
  (decide (p > (10 : Int)) = false →
  J_1 w4))) ∧
  (decide (b < x43_1) = false →
  J_1 w4)) ∧
  (decide (b ≥ (0 : Int)) = false →
  J_1 w4)))) ∧
  (decide (b < (0 : Int)) = false →
  ∃ (x30_1 : Int), w4.cell? (⟨w.heap.size, 3, none⟩ : Addr) = some (.int .i64 x30_1) ∧
  ((b == x30_1) = true →
  (decide (p < (11 : Int)) = true →
  J outA_1 outN_1 outC_1 vat_1 w4) ∧
  (decide (p < (11 : Int)) = false →
  (decide (b ≥ (0 : Int)) = true →
  ∃ (x43_2 : Int), w4.cell? (⟨w.heap.size, 3, none⟩ : Addr) = some (.int .i64 x43_2) ∧
  (decide (b < x43_2) = true →
  (decide (p < (2 : Int)) = true →
  J outA_1 outN_1 outC_1 vat_1 w4) ∧
  (decide (p < (2 : Int)) = false →
  (decide (p > (10 : Int)) = true →
  J outA_1 outN_1 outC_1 vat_1 w4) ∧
  (decide (p > (10 : Int)) = false →
  J_1 w4))) ∧
  (decide (b < x43_2) = false →
  J_1 w4)) ∧
  (decide (b ≥ (0 : Int)) = false →
  J_1 w4))) ∧
  ((b == x30_1) = false →
  (decide (b ≥ (0 : Int)) = true →
  ∃ (x43_3 : Int), w4.cell? (⟨w.heap.size, 3, none⟩ : Addr) = some (.int .i64 x43_3) ∧
  (decide (b < x43_3) = true →
  (decide (p < (2 : Int)) = true →
  J outA_1 outN_1 outC_1 vat_1 w4) ∧
  (decide (p < (2 : Int)) = false →
  (decide (p > (10 : Int)) = true →
  J outA_1 outN_1 outC_1 vat_1 w4) ∧
  (decide (p > (10 : Int)) = false →
  J_1 w4))) ∧
  (decide (b < x43_3) = false →
  J_1 w4)) ∧
  (decide (b ≥ (0 : Int)) = false →
  J_1 w4)))) ∧
  ∀ (jk : Nat → Value), ∀ w5 : World, J_1 w5 →
  ∃ (x560 : Int), ∃ (x561 : Int), ∃ (x562 : Int), ∃ (x563 : Int), ∃ (x564 : Int), ∃ (x565 : Int), (w5.cell? (⟨w.heap.size, 0, none⟩ : Addr) = some (.int .i64 x560) ∧ w5.cell? (⟨w.heap.size, 1, none⟩ : Addr) = some (.int .i64 x561) ∧ w5.cell? (⟨w.heap.size, 2, none⟩ : Addr) = some (.int .i64 x562) ∧ w5.cell? (⟨w.heap.size, 3, none⟩ : Addr) = some (.int .i64 x563) ∧ w5.cell? (⟨w.heap.size, 4, none⟩ : Addr) = some (.int .i64 x564) ∧ w5.cell? (⟨w.heap.size, 5, none⟩ : Addr) = some (.int .i64 x565)) ∧
  Calls Tryz.prog 98 #[(.agg #[(.int .i64 x560), (.int .i64 x561), (.int .i64 x562), (.int .i64 x563), (.int .i64 x564), (.int .i64 x565)]), (.int .i64 p)] w5 (Ret fun v w6 => ∃ (x58_0 : Int), ∃ (x58_1 : Int), v = (.tuple #[(.int .i64 x58_0), (.int .i64 x58_1)]) ∧
  ∃ J_2 : Int → World → Prop, ((decide (p < (2 : Int)) = true →
  J_2 0 w6) ∧
  (decide (p < (2 : Int)) = false →
  ((p == (11 : Int)) = true →
  J_2 0 w6) ∧
  ((p == (11 : Int)) = false →
  J_2 b w6))) ∧
  ∀ (jk : Nat → Value) (vk_6 : Int), ∀ w7 : World, J_2 vk_6 w7 →
  ∀ w8 : World, w8 = w7.alloc (.cells #[(.int .i64 p), (.int .i64 vk_6), (.int .i64 vat_1), (.int .i64 (IntKind.i64.wrap (x58_0 * x58_1)))] 147 (0, 0)) →
  ∃ (x77A : Option Addr), ∃ (x77N : Nat), ∃ (x77C : Nat), ∃ w9 : World, (Builtin.append_ #[145, 145] 145 #[(.slice outA_1 outN_1 outC_1), (.slice (some (⟨w7.heap.size, 0, none⟩ : Addr)) 1 1)]).run Tryz.prog w8 = .ok (.slice x77A x77N x77C) w9 ∧
  J x77A x77N x77C (IntKind.i64.wrap (vat_1 + (IntKind.i64.wrap (x58_0 * x58_1)))) w9)) ∧
  ∀ (jk : Nat → Value) (outA_2 : Option Addr) (outN_2 : Nat) (outC_2 : Nat) (vat_2 : Int), ∀ w10 : World, J outA_2 outN_2 outC_2 vat_2 w10 →
  ∃ vk_4 : Nat, vk_4 < vk_3 ∧ vI_1 outA_2 outN_2 outC_2 vat_2 (IntKind.i64.wrap (p + 1)) vk_4 w10) ∧
  (decide (p < (12 : Int)) = false →
  ∃ vk_1 : Nat, vk_1 < vk ∧ vI outA_1 outN_1 outC_1 vat_1 (IntKind.i64.wrap (b + 1)) vk_1 w4)) ∧
  (decide (b ≤ x13) = false →
  R (.slice outA outN outC) w3)
theorem coadjutorref15_rows.vc_eq (c0 : Int) (c1 : Int) (c2 : Int) (c3 : Int) (c4 : Int) (c5 : Int) (w : World) (R : Value → World → Prop) : fnV Tryz.prog Tryz.f97 (.lp [(3, some (.slice)), (4, some (.int .i64)), (5, some (.int .i64)), (6, none), (7, none), (8, none), (9, none), (11, none), (12, none), (13, none), (14, none), (15, none), (16, none), (17, none), (18, none), (19, none), (20, none), (21, none), (22, none), (23, none), (24, none), (25, none), (26, none), (27, none), (28, none), (29, none), (30, none), (31, none), (32, none), (33, none), (34, none), (35, none), (36, none), (37, none), (38, none), (39, none), (40, none), (41, none), (42, none), (43, none), (44, none), (45, none), (46, none), (47, none), (48, none), (49, none), (50, none), (51, none), (52, none), (53, none), (54, none), (55, none), (56, none), (57, none), (58, none), (59, none), (60, none), (61, none), (62, none), (63, none), (64, none), (65, none), (66, none), (67, none), (68, none), (69, none), (70, none), (71, none), (72, none), (73, none), (74, none), (75, none), (76, none), (77, none), (78, none), (79, none), (80, none), (81, none), (82, none)] (.c (.lp [(3, some (.slice)), (4, some (.int .i64)), (6, some (.int .i64)), (7, none), (8, none), (9, none), (17, none), (18, none), (19, none), (20, none), (21, none), (22, none), (23, none), (24, none), (25, none), (26, none), (27, none), (28, none), (29, none), (30, none), (31, none), (32, none), (33, none), (34, none), (35, none), (36, none), (37, none), (38, none), (39, none), (40, none), (41, none), (42, none), (43, none), (44, none), (45, none), (46, none), (47, none), (48, none), (49, none), (50, none), (51, none), (52, none), (53, none), (54, none), (55, none), (56, none), (57, none), (58, none), (59, none), (60, none), (61, none), (62, none), (63, none), (64, none), (65, none), (66, none), (67, none), (68, none), (69, none), (70, none), (71, none), (72, none), (73, none), (74, none), (75, none), (76, none), (77, none), (78, none), (79, none), (80, none), (81, none), (82, none)] (.c (.cut 0 [(3, some (.slice)), (4, some (.int .i64)), (7, none), (8, none), (9, none), (21, none), (22, none), (23, none), (24, none), (25, none), (26, none), (27, none), (28, none), (29, none), (30, none), (31, none), (32, none), (33, none), (34, none), (35, none), (36, none), (37, none), (38, none), (39, none), (40, none), (41, none), (42, none), (43, none), (44, none), (45, none), (46, none), (47, none), (48, none), (49, none), (50, none), (51, none), (52, none), (53, none), (54, none), (55, none), (56, none), (57, none), (58, none), (59, none), (60, none), (61, none), (62, none), (63, none), (64, none), (65, none), (66, none), (67, none), (68, none), (69, none), (70, none), (71, none), (72, none), (73, none), (74, none), (75, none), (76, none), (77, none), (78, none), (79, none), (80, none), (81, none), (82, none)] (.cut 0 [(21, none), (22, none), (23, none), (24, none), (25, none), (26, none), (27, none), (28, none), (29, none), (30, none), (31, none), (32, none), (33, none), (34, none), (35, none), (36, none), (37, none), (38, none), (39, none), (40, none), (41, none), (42, none), (43, none), (44, none), (45, none), (46, none), (47, none), (48, none), (49, none), (50, none), (51, none), (52, none), (53, none), (54, none)] (.at_ 9 2 (.at_ 9 6 (.k .nil) (.at_ 9 11 (.at_ 9 16 (.k .nil) (.at_ 9 19 (.at_ 9 25 (.at_ 9 28 (.k .nil) (.c .nil .nil)) (.k .nil)) (.k .nil))) (.at_ 9 19 (.at_ 9 25 (.at_ 9 28 (.k .nil) (.c .nil .nil)) (.k .nil)) (.k .nil)))) (.at_ 9 11 (.at_ 9 16 (.k .nil) (.at_ 9 19 (.at_ 9 25 (.at_ 9 28 (.k .nil) (.c .nil .nil)) (.k .nil)) (.k .nil))) (.at_ 9 19 (.at_ 9 25 (.at_ 9 28 (.k .nil) (.c .nil .nil)) (.k .nil)) (.k .nil)))) (.cut 2 [(9, some (.int .i64)), (62, none), (63, none), (64, none), (65, none), (66, none), (67, none)] (.at_ 12 2 (.k .nil) (.c .nil .nil)) .nil)) .nil) .nil)) .nil)) [(.agg #[(.int .i64 c0), (.int .i64 c1), (.int .i64 c2), (.int .i64 c3), (.int .i64 c4), (.int .i64 c5)])] w R = coadjutorref15_rows.vc c0 c1 c2 c3 c4 c5 w R := by kernel_rfl
theorem coadjutorref15_rows.calls (c0 : Int) (c1 : Int) (c2 : Int) (c3 : Int) (c4 : Int) (c5 : Int) {w : World} {R : Value → World → Prop} (h : coadjutorref15_rows.vc c0 c1 c2 c3 c4 c5 w R) : Calls Tryz.prog 97 #[(.agg #[(.int .i64 c0), (.int .i64 c1), (.int .i64 c2), (.int .i64 c3), (.int .i64 c4), (.int .i64 c5)])] w (Ret R) :=
  calls_V fit Tryz.func97 (.lp [(3, some (.slice)), (4, some (.int .i64)), (5, some (.int .i64)), (6, none), (7, none), (8, none), (9, none), (11, none), (12, none), (13, none), (14, none), (15, none), (16, none), (17, none), (18, none), (19, none), (20, none), (21, none), (22, none), (23, none), (24, none), (25, none), (26, none), (27, none), (28, none), (29, none), (30, none), (31, none), (32, none), (33, none), (34, none), (35, none), (36, none), (37, none), (38, none), (39, none), (40, none), (41, none), (42, none), (43, none), (44, none), (45, none), (46, none), (47, none), (48, none), (49, none), (50, none), (51, none), (52, none), (53, none), (54, none), (55, none), (56, none), (57, none), (58, none), (59, none), (60, none), (61, none), (62, none), (63, none), (64, none), (65, none), (66, none), (67, none), (68, none), (69, none), (70, none), (71, none), (72, none), (73, none), (74, none), (75, none), (76, none), (77, none), (78, none), (79, none), (80, none), (81, none), (82, none)] (.c (.lp [(3, some (.slice)), (4, some (.int .i64)), (6, some (.int .i64)), (7, none), (8, none), (9, none), (17, none), (18, none), (19, none), (20, none), (21, none), (22, none), (23, none), (24, none), (25, none), (26, none), (27, none), (28, none), (29, none), (30, none), (31, none), (32, none), (33, none), (34, none), (35, none), (36, none), (37, none), (38, none), (39, none), (40, none), (41, none), (42, none), (43, none), (44, none), (45, none), (46, none), (47, none), (48, none), (49, none), (50, none), (51, none), (52, none), (53, none), (54, none), (55, none), (56, none), (57, none), (58, none), (59, none), (60, none), (61, none), (62, none), (63, none), (64, none), (65, none), (66, none), (67, none), (68, none), (69, none), (70, none), (71, none), (72, none), (73, none), (74, none), (75, none), (76, none), (77, none), (78, none), (79, none), (80, none), (81, none), (82, none)] (.c (.cut 0 [(3, some (.slice)), (4, some (.int .i64)), (7, none), (8, none), (9, none), (21, none), (22, none), (23, none), (24, none), (25, none), (26, none), (27, none), (28, none), (29, none), (30, none), (31, none), (32, none), (33, none), (34, none), (35, none), (36, none), (37, none), (38, none), (39, none), (40, none), (41, none), (42, none), (43, none), (44, none), (45, none), (46, none), (47, none), (48, none), (49, none), (50, none), (51, none), (52, none), (53, none), (54, none), (55, none), (56, none), (57, none), (58, none), (59, none), (60, none), (61, none), (62, none), (63, none), (64, none), (65, none), (66, none), (67, none), (68, none), (69, none), (70, none), (71, none), (72, none), (73, none), (74, none), (75, none), (76, none), (77, none), (78, none), (79, none), (80, none), (81, none), (82, none)] (.cut 0 [(21, none), (22, none), (23, none), (24, none), (25, none), (26, none), (27, none), (28, none), (29, none), (30, none), (31, none), (32, none), (33, none), (34, none), (35, none), (36, none), (37, none), (38, none), (39, none), (40, none), (41, none), (42, none), (43, none), (44, none), (45, none), (46, none), (47, none), (48, none), (49, none), (50, none), (51, none), (52, none), (53, none), (54, none)] (.at_ 9 2 (.at_ 9 6 (.k .nil) (.at_ 9 11 (.at_ 9 16 (.k .nil) (.at_ 9 19 (.at_ 9 25 (.at_ 9 28 (.k .nil) (.c .nil .nil)) (.k .nil)) (.k .nil))) (.at_ 9 19 (.at_ 9 25 (.at_ 9 28 (.k .nil) (.c .nil .nil)) (.k .nil)) (.k .nil)))) (.at_ 9 11 (.at_ 9 16 (.k .nil) (.at_ 9 19 (.at_ 9 25 (.at_ 9 28 (.k .nil) (.c .nil .nil)) (.k .nil)) (.k .nil))) (.at_ 9 19 (.at_ 9 25 (.at_ 9 28 (.k .nil) (.c .nil .nil)) (.k .nil)) (.k .nil)))) (.cut 2 [(9, some (.int .i64)), (62, none), (63, none), (64, none), (65, none), (66, none), (67, none)] (.at_ 12 2 (.k .nil) (.c .nil .nil)) .nil)) .nil) .nil)) .nil)) (by rw [show (#[(.agg #[(.int .i64 c0), (.int .i64 c1), (.int .i64 c2), (.int .i64 c3), (.int .i64 c4), (.int .i64 c5)])] : Array Value).toList = [(.agg #[(.int .i64 c0), (.int .i64 c1), (.int .i64 c2), (.int .i64 c3), (.int .i64 c4), (.int .i64 c5)])] from rfl, coadjutorref15_rows.vc_eq]; exact h)
/-- function 123 -/
def coadjutorref15_Size.vc (c0 : Int) (c1 : Int) (c2 : Int) (c3 : Int) (c4 : Int) (c5 : Int) (w : World) (R : Value → World → Prop) : Prop :=
  ∀ w1 : World, w1 = w.alloc (.cells #[(.int .i64 c0), (.int .i64 c1), (.int .i64 c2), (.int .i64 c3), (.int .i64 c4), (.int .i64 c5)] 31 (0, 0)) →
  ∃ (x40 : Int), ∃ (x41 : Int), ∃ (x42 : Int), ∃ (x43 : Int), ∃ (x44 : Int), ∃ (x45 : Int), (w1.cell? (⟨w.heap.size, 0, none⟩ : Addr) = some (.int .i64 x40) ∧ w1.cell? (⟨w.heap.size, 1, none⟩ : Addr) = some (.int .i64 x41) ∧ w1.cell? (⟨w.heap.size, 2, none⟩ : Addr) = some (.int .i64 x42) ∧ w1.cell? (⟨w.heap.size, 3, none⟩ : Addr) = some (.int .i64 x43) ∧ w1.cell? (⟨w.heap.size, 4, none⟩ : Addr) = some (.int .i64 x44) ∧ w1.cell? (⟨w.heap.size, 5, none⟩ : Addr) = some (.int .i64 x45)) ∧
  Calls Tryz.prog 97 #[(.agg #[(.int .i64 x40), (.int .i64 x41), (.int .i64 x42), (.int .i64 x43), (.int .i64 x44), (.int .i64 x45)])] w1 (Ret fun v w2 => ∃ (x5A : Option Addr), ∃ (x5N : Nat), ∃ (x5C : Nat), v = (.slice x5A x5N x5C) ∧
  ∃ vS : World → Prop, ∀ w3 : World, w3 = w2.drew → vS w3 ∧
  (0 ≤ (IntKind.i64.wrap (((x5N : Nat) : Int) - 1)) ∧ (IntKind.i64.wrap (((x5N : Nat) : Int) - 1)) < ((x5N : Nat) : Int)) ∧ someV x5A fun p =>
  (0 ≤ (2 : Int) ∧ (2 : Int) < (4 : Int)) ∧
  ∃ (x12 : Int), (∀ w4, vS w4 → w4.cell? ((p.add ((IntKind.i64.wrap (((x5N : Nat) : Int) - 1)).toNat * 4)).add 2) = some (.int .i64 x12)) ∧
  (0 ≤ (IntKind.i64.wrap (((x5N : Nat) : Int) - 1)) ∧ (IntKind.i64.wrap (((x5N : Nat) : Int) - 1)) < ((x5N : Nat) : Int)) ∧ someV x5A fun p_1 =>
  (0 ≤ (3 : Int) ∧ (3 : Int) < (4 : Int)) ∧
  ∃ (x19 : Int), (∀ w5, vS w5 → w5.cell? ((p_1.add ((IntKind.i64.wrap (((x5N : Nat) : Int) - 1)).toNat * 4)).add 3) = some (.int .i64 x19)) ∧
  R (.int .i64 (IntKind.i64.wrap (x12 + x19))) w3)
theorem coadjutorref15_Size.vc_eq (c0 : Int) (c1 : Int) (c2 : Int) (c3 : Int) (c4 : Int) (c5 : Int) (w : World) (R : Value → World → Prop) : fnV Tryz.prog Tryz.f123 (.tk 0 (.tk 1 (.tk 2 (.tk 3 (.tk 4 (.tk 5 (.tk 6 (.tk 7 (.tk 8 (.tk 9 (.tk 10 (.tk 11 (.tk 12 (.tk 13 (.tk 14 (.tk 15 (.fin .nil))))))))))))))))) [(.agg #[(.int .i64 c0), (.int .i64 c1), (.int .i64 c2), (.int .i64 c3), (.int .i64 c4), (.int .i64 c5)])] w R = coadjutorref15_Size.vc c0 c1 c2 c3 c4 c5 w R := by kernel_rfl
theorem coadjutorref15_Size.calls (c0 : Int) (c1 : Int) (c2 : Int) (c3 : Int) (c4 : Int) (c5 : Int) {w : World} {R : Value → World → Prop} (h : coadjutorref15_Size.vc c0 c1 c2 c3 c4 c5 w R) : Calls Tryz.prog 123 #[(.agg #[(.int .i64 c0), (.int .i64 c1), (.int .i64 c2), (.int .i64 c3), (.int .i64 c4), (.int .i64 c5)])] w (Ret R) :=
  calls_V fit Tryz.func123 (.tk 0 (.tk 1 (.tk 2 (.tk 3 (.tk 4 (.tk 5 (.tk 6 (.tk 7 (.tk 8 (.tk 9 (.tk 10 (.tk 11 (.tk 12 (.tk 13 (.tk 14 (.tk 15 (.fin .nil))))))))))))))))) (by rw [show (#[(.agg #[(.int .i64 c0), (.int .i64 c1), (.int .i64 c2), (.int .i64 c3), (.int .i64 c4), (.int .i64 c5)])] : Array Value).toList = [(.agg #[(.int .i64 c0), (.int .i64 c1), (.int .i64 c2), (.int .i64 c3), (.int .i64 c4), (.int .i64 c5)])] from rfl, coadjutorref15_Size.vc_eq]; exact h)
/-- function 96 -/
def coadjutorref15_Good.vc (c0 : Int) (c1 : Int) (c2 : Int) (c3 : Int) (c4 : Int) (c5 : Int) (w : World) (R : Value → World → Prop) : Prop :=
  ∀ w1 : World, w1 = w.alloc (.cells #[(.int .i64 c0), (.int .i64 c1), (.int .i64 c2), (.int .i64 c3), (.int .i64 c4), (.int .i64 c5)] 31 (0, 0)) →
  ∃ (x4 : Int), w1.cell? (⟨w.heap.size, 0, none⟩ : Addr) = some (.int .i64 x4) ∧
  Calls Tryz.prog 122 #[(.int .i64 x4), (.int .i64 2), (.int .i64 32)] w1 (Ret fun v w2 => ∃ (x5 : Bool), v = (.bool x5) ∧
  ((!x5) = true →
  R (.bool false) w2) ∧
  ((!x5) = false →
  ∃ (x9 : Int), w2.cell? (⟨w.heap.size, 1, none⟩ : Addr) = some (.int .i64 x9) ∧
  Calls Tryz.prog 122 #[(.int .i64 x9), (.int .i64 1), (.int .i64 16)] w2 (Ret fun v_1 w3 => ∃ (x10 : Bool), v_1 = (.bool x10) ∧
  ((!x10) = true →
  R (.bool false) w3) ∧
  ((!x10) = false →
  ∃ (x15 : Int), w3.cell? (⟨w.heap.size, 2, none⟩ : Addr) = some (.int .i64 x15) ∧
  Calls Tryz.prog 122 #[(.int .i64 x15), (.int .i64 1), (.int .i64 4)] w3 (Ret fun v_2 w4 => ∃ (x16 : Bool), v_2 = (.bool x16) ∧
  ((!x16) = true →
  R (.bool false) w4) ∧
  ((!x16) = false →
  ∃ (x21 : Int), w4.cell? (⟨w.heap.size, 3, none⟩ : Addr) = some (.int .i64 x21) ∧
  Calls Tryz.prog 122 #[(.int .i64 x21), (.int .i64 1), (.int .i64 3)] w4 (Ret fun v_3 w5 => ∃ (x22 : Bool), v_3 = (.bool x22) ∧
  ((!x22) = true →
  R (.bool false) w5) ∧
  ((!x22) = false →
  ∃ (x27 : Int), w5.cell? (⟨w.heap.size, 4, none⟩ : Addr) = some (.int .i64 x27) ∧
  Calls Tryz.prog 122 #[(.int .i64 x27), (.int .i64 1), (.int .i64 32)] w5 (Ret fun v_4 w6 => ∃ (x28 : Bool), v_4 = (.bool x28) ∧
  ((!x28) = true →
  R (.bool false) w6) ∧
  ((!x28) = false →
  ∃ (x33 : Int), w6.cell? (⟨w.heap.size, 5, none⟩ : Addr) = some (.int .i64 x33) ∧
  Calls Tryz.prog 122 #[(.int .i64 x33), (.int .i64 1), (.int .i64 32)] w6 (Ret fun v_5 w7 => ∃ (x34 : Bool), v_5 = (.bool x34) ∧
  ((!x34) = true →
  R (.bool false) w7) ∧
  ((!x34) = false →
  ∃ (x38 : Int), w7.cell? (⟨w.heap.size, 1, none⟩ : Addr) = some (.int .i64 x38) ∧
  ∃ (x40 : Int), w7.cell? (⟨w.heap.size, 2, none⟩ : Addr) = some (.int .i64 x40) ∧
  x40 ≠ 0 ∧
  (((Int.tmod x38 x40) == (0 : Int)) = true →
  ∃ (x440 : Int), ∃ (x441 : Int), ∃ (x442 : Int), ∃ (x443 : Int), ∃ (x444 : Int), ∃ (x445 : Int), (w7.cell? (⟨w.heap.size, 0, none⟩ : Addr) = some (.int .i64 x440) ∧ w7.cell? (⟨w.heap.size, 1, none⟩ : Addr) = some (.int .i64 x441) ∧ w7.cell? (⟨w.heap.size, 2, none⟩ : Addr) = some (.int .i64 x442) ∧ w7.cell? (⟨w.heap.size, 3, none⟩ : Addr) = some (.int .i64 x443) ∧ w7.cell? (⟨w.heap.size, 4, none⟩ : Addr) = some (.int .i64 x444) ∧ w7.cell? (⟨w.heap.size, 5, none⟩ : Addr) = some (.int .i64 x445)) ∧
  Calls Tryz.prog 123 #[(.agg #[(.int .i64 x440), (.int .i64 x441), (.int .i64 x442), (.int .i64 x443), (.int .i64 x444), (.int .i64 x445)])] w7 (Ret fun v_6 w8 => ∃ (x45 : Int), v_6 = (.int .i64 x45) ∧
  R (.bool (decide (x45 ≤ (8192 : Int)))) w8)) ∧
  (((Int.tmod x38 x40) == (0 : Int)) = false →
  R (.bool false) w7)))))))))))))
theorem coadjutorref15_Good.vc_eq (c0 : Int) (c1 : Int) (c2 : Int) (c3 : Int) (c4 : Int) (c5 : Int) (w : World) (R : Value → World → Prop) : fnV Tryz.prog Tryz.f96 (.at_ 1 4 (.k .nil) (.at_ 1 10 (.k .nil) (.at_ 1 16 (.k .nil) (.at_ 1 22 (.k .nil) (.at_ 1 28 (.k .nil) (.c .nil (.at_ 3 6 .nil .nil))))))) [(.agg #[(.int .i64 c0), (.int .i64 c1), (.int .i64 c2), (.int .i64 c3), (.int .i64 c4), (.int .i64 c5)])] w R = coadjutorref15_Good.vc c0 c1 c2 c3 c4 c5 w R := by kernel_rfl
theorem coadjutorref15_Good.calls (c0 : Int) (c1 : Int) (c2 : Int) (c3 : Int) (c4 : Int) (c5 : Int) {w : World} {R : Value → World → Prop} (h : coadjutorref15_Good.vc c0 c1 c2 c3 c4 c5 w R) : Calls Tryz.prog 96 #[(.agg #[(.int .i64 c0), (.int .i64 c1), (.int .i64 c2), (.int .i64 c3), (.int .i64 c4), (.int .i64 c5)])] w (Ret R) :=
  calls_V fit Tryz.func96 (.at_ 1 4 (.k .nil) (.at_ 1 10 (.k .nil) (.at_ 1 16 (.k .nil) (.at_ 1 22 (.k .nil) (.at_ 1 28 (.k .nil) (.c .nil (.at_ 3 6 .nil .nil))))))) (by rw [show (#[(.agg #[(.int .i64 c0), (.int .i64 c1), (.int .i64 c2), (.int .i64 c3), (.int .i64 c4), (.int .i64 c5)])] : Array Value).toList = [(.agg #[(.int .i64 c0), (.int .i64 c1), (.int .i64 c2), (.int .i64 c3), (.int .i64 c4), (.int .i64 c5)])] from rfl, coadjutorref15_Good.vc_eq]; exact h)
/-- function 67 -/
def coadjutorref15_Side.vc (c0 : Int) (c1 : Int) (c2 : Int) (c3 : Int) (c4 : Int) (c5 : Int) (part : Int) (w : World) (R : Value → World → Prop) : Prop :=
  ∀ w1 : World, w1 = w.alloc (.cells #[(.int .i64 c0), (.int .i64 c1), (.int .i64 c2), (.int .i64 c3), (.int .i64 c4), (.int .i64 c5)] 31 (0, 0)) →
  ∃ (x60 : Int), ∃ (x61 : Int), ∃ (x62 : Int), ∃ (x63 : Int), ∃ (x64 : Int), ∃ (x65 : Int), (w1.cell? (⟨w.heap.size, 0, none⟩ : Addr) = some (.int .i64 x60) ∧ w1.cell? (⟨w.heap.size, 1, none⟩ : Addr) = some (.int .i64 x61) ∧ w1.cell? (⟨w.heap.size, 2, none⟩ : Addr) = some (.int .i64 x62) ∧ w1.cell? (⟨w.heap.size, 3, none⟩ : Addr) = some (.int .i64 x63) ∧ w1.cell? (⟨w.heap.size, 4, none⟩ : Addr) = some (.int .i64 x64) ∧ w1.cell? (⟨w.heap.size, 5, none⟩ : Addr) = some (.int .i64 x65)) ∧
  Calls Tryz.prog 96 #[(.agg #[(.int .i64 x60), (.int .i64 x61), (.int .i64 x62), (.int .i64 x63), (.int .i64 x64), (.int .i64 x65)])] w1 (Ret fun v w2 => ∃ (x7 : Bool), v = (.bool x7) ∧
  ((!x7) = true →
  R (.tuple #[(.int .i64 0), (.int .i64 0)]) w2) ∧
  ((!x7) = false →
  ∃ (x90 : Int), ∃ (x91 : Int), ∃ (x92 : Int), ∃ (x93 : Int), ∃ (x94 : Int), ∃ (x95 : Int), (w2.cell? (⟨w.heap.size, 0, none⟩ : Addr) = some (.int .i64 x90) ∧ w2.cell? (⟨w.heap.size, 1, none⟩ : Addr) = some (.int .i64 x91) ∧ w2.cell? (⟨w.heap.size, 2, none⟩ : Addr) = some (.int .i64 x92) ∧ w2.cell? (⟨w.heap.size, 3, none⟩ : Addr) = some (.int .i64 x93) ∧ w2.cell? (⟨w.heap.size, 4, none⟩ : Addr) = some (.int .i64 x94) ∧ w2.cell? (⟨w.heap.size, 5, none⟩ : Addr) = some (.int .i64 x95)) ∧
  Calls Tryz.prog 98 #[(.agg #[(.int .i64 x90), (.int .i64 x91), (.int .i64 x92), (.int .i64 x93), (.int .i64 x94), (.int .i64 x95)]), (.int .i64 part)] w2 (Ret fun v_1 w3 => ∃ (x11_0 : Int), ∃ (x11_1 : Int), v_1 = (.tuple #[(.int .i64 x11_0), (.int .i64 x11_1)]) ∧
  R (.tuple #[(.int .i64 x11_0), (.int .i64 x11_1)]) w3)))
theorem coadjutorref15_Side.vc_eq (c0 : Int) (c1 : Int) (c2 : Int) (c3 : Int) (c4 : Int) (c5 : Int) (part : Int) (w : World) (R : Value → World → Prop) : fnV Tryz.prog Tryz.f67 (.c .nil .nil) [(.agg #[(.int .i64 c0), (.int .i64 c1), (.int .i64 c2), (.int .i64 c3), (.int .i64 c4), (.int .i64 c5)]), (.int .i64 part)] w R = coadjutorref15_Side.vc c0 c1 c2 c3 c4 c5 part w R := by kernel_rfl
theorem coadjutorref15_Side.calls (c0 : Int) (c1 : Int) (c2 : Int) (c3 : Int) (c4 : Int) (c5 : Int) (part : Int) {w : World} {R : Value → World → Prop} (h : coadjutorref15_Side.vc c0 c1 c2 c3 c4 c5 part w R) : Calls Tryz.prog 67 #[(.agg #[(.int .i64 c0), (.int .i64 c1), (.int .i64 c2), (.int .i64 c3), (.int .i64 c4), (.int .i64 c5)]), (.int .i64 part)] w (Ret R) :=
  calls_V fit Tryz.func67 (.c .nil .nil) (by rw [show (#[(.agg #[(.int .i64 c0), (.int .i64 c1), (.int .i64 c2), (.int .i64 c3), (.int .i64 c4), (.int .i64 c5)]), (.int .i64 part)] : Array Value).toList = [(.agg #[(.int .i64 c0), (.int .i64 c1), (.int .i64 c2), (.int .i64 c3), (.int .i64 c4), (.int .i64 c5)]), (.int .i64 part)] from rfl, coadjutorref15_Side.vc_eq]; exact h)
/-- function 66 -/
def coadjutorref15_Range.vc (c0 : Int) (c1 : Int) (c2 : Int) (c3 : Int) (c4 : Int) (c5 : Int) (part : Int) (block : Int) (w : World) (R : Value → World → Prop) : Prop :=
  ∀ w1 : World, w1 = w.alloc (.cells #[(.int .i64 c0), (.int .i64 c1), (.int .i64 c2), (.int .i64 c3), (.int .i64 c4), (.int .i64 c5)] 31 (0, 0)) →
  ∃ (x110 : Int), ∃ (x111 : Int), ∃ (x112 : Int), ∃ (x113 : Int), ∃ (x114 : Int), ∃ (x115 : Int), (w1.cell? (⟨w.heap.size, 0, none⟩ : Addr) = some (.int .i64 x110) ∧ w1.cell? (⟨w.heap.size, 1, none⟩ : Addr) = some (.int .i64 x111) ∧ w1.cell? (⟨w.heap.size, 2, none⟩ : Addr) = some (.int .i64 x112) ∧ w1.cell? (⟨w.heap.size, 3, none⟩ : Addr) = some (.int .i64 x113) ∧ w1.cell? (⟨w.heap.size, 4, none⟩ : Addr) = some (.int .i64 x114) ∧ w1.cell? (⟨w.heap.size, 5, none⟩ : Addr) = some (.int .i64 x115)) ∧
  Calls Tryz.prog 96 #[(.agg #[(.int .i64 x110), (.int .i64 x111), (.int .i64 x112), (.int .i64 x113), (.int .i64 x114), (.int .i64 x115)])] w1 (Ret fun v w2 => ∃ (x12 : Bool), v = (.bool x12) ∧
  ((!x12) = true →
  R (.tuple #[(.int .i64 0), (.int .i64 0), (.bool false)]) w2) ∧
  ((!x12) = false →
  ∃ (x140 : Int), ∃ (x141 : Int), ∃ (x142 : Int), ∃ (x143 : Int), ∃ (x144 : Int), ∃ (x145 : Int), (w2.cell? (⟨w.heap.size, 0, none⟩ : Addr) = some (.int .i64 x140) ∧ w2.cell? (⟨w.heap.size, 1, none⟩ : Addr) = some (.int .i64 x141) ∧ w2.cell? (⟨w.heap.size, 2, none⟩ : Addr) = some (.int .i64 x142) ∧ w2.cell? (⟨w.heap.size, 3, none⟩ : Addr) = some (.int .i64 x143) ∧ w2.cell? (⟨w.heap.size, 4, none⟩ : Addr) = some (.int .i64 x144) ∧ w2.cell? (⟨w.heap.size, 5, none⟩ : Addr) = some (.int .i64 x145)) ∧
  Calls Tryz.prog 97 #[(.agg #[(.int .i64 x140), (.int .i64 x141), (.int .i64 x142), (.int .i64 x143), (.int .i64 x144), (.int .i64 x145)])] w2 (Ret fun v_1 w3 => ∃ (x15A : Option Addr), ∃ (x15N : Nat), ∃ (x15C : Nat), v_1 = (.slice x15A x15N x15C) ∧
  ∃ vI : Int → Nat → World → Prop, (∃ vk_2 : Nat, vI 0 vk_2 w3) ∧
  ∀ (jk : Nat → Value) (i : Int), ∀ (vk : Nat) (w4 : World), vI i vk w4 →
  (decide (i < ((x15N : Nat) : Int)) = true →
  (0 ≤ i ∧ i < ((x15N : Nat) : Int)) ∧ someV x15A fun p =>
  (0 ≤ (0 : Int) ∧ (0 : Int) < (4 : Int)) ∧
  ∃ (x26 : Int), w4.cell? (p.add (i.toNat * 4)) = some (.int .i64 x26) ∧
  ((x26 == part) = true →
  (0 ≤ i ∧ i < ((x15N : Nat) : Int)) ∧ someV x15A fun p_1 =>
  (0 ≤ (1 : Int) ∧ (1 : Int) < (4 : Int)) ∧
  ∃ (x34 : Int), w4.cell? ((p_1.add (i.toNat * 4)).add 1) = some (.int .i64 x34) ∧
  ((x34 == block) = true →
  ∃ vS : World → Prop, ∀ w5 : World, w5 = w4.drew → vS w5 ∧
  (0 ≤ i ∧ i < ((x15N : Nat) : Int)) ∧ someV x15A fun p_2 =>
  (0 ≤ (2 : Int) ∧ (2 : Int) < (4 : Int)) ∧
  ∃ (x42 : Int), (∀ w6, vS w6 → w6.cell? ((p_2.add (i.toNat * 4)).add 2) = some (.int .i64 x42)) ∧
  (0 ≤ i ∧ i < ((x15N : Nat) : Int)) ∧ someV x15A fun p_3 =>
  (0 ≤ (3 : Int) ∧ (3 : Int) < (4 : Int)) ∧
  ∃ (x47 : Int), (∀ w7, vS w7 → w7.cell? ((p_3.add (i.toNat * 4)).add 3) = some (.int .i64 x47)) ∧
  R (.tuple #[(.int .i64 x42), (.int .i64 x47), (.bool true)]) w5) ∧
  ((x34 == block) = false →
  ∃ vk_1 : Nat, vk_1 < vk ∧ vI (IntKind.i64.wrap (i + 1)) vk_1 w4)) ∧
  ((x26 == part) = false →
  ∃ vk_1 : Nat, vk_1 < vk ∧ vI (IntKind.i64.wrap (i + 1)) vk_1 w4)) ∧
  (decide (i < ((x15N : Nat) : Int)) = false →
  R (.tuple #[(.int .i64 0), (.int .i64 0), (.bool false)]) w4))))
theorem coadjutorref15_Range.vc_eq (c0 : Int) (c1 : Int) (c2 : Int) (c3 : Int) (c4 : Int) (c5 : Int) (part : Int) (block : Int) (w : World) (R : Value → World → Prop) : fnV Tryz.prog Tryz.f66 (.c .nil (.lp [(6, none), (7, none), (8, none), (10, some (.int .i64)), (16, none), (17, none), (18, none), (19, none), (20, none), (21, none), (22, none), (23, none), (24, none), (25, none), (26, none), (27, none), (28, none), (29, none), (30, none), (31, none), (32, none), (33, none), (34, none), (35, none), (36, none), (37, none), (38, none), (39, none), (40, none), (41, none), (42, none), (43, none), (44, none), (45, none), (46, none), (47, none)] (.c (.at_ 7 7 (.c (.tk 0 (.tk 1 (.tk 2 (.tk 3 (.tk 4 (.tk 5 (.tk 6 (.tk 7 (.tk 8 (.tk 9 (.tk 10 (.tk 11 (.tk 12 (.fin .nil)))))))))))))) .nil) (.k .nil)) .nil))) [(.agg #[(.int .i64 c0), (.int .i64 c1), (.int .i64 c2), (.int .i64 c3), (.int .i64 c4), (.int .i64 c5)]), (.int .i64 part), (.int .i64 block)] w R = coadjutorref15_Range.vc c0 c1 c2 c3 c4 c5 part block w R := by kernel_rfl
theorem coadjutorref15_Range.calls (c0 : Int) (c1 : Int) (c2 : Int) (c3 : Int) (c4 : Int) (c5 : Int) (part : Int) (block : Int) {w : World} {R : Value → World → Prop} (h : coadjutorref15_Range.vc c0 c1 c2 c3 c4 c5 part block w R) : Calls Tryz.prog 66 #[(.agg #[(.int .i64 c0), (.int .i64 c1), (.int .i64 c2), (.int .i64 c3), (.int .i64 c4), (.int .i64 c5)]), (.int .i64 part), (.int .i64 block)] w (Ret R) :=
  calls_V fit Tryz.func66 (.c .nil (.lp [(6, none), (7, none), (8, none), (10, some (.int .i64)), (16, none), (17, none), (18, none), (19, none), (20, none), (21, none), (22, none), (23, none), (24, none), (25, none), (26, none), (27, none), (28, none), (29, none), (30, none), (31, none), (32, none), (33, none), (34, none), (35, none), (36, none), (37, none), (38, none), (39, none), (40, none), (41, none), (42, none), (43, none), (44, none), (45, none), (46, none), (47, none)] (.c (.at_ 7 7 (.c (.tk 0 (.tk 1 (.tk 2 (.tk 3 (.tk 4 (.tk 5 (.tk 6 (.tk 7 (.tk 8 (.tk 9 (.tk 10 (.tk 11 (.tk 12 (.fin .nil)))))))))))))) .nil) (.k .nil)) .nil))) (by rw [show (#[(.agg #[(.int .i64 c0), (.int .i64 c1), (.int .i64 c2), (.int .i64 c3), (.int .i64 c4), (.int .i64 c5)]), (.int .i64 part), (.int .i64 block)] : Array Value).toList = [(.agg #[(.int .i64 c0), (.int .i64 c1), (.int .i64 c2), (.int .i64 c3), (.int .i64 c4), (.int .i64 c5)]), (.int .i64 part), (.int .i64 block)] from rfl, coadjutorref15_Range.vc_eq]; exact h)
/-- function 41 -/
def coadjutorref16_Row.vc (m0 : Int) (m1 : Int) (m2 : Int) (m3 : Int) (m4 : Int) (m5 : Int) (m6 : ByteArray) (part : Int) (block : Int) (vat : Int) (w : World) (R : Value → World → Prop) : Prop :=
  ∀ w1 : World, w1 = w.alloc (.cells #[(.int .i64 m0), (.int .i64 m1), (.int .i64 m2), (.int .i64 m3), (.int .i64 m4), (.int .i64 m5), (.string m6)] 38 (0, 0)) →
  ∃ (x200 : Int), ∃ (x201 : Int), ∃ (x202 : Int), ∃ (x203 : Int), ∃ (x204 : Int), ∃ (x205 : Int), (w1.cell? (⟨w.heap.size, 0, none⟩ : Addr) = some (.int .i64 x200) ∧ w1.cell? (⟨w.heap.size, 1, none⟩ : Addr) = some (.int .i64 x201) ∧ w1.cell? (⟨w.heap.size, 2, none⟩ : Addr) = some (.int .i64 x202) ∧ w1.cell? (⟨w.heap.size, 3, none⟩ : Addr) = some (.int .i64 x203) ∧ w1.cell? (⟨w.heap.size, 4, none⟩ : Addr) = some (.int .i64 x204) ∧ w1.cell? (⟨w.heap.size, 5, none⟩ : Addr) = some (.int .i64 x205)) ∧
  Calls Tryz.prog 66 #[(.agg #[(.int .i64 x200), (.int .i64 x201), (.int .i64 x202), (.int .i64 x203), (.int .i64 x204), (.int .i64 x205)]), (.int .i64 part), (.int .i64 block)] w1 (Ret fun v w2 => ∃ (x23_0 : Int), ∃ (x23_1 : Int), ∃ (x23_2 : Bool), v = (.tuple #[(.int .i64 x23_0), (.int .i64 x23_1), (.bool x23_2)]) ∧
  ∃ (x290 : Int), ∃ (x291 : Int), ∃ (x292 : Int), ∃ (x293 : Int), ∃ (x294 : Int), ∃ (x295 : Int), (w2.cell? (⟨w.heap.size, 0, none⟩ : Addr) = some (.int .i64 x290) ∧ w2.cell? (⟨w.heap.size, 1, none⟩ : Addr) = some (.int .i64 x291) ∧ w2.cell? (⟨w.heap.size, 2, none⟩ : Addr) = some (.int .i64 x292) ∧ w2.cell? (⟨w.heap.size, 3, none⟩ : Addr) = some (.int .i64 x293) ∧ w2.cell? (⟨w.heap.size, 4, none⟩ : Addr) = some (.int .i64 x294) ∧ w2.cell? (⟨w.heap.size, 5, none⟩ : Addr) = some (.int .i64 x295)) ∧
  Calls Tryz.prog 67 #[(.agg #[(.int .i64 x290), (.int .i64 x291), (.int .i64 x292), (.int .i64 x293), (.int .i64 x294), (.int .i64 x295)]), (.int .i64 part)] w2 (Ret fun v_1 w3 => ∃ (x31_0 : Int), ∃ (x31_1 : Int), v_1 = (.tuple #[(.int .i64 x31_0), (.int .i64 x31_1)]) ∧
  ∀ w4 : World, w4 = w3.alloc (.cells #[] 3 (0, 0)) →
  ((!x23_2) = true →
  R (.tuple #[(.slice (some (⟨w3.heap.size, 0, none⟩ : Addr)) 0 0), (.bool false)]) w4) ∧
  ((!x23_2) = false →
  (decide (vat < (0 : Int)) = true →
  R (.tuple #[(.slice (some (⟨w3.heap.size, 0, none⟩ : Addr)) 0 0), (.bool false)]) w4) ∧
  (decide (vat < (0 : Int)) = false →
  (decide (vat ≥ x31_0) = true →
  R (.tuple #[(.slice (some (⟨w3.heap.size, 0, none⟩ : Addr)) 0 0), (.bool false)]) w4) ∧
  (decide (vat ≥ x31_0) = false →
  ∃ vI : Option Addr → Nat → Nat → Int → Nat → World → Prop, (∃ vk_2 : Nat, vI (some (⟨w3.heap.size, 0, none⟩ : Addr)) 0 0 0 vk_2 w4) ∧
  ∀ (jk : Nat → Value) (outA : Option Addr) (outN : Nat) (outC : Nat) (i : Int), ∀ (vk : Nat) (w5 : World), vI outA outN outC i vk w5 →
  (decide (i < x31_1) = true →
  (decide (i < x23_1) = true →
  ∃ (x58 : ByteArray), w5.cell? (⟨w.heap.size, 6, none⟩ : Addr) = some (.string x58) ∧
  (0 ≤ (IntKind.i64.wrap ((IntKind.i64.wrap (x23_0 + (IntKind.i64.wrap (vat * x31_1)))) + i)) ∧ (IntKind.i64.wrap ((IntKind.i64.wrap (x23_0 + (IntKind.i64.wrap (vat * x31_1)))) + i)) < ((x58.size : Nat) : Int)) ∧
  (decide ((IntKind.i64.wrap (bt x58 (IntKind.i64.wrap ((IntKind.i64.wrap (x23_0 + (IntKind.i64.wrap (vat * x31_1)))) + i)))) > (127 : Int)) = true →
  ∀ w6 : World, w6 = w5.alloc (.cells #[(.int .i64 (IntKind.i64.wrap ((IntKind.i64.wrap (bt x58 (IntKind.i64.wrap ((IntKind.i64.wrap (x23_0 + (IntKind.i64.wrap (vat * x31_1)))) + i)))) - 256)))] 3 (0, 0)) →
  ∃ (x75A : Option Addr), ∃ (x75N : Nat), ∃ (x75C : Nat), ∃ w7 : World, (Builtin.append_ #[39, 39] 39 #[(.slice outA outN outC), (.slice (some (⟨w5.heap.size, 0, none⟩ : Addr)) 1 1)]).run Tryz.prog w6 = .ok (.slice x75A x75N x75C) w7 ∧
  ∃ vk_1 : Nat, vk_1 < vk ∧ vI x75A x75N x75C (IntKind.i64.wrap (i + 1)) vk_1 w7) ∧
  (decide ((IntKind.i64.wrap (bt x58 (IntKind.i64.wrap ((IntKind.i64.wrap (x23_0 + (IntKind.i64.wrap (vat * x31_1)))) + i)))) > (127 : Int)) = false →
  ∀ w8 : World, w8 = w5.alloc (.cells #[(.int .i64 (IntKind.i64.wrap (bt x58 (IntKind.i64.wrap ((IntKind.i64.wrap (x23_0 + (IntKind.i64.wrap (vat * x31_1)))) + i)))))] 3 (0, 0)) →
  ∃ (x75A_1 : Option Addr), ∃ (x75N_1 : Nat), ∃ (x75C_1 : Nat), ∃ w9 : World, (Builtin.append_ #[39, 39] 39 #[(.slice outA outN outC), (.slice (some (⟨w5.heap.size, 0, none⟩ : Addr)) 1 1)]).run Tryz.prog w8 = .ok (.slice x75A_1 x75N_1 x75C_1) w9 ∧
  ∃ vk_1 : Nat, vk_1 < vk ∧ vI x75A_1 x75N_1 x75C_1 (IntKind.i64.wrap (i + 1)) vk_1 w9)) ∧
  (decide (i < x23_1) = false →
  R (.tuple #[(.slice outA outN outC), (.bool true)]) w5)) ∧
  (decide (i < x31_1) = false →
  R (.tuple #[(.slice outA outN outC), (.bool true)]) w5))))))
theorem coadjutorref16_Row.vc_eq (m0 : Int) (m1 : Int) (m2 : Int) (m3 : Int) (m4 : Int) (m5 : Int) (m6 : ByteArray) (part : Int) (block : Int) (vat : Int) (w : World) (R : Value → World → Prop) : fnV Tryz.prog Tryz.f41 (.at_ 4 2 (.k .nil) (.at_ 4 6 (.k .nil) (.c .nil (.lp [(15, some (.slice)), (16, some (.int .i64)), (17, none), (47, none), (48, none), (49, none), (50, none), (51, none), (52, none), (53, none), (54, none), (55, none), (56, none), (57, none), (58, none), (59, none), (60, none), (61, none), (62, none), (63, none), (64, none), (65, none), (66, none), (67, none), (68, none), (69, none), (70, none), (71, none), (72, none), (73, none), (74, none), (75, none)] (.at_ 7 3 (.c (.c .nil .nil) .nil) (.k .nil)))))) [(.agg #[(.int .i64 m0), (.int .i64 m1), (.int .i64 m2), (.int .i64 m3), (.int .i64 m4), (.int .i64 m5), (.string m6)]), (.int .i64 part), (.int .i64 block), (.int .i64 vat)] w R = coadjutorref16_Row.vc m0 m1 m2 m3 m4 m5 m6 part block vat w R := by kernel_rfl
theorem coadjutorref16_Row.calls (m0 : Int) (m1 : Int) (m2 : Int) (m3 : Int) (m4 : Int) (m5 : Int) (m6 : ByteArray) (part : Int) (block : Int) (vat : Int) {w : World} {R : Value → World → Prop} (h : coadjutorref16_Row.vc m0 m1 m2 m3 m4 m5 m6 part block vat w R) : Calls Tryz.prog 41 #[(.agg #[(.int .i64 m0), (.int .i64 m1), (.int .i64 m2), (.int .i64 m3), (.int .i64 m4), (.int .i64 m5), (.string m6)]), (.int .i64 part), (.int .i64 block), (.int .i64 vat)] w (Ret R) :=
  calls_V fit Tryz.func41 (.at_ 4 2 (.k .nil) (.at_ 4 6 (.k .nil) (.c .nil (.lp [(15, some (.slice)), (16, some (.int .i64)), (17, none), (47, none), (48, none), (49, none), (50, none), (51, none), (52, none), (53, none), (54, none), (55, none), (56, none), (57, none), (58, none), (59, none), (60, none), (61, none), (62, none), (63, none), (64, none), (65, none), (66, none), (67, none), (68, none), (69, none), (70, none), (71, none), (72, none), (73, none), (74, none), (75, none)] (.at_ 7 3 (.c (.c .nil .nil) .nil) (.k .nil)))))) (by rw [show (#[(.agg #[(.int .i64 m0), (.int .i64 m1), (.int .i64 m2), (.int .i64 m3), (.int .i64 m4), (.int .i64 m5), (.string m6)]), (.int .i64 part), (.int .i64 block), (.int .i64 vat)] : Array Value).toList = [(.agg #[(.int .i64 m0), (.int .i64 m1), (.int .i64 m2), (.int .i64 m3), (.int .i64 m4), (.int .i64 m5), (.string m6)]), (.int .i64 part), (.int .i64 block), (.int .i64 vat)] from rfl, coadjutorref16_Row.vc_eq]; exact h)
end Go.Proofs.YtbadkcnemcnhfaaGreatDoor.Vc
