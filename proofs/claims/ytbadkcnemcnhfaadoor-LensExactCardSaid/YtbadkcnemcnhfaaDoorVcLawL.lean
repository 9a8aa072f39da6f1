import Derived.Test.YtbadkcnemcnhfaaDoorVc
import Derived.Test.YtbadkcnemcnhfaaDoorH
import Derived.Test.YtbadkcnemcnhfaaDoorProg
import Derived.KernelRfl
set_option linter.unusedVariables false
set_option maxRecDepth 100000
namespace Go.Proofs.YtbadkcnemcnhfaaDoor.Vc
open Go Go.Proofs Go.Proofs.YtbadkcnemcnhfaaDoor.V
/-- function 17 -/
def coadjutorlaw39_shape.vc (w : World) (R : Value → World → Prop) : Prop :=
  ∀ w1 : World, w1 = w.alloc (.cells #[(.int .i64 0), (.int .i64 0), (.int .i64 0), (.int .i64 0), (.int .i64 0), (.int .i64 0)] 23 (0, 0)) →
  (((∃ u, w1.cell? (⟨w.heap.size, 0, none⟩ : Addr) = some u) ∧ w1.frozen? (⟨w.heap.size, 0, none⟩ : Addr) = false) ∧ ((∃ u, w1.cell? (⟨w.heap.size, 1, none⟩ : Addr) = some u) ∧ w1.frozen? (⟨w.heap.size, 1, none⟩ : Addr) = false) ∧ ((∃ u, w1.cell? (⟨w.heap.size, 2, none⟩ : Addr) = some u) ∧ w1.frozen? (⟨w.heap.size, 2, none⟩ : Addr) = false) ∧ ((∃ u, w1.cell? (⟨w.heap.size, 3, none⟩ : Addr) = some u) ∧ w1.frozen? (⟨w.heap.size, 3, none⟩ : Addr) = false) ∧ ((∃ u, w1.cell? (⟨w.heap.size, 4, none⟩ : Addr) = some u) ∧ w1.frozen? (⟨w.heap.size, 4, none⟩ : Addr) = false) ∧ ((∃ u, w1.cell? (⟨w.heap.size, 5, none⟩ : Addr) = some u) ∧ w1.frozen? (⟨w.heap.size, 5, none⟩ : Addr) = false)) ∧ ∀ w2 : World, w2 = ((((((w1.setCell (⟨w.heap.size, 0, none⟩ : Addr) (.int .i64 3)).setCell (⟨w.heap.size, 1, none⟩ : Addr) (.int .i64 1)).setCell (⟨w.heap.size, 2, none⟩ : Addr) (.int .i64 1)).setCell (⟨w.heap.size, 3, none⟩ : Addr) (.int .i64 1)).setCell (⟨w.heap.size, 4, none⟩ : Addr) (.int .i64 1)).setCell (⟨w.heap.size, 5, none⟩ : Addr) (.int .i64 5)) →
  ∃ (r00 : Int), ∃ (r01 : Int), ∃ (r02 : Int), ∃ (r03 : Int), ∃ (r04 : Int), ∃ (r05 : Int), (w2.cell? (⟨w.heap.size, 0, none⟩ : Addr) = some (.int .i64 r00) ∧ w2.cell? (⟨w.heap.size, 1, none⟩ : Addr) = some (.int .i64 r01) ∧ w2.cell? (⟨w.heap.size, 2, none⟩ : Addr) = some (.int .i64 r02) ∧ w2.cell? (⟨w.heap.size, 3, none⟩ : Addr) = some (.int .i64 r03) ∧ w2.cell? (⟨w.heap.size, 4, none⟩ : Addr) = some (.int .i64 r04) ∧ w2.cell? (⟨w.heap.size, 5, none⟩ : Addr) = some (.int .i64 r05)) ∧
  R (.agg #[(.int .i64 r00), (.int .i64 r01), (.int .i64 r02), (.int .i64 r03), (.int .i64 r04), (.int .i64 r05)]) w2
theorem coadjutorlaw39_shape.vc_eq (w : World) (R : Value → World → Prop) : fnV Tryd.prog Tryd.f17 .nil [] w R = coadjutorlaw39_shape.vc  w R := by kernel_rfl
theorem coadjutorlaw39_shape.calls {w : World} {R : Value → World → Prop} (h : coadjutorlaw39_shape.vc  w R) : Calls Tryd.prog 17 #[] w (Ret R) :=
  calls_V fit Tryd.func17 .nil (by rw [show (#[] : Array Value).toList = [] from rfl, coadjutorlaw39_shape.vc_eq]; exact h)
/-- function 5 -/
def coadjutorlaw39_awake.vc (w : World) (R : Value → World → Prop) : Prop :=
  Calls Tryd.prog 17 #[] w (Ret fun v w1 => ∃ (x120 : Int), ∃ (x121 : Int), ∃ (x122 : Int), ∃ (x123 : Int), ∃ (x124 : Int), ∃ (x125 : Int), v = (.agg #[(.int .i64 x120), (.int .i64 x121), (.int .i64 x122), (.int .i64 x123), (.int .i64 x124), (.int .i64 x125)]) ∧
  Calls Tryd.prog 6 #[(.agg #[(.int .i64 x120), (.int .i64 x121), (.int .i64 x122), (.int .i64 x123), (.int .i64 x124), (.int .i64 x125)]), (.string (ByteArray.mk #[97, 97, 97, 97, 97, 97, 97, 97, 97, 97, 97, 97, 97, 97, 97, 97, 97, 97]))] w1 (Ret fun v_1 w2 => ∃ (x13_0 : Option Addr), ∃ (x13_1 : Int), v_1 = (.tuple #[(.pointer x13_0), (.int .i64 x13_1)]) ∧
  Calls Tryd.prog 17 #[] w2 (Ret fun v_2 w3 => ∃ (x170 : Int), ∃ (x171 : Int), ∃ (x172 : Int), ∃ (x173 : Int), ∃ (x174 : Int), ∃ (x175 : Int), v_2 = (.agg #[(.int .i64 x170), (.int .i64 x171), (.int .i64 x172), (.int .i64 x173), (.int .i64 x174), (.int .i64 x175)]) ∧
  Calls Tryd.prog 6 #[(.agg #[(.int .i64 x170), (.int .i64 x171), (.int .i64 x172), (.int .i64 x173), (.int .i64 x174), (.int .i64 x175)]), (.string (ByteArray.mk #[97, 97, 97, 97, 100, 97, 97, 97, 97, 97, 97, 97, 97, 97, 97, 97, 98, 97]))] w3 (Ret fun v_3 w4 => ∃ (x18_0 : Option Addr), ∃ (x18_1 : Int), v_3 = (.tuple #[(.pointer x18_0), (.int .i64 x18_1)]) ∧
  ((x13_1 != (0 : Int)) = true →
  R (.bool false) w4) ∧
  ((x13_1 != (0 : Int)) = false →
  ((x18_1 != (0 : Int)) = true →
  R (.bool false) w4) ∧
  ((x18_1 != (0 : Int)) = false →
  Calls Tryd.prog 7 #[(.pointer x13_0), (.pointer x18_0)] w4 (Ret fun v_4 w5 => ∃ (x30_0A : Option Addr), ∃ (x30_0N : Nat), ∃ (x30_0C : Nat), ∃ (x30_1 : Int), v_4 = (.tuple #[(.slice x30_0A x30_0N x30_0C), (.int .i64 x30_1)]) ∧
  Calls Tryd.prog 8 #[(.pointer x13_0), (.pointer x18_0)] w5 (Ret fun v_5 w6 => ∃ (x36_0 : Int), ∃ (x36_1 : Int), v_5 = (.tuple #[(.int .i64 x36_0), (.int .i64 x36_1)]) ∧
  Calls Tryd.prog 9 #[(.pointer x13_0), (.pointer x18_0), (.int .i64 1), (.int .i64 1)] w6 (Ret fun v_6 w7 => ∃ (x42_0 : Option Addr), ∃ (x42_1 : Int), v_6 = (.tuple #[(.pointer x42_0), (.int .i64 x42_1)]) ∧
  ((x30_1 == (0 : Int)) = true →
  ((((x30_0N : Nat) : Int) == (2 : Int)) = true →
  (0 ≤ (0 : Int) ∧ (0 : Int) < ((x30_0N : Nat) : Int)) ∧ someV x30_0A fun p =>
  ∃ (x550 : Int), ∃ (x551 : Int), ∃ (x552 : Int), ∃ (x553 : Int), (w7.cell? p = some (.int .i64 x550) ∧ w7.cell? (p.add 1) = some (.int .i64 x551) ∧ w7.cell? (p.add 2) = some (.int .i64 x552) ∧ w7.cell? (p.add 3) = some (.int .i64 x553)) ∧
  ((((x550 == (1 : Int)) && ((x551 == (0 : Int)) && true)) && ((x552 == (1 : Int)) && ((x553 == (3 : Int)) && true))) = true →
  (0 ≤ (1 : Int) ∧ (1 : Int) < ((x30_0N : Nat) : Int)) ∧ someV x30_0A fun p_1 =>
  ∃ (x640 : Int), ∃ (x641 : Int), (w7.cell? (p_1.add 4) = some (.int .i64 x640) ∧ w7.cell? (p_1.add 5) = some (.int .i64 x641)) ∧
  Calls Tryd.prog 12 #[(.agg #[(.int .i64 x640), (.int .i64 x641)])] w7 (Ret fun v_7 w8 => ∃ (x65 : ByteArray), v_7 = (.string x65) ∧
  ((x65.toList == (ByteArray.mk #[100, 111, 119, 110, 32, 48]).toList) = true →
  ((x36_0 == (4 : Int)) = true →
  ((x36_1 == (0 : Int)) = true →
  ((x42_1 == (0 : Int)) = true →
  Calls Tryd.prog 18 #[(.pointer x18_0), (.pointer x42_0)] w8 (Ret fun v_8 w9 => ∃ (x83 : Bool), v_8 = (.bool x83) ∧
  R (.bool x83) w9)) ∧
  ((x42_1 == (0 : Int)) = false →
  R (.bool false) w8)) ∧
  ((x36_1 == (0 : Int)) = false →
  R (.bool false) w8)) ∧
  ((x36_0 == (4 : Int)) = false →
  R (.bool false) w8)) ∧
  ((x65.toList == (ByteArray.mk #[100, 111, 119, 110, 32, 48]).toList) = false →
  R (.bool false) w8))) ∧
  ((((x550 == (1 : Int)) && ((x551 == (0 : Int)) && true)) && ((x552 == (1 : Int)) && ((x553 == (3 : Int)) && true))) = false →
  R (.bool false) w7)) ∧
  ((((x30_0N : Nat) : Int) == (2 : Int)) = false →
  R (.bool false) w7)) ∧
  ((x30_1 == (0 : Int)) = false →
  R (.bool false) w7))))))))))
theorem coadjutorlaw39_awake.vc_eq (w : World) (R : Value → World → Prop) : fnV Tryd.prog Tryd.f5 (.at_ 3 2 (.k .nil) (.c .nil (.at_ 8 2 (.at_ 8 7 (.at_ 8 15 (.at_ 8 23 (.at_ 8 27 (.at_ 8 31 (.at_ 8 35 .nil .nil) .nil) .nil) .nil) .nil) .nil) .nil))) [] w R = coadjutorlaw39_awake.vc  w R := by kernel_rfl
theorem coadjutorlaw39_awake.calls {w : World} {R : Value → World → Prop} (h : coadjutorlaw39_awake.vc  w R) : Calls Tryd.prog 5 #[] w (Ret R) :=
  calls_V fit Tryd.func5 (.at_ 3 2 (.k .nil) (.c .nil (.at_ 8 2 (.at_ 8 7 (.at_ 8 15 (.at_ 8 23 (.at_ 8 27 (.at_ 8 31 (.at_ 8 35 .nil .nil) .nil) .nil) .nil) .nil) .nil) .nil))) (by rw [show (#[] : Array Value).toList = [] from rfl, coadjutorlaw39_awake.vc_eq]; exact h)
/-- function 4 -/
def coadjutorlaw39_LensCounts.vc (c0 : Int) (c1 : Int) (c2 : Int) (c3 : Int) (c4 : Int) (c5 : Int) (va : ByteArray) (atA : Option Addr) (atN : Nat) (atC : Nat) (vby : Int) (w : World) (R : Value → World → Prop) : Prop :=
  ∀ w1 : World, w1 = w.alloc (.cells #[(.int .i64 c0), (.int .i64 c1), (.int .i64 c2), (.int .i64 c3), (.int .i64 c4), (.int .i64 c5)] 23 (0, 0)) →
  Calls Tryd.prog 5 #[] w1 (Ret fun v w2 => ∃ (x25 : Bool), v = (.bool x25) ∧
  ((!x25) = true →
  R (.bool false) w2) ∧
  ((!x25) = false →
  (decide (((va.size : Nat) : Int) > (1024 : Int)) = true →
  R (.bool true) w2) ∧
  (decide (((va.size : Nat) : Int) > (1024 : Int)) = false →
  (decide (((atN : Nat) : Int) > (20 : Int)) = true →
  R (.bool true) w2) ∧
  (decide (((atN : Nat) : Int) > (20 : Int)) = false →
  ∃ (x360 : Int), ∃ (x361 : Int), ∃ (x362 : Int), ∃ (x363 : Int), ∃ (x364 : Int), ∃ (x365 : Int), (w2.cell? (⟨w.heap.size, 0, none⟩ : Addr) = some (.int .i64 x360) ∧ w2.cell? (⟨w.heap.size, 1, none⟩ : Addr) = some (.int .i64 x361) ∧ w2.cell? (⟨w.heap.size, 2, none⟩ : Addr) = some (.int .i64 x362) ∧ w2.cell? (⟨w.heap.size, 3, none⟩ : Addr) = some (.int .i64 x363) ∧ w2.cell? (⟨w.heap.size, 4, none⟩ : Addr) = some (.int .i64 x364) ∧ w2.cell? (⟨w.heap.size, 5, none⟩ : Addr) = some (.int .i64 x365)) ∧
  Calls Tryd.prog 6 #[(.agg #[(.int .i64 x360), (.int .i64 x361), (.int .i64 x362), (.int .i64 x363), (.int .i64 x364), (.int .i64 x365)]), (.string va)] w2 (Ret fun v_1 w3 => ∃ (x38_0 : Option Addr), ∃ (x38_1 : Int), v_1 = (.tuple #[(.pointer x38_0), (.int .i64 x38_1)]) ∧
  ((x38_1 != (0 : Int)) = true →
  R (.bool true) w3) ∧
  ((x38_1 != (0 : Int)) = false →
  ∃ (x44A : Option Addr), ∃ (x44N : Nat), ∃ (x44C : Nat), ∃ w4 : World, (convert 9 51 (.string va)).run Tryd.prog w3 = .ok (.slice x44A x44N x44C) w4 ∧
  ∃ vI : Int → Nat → World → Prop, (∃ vk_2 : Nat, vI 0 vk_2 w4) ∧
  ∀ (jk : Nat → Value) (i : Int), ∀ (vk : Nat) (w5 : World), vI i vk w5 →
  (decide (i < ((atN : Nat) : Int)) = true →
  (0 ≤ i ∧ i < ((atN : Nat) : Int)) ∧ someV atA fun p =>
  ∃ (x54 : Int), w5.cell? (p.add (i.toNat * 1)) = some (.int .i64 x54) ∧
  (IntKind.u64.wrap ((x44N : Nat) : Int)) ≠ 0 ∧
  (0 ≤ (IntKind.i64.wrap (Int.tmod (IntKind.u64.wrap x54) (IntKind.u64.wrap ((x44N : Nat) : Int)))) ∧ (IntKind.i64.wrap (Int.tmod (IntKind.u64.wrap x54) (IntKind.u64.wrap ((x44N : Nat) : Int)))) < ((x44N : Nat) : Int)) ∧ someV x44A fun p_1 =>
  ∃ (x66 : Int), w5.cell? (p_1.add ((IntKind.i64.wrap (Int.tmod (IntKind.u64.wrap x54) (IntKind.u64.wrap ((x44N : Nat) : Int)))).toNat * 1)) = some (.int .u8 x66) ∧
  (255 : Int) ≠ 0 ∧
  (0 ≤ (IntKind.i64.wrap (Int.tmod (IntKind.u64.wrap x54) (IntKind.u64.wrap ((x44N : Nat) : Int)))) ∧ (IntKind.i64.wrap (Int.tmod (IntKind.u64.wrap x54) (IntKind.u64.wrap ((x44N : Nat) : Int)))) < ((x44N : Nat) : Int)) ∧ someV x44A fun p_2 =>
  (((∃ u, w5.cell? (p_2.add ((IntKind.i64.wrap (Int.tmod (IntKind.u64.wrap x54) (IntKind.u64.wrap ((x44N : Nat) : Int)))).toNat * 1)) = some u) ∧ w5.frozen? (p_2.add ((IntKind.i64.wrap (Int.tmod (IntKind.u64.wrap x54) (IntKind.u64.wrap ((x44N : Nat) : Int)))).toNat * 1)) = false)) ∧ ∀ w6 : World, w6 = (w5.setCell (p_2.add ((IntKind.i64.wrap (Int.tmod (IntKind.u64.wrap x54) (IntKind.u64.wrap ((x44N : Nat) : Int)))).toNat * 1)) (.int .u8 (Go.bits .xor .u8 x66 (IntKind.u8.wrap (IntKind.i64.wrap (1 + (IntKind.i64.wrap (Int.tmod (IntKind.u64.wrap vby) 255)))))))) →
  ∃ vk_1 : Nat, vk_1 < vk ∧ vI (IntKind.i64.wrap (i + 1)) vk_1 w6) ∧
  (decide (i < ((atN : Nat) : Int)) = false →
  ∃ (x760 : Int), ∃ (x761 : Int), ∃ (x762 : Int), ∃ (x763 : Int), ∃ (x764 : Int), ∃ (x765 : Int), (w5.cell? (⟨w.heap.size, 0, none⟩ : Addr) = some (.int .i64 x760) ∧ w5.cell? (⟨w.heap.size, 1, none⟩ : Addr) = some (.int .i64 x761) ∧ w5.cell? (⟨w.heap.size, 2, none⟩ : Addr) = some (.int .i64 x762) ∧ w5.cell? (⟨w.heap.size, 3, none⟩ : Addr) = some (.int .i64 x763) ∧ w5.cell? (⟨w.heap.size, 4, none⟩ : Addr) = some (.int .i64 x764) ∧ w5.cell? (⟨w.heap.size, 5, none⟩ : Addr) = some (.int .i64 x765)) ∧
  ∃ (x78 : ByteArray), ∃ w7 : World, (convert 51 9 (.slice x44A x44N x44C)).run Tryd.prog w5 = .ok (.string x78) w7 ∧
  Calls Tryd.prog 6 #[(.agg #[(.int .i64 x760), (.int .i64 x761), (.int .i64 x762), (.int .i64 x763), (.int .i64 x764), (.int .i64 x765)]), (.string x78)] w7 (Ret fun v_2 w8 => ∃ (x79_0 : Option Addr), ∃ (x79_1 : Int), v_2 = (.tuple #[(.pointer x79_0), (.int .i64 x79_1)]) ∧
  ((x79_1 != (0 : Int)) = true →
  R (.bool false) w8) ∧
  ((x79_1 != (0 : Int)) = false →
  ∃ vI_1 : Int → Int → Nat → World → Prop, (∃ vk_5 : Nat, vI_1 0 0 vk_5 w8) ∧
  ∀ (jk : Nat → Value) (differ : Int) (i_1 : Int), ∀ (vk_3 : Nat) (w9 : World), vI_1 differ i_1 vk_3 w9 →
  (decide (i_1 < ((x44N : Nat) : Int)) = true →
  ∃ vS : World → Prop, ∀ w10 : World, w10 = w9.drew → vS w10 ∧
  (0 ≤ i_1 ∧ i_1 < ((x44N : Nat) : Int)) ∧ someV x44A fun p_3 =>
  ∃ (x93 : Int), (∀ w11, vS w11 → w11.cell? (p_3.add (i_1.toNat * 1)) = some (.int .u8 x93)) ∧
  (0 ≤ i_1 ∧ i_1 < ((va.size : Nat) : Int)) ∧
  ((x93 != (bt va i_1)) = true →
  ∃ vk_4 : Nat, vk_4 < vk_3 ∧ vI_1 (IntKind.i64.wrap (differ + 1)) (IntKind.i64.wrap (i_1 + 1)) vk_4 w10) ∧
  ((x93 != (bt va i_1)) = false →
  ∃ vk_4 : Nat, vk_4 < vk_3 ∧ vI_1 differ (IntKind.i64.wrap (i_1 + 1)) vk_4 w10)) ∧
  (decide (i_1 < ((x44N : Nat) : Int)) = false →
  Calls Tryd.prog 7 #[(.pointer x38_0), (.pointer x79_0)] w9 (Ret fun v_3 w12 => ∃ (x103_0A : Option Addr), ∃ (x103_0N : Nat), ∃ (x103_0C : Nat), ∃ (x103_1 : Int), v_3 = (.tuple #[(.slice x103_0A x103_0N x103_0C), (.int .i64 x103_1)]) ∧
  Calls Tryd.prog 8 #[(.pointer x38_0), (.pointer x79_0)] w12 (Ret fun v_4 w13 => ∃ (x109_0 : Int), ∃ (x109_1 : Int), v_4 = (.tuple #[(.int .i64 x109_0), (.int .i64 x109_1)]) ∧
  ∃ vI_2 : Int → Int → Int → Nat → World → Prop, (∃ vk_8 : Nat, vI_2 0 0 0 vk_8 w13) ∧
  ∀ (jk : Nat → Value) (count : Int) (most : Int) (i_2 : Int), ∀ (vk_6 : Nat) (w14 : World), vI_2 count most i_2 vk_6 w14 →
  (decide (i_2 < ((x103_0N : Nat) : Int)) = true →
  (0 ≤ i_2 ∧ i_2 < ((x103_0N : Nat) : Int)) ∧ someV x103_0A fun p_4 =>
  ∃ (x123 : Int), w14.cell? ((p_4.add (i_2.toNat * 4)).add 2) = some (.int .i64 x123) ∧
  (0 ≤ i_2 ∧ i_2 < ((x103_0N : Nat) : Int)) ∧ someV x103_0A fun p_5 =>
  ∃ (x130 : Int), w14.cell? ((p_5.add (i_2.toNat * 4)).add 3) = some (.int .i64 x130) ∧
  (0 ≤ i_2 ∧ i_2 < ((x103_0N : Nat) : Int)) ∧ someV x103_0A fun p_6 =>
  ∃ (x136 : Int), w14.cell? ((p_6.add (i_2.toNat * 4)).add 2) = some (.int .i64 x136) ∧
  (decide (x136 < (1 : Int)) = true →
  R (.bool false) w14) ∧
  (decide (x136 < (1 : Int)) = false →
  (0 ≤ i_2 ∧ i_2 < ((x103_0N : Nat) : Int)) ∧ someV x103_0A fun p_7 =>
  ∃ (x143 : Int), w14.cell? ((p_7.add (i_2.toNat * 4)).add 3) = some (.int .i64 x143) ∧
  (decide (x143 < (1 : Int)) = true →
  R (.bool false) w14) ∧
  (decide (x143 < (1 : Int)) = false →
  (0 ≤ i_2 ∧ i_2 < ((x103_0N : Nat) : Int)) ∧ someV x103_0A fun p_8 =>
  ∃ (x151 : Int), w14.cell? ((p_8.add (i_2.toNat * 4)).add 3) = some (.int .i64 x151) ∧
  (decide (x151 > (255 : Int)) = true →
  R (.bool false) w14) ∧
  (decide (x151 > (255 : Int)) = false →
  ∃ vk_7 : Nat, vk_7 < vk_6 ∧ vI_2 (IntKind.i64.wrap (count + x123)) (if x130 > most then x130 else most) (IntKind.i64.wrap (i_2 + 1)) vk_7 w14)))) ∧
  (decide (i_2 < ((x103_0N : Nat) : Int)) = false →
  ((x103_1 == (0 : Int)) = true →
  ((x109_1 == (0 : Int)) = true →
  ((count == differ) = true →
  (decide (x109_0 ≥ most) = true →
  (decide (x109_0 ≥ differ) = true →
  R (.bool (decide (x109_0 ≤ (IntKind.i64.wrap (255 * differ))))) w14) ∧
  (decide (x109_0 ≥ differ) = false →
  R (.bool false) w14)) ∧
  (decide (x109_0 ≥ most) = false →
  R (.bool false) w14)) ∧
  ((count == differ) = false →
  R (.bool false) w14)) ∧
  ((x109_1 == (0 : Int)) = false →
  R (.bool false) w14)) ∧
  ((x103_1 == (0 : Int)) = false →
  R (.bool false) w14))))))))))))))
theorem coadjutorlaw39_LensCounts.vc_eq (c0 : Int) (c1 : Int) (c2 : Int) (c3 : Int) (c4 : Int) (c5 : Int) (va : ByteArray) (atA : Option Addr) (atN : Nat) (atC : Nat) (vby : Int) (w : World) (R : Value → World → Prop) : fnV Tryd.prog Tryd.f4 (.c .nil (.at_ 3 3 (.k .nil) (.c .nil (.c .nil (.lp [(12, some (.int .i64)), (13, none), (45, none), (46, none), (47, none), (48, none), (49, none), (50, none), (51, none), (52, none), (53, none), (54, none), (55, none), (56, none), (57, none), (58, none), (59, none), (60, none), (61, none), (62, none), (63, none), (64, none), (65, none), (66, none), (67, none), (68, none), (69, none), (70, none), (71, none), (72, none), (73, none), (74, none)] (.c .nil (.c .nil (.lp [(16, some (.int .i64)), (17, some (.int .i64)), (84, none), (85, none), (86, none), (87, none), (88, none), (89, none), (90, none), (91, none), (92, none), (93, none), (94, none), (95, none), (96, none), (97, none), (98, none), (99, none)] (.c (.tk 0 (.tk 1 (.tk 2 (.tk 3 (.tk 4 (.tk 5 (.tk 6 (.tk 7 (.fin (.c .nil .nil)))))))))) (.lp [(8, none), (22, some (.int .i64)), (23, some (.int .i64)), (24, some (.int .i64)), (112, none), (113, none), (114, none), (115, none), (116, none), (117, none), (118, none), (119, none), (120, none), (121, none), (122, none), (123, none), (124, none), (125, none), (126, none), (127, none), (128, none), (129, none), (130, none), (131, none), (132, none), (133, none), (134, none), (135, none), (136, none), (137, none), (138, none), (139, none), (140, none), (141, none), (142, none), (143, none), (144, none), (145, none), (146, none), (147, none), (148, none), (149, none), (150, none), (151, none), (152, none), (153, none)] (.c (.at_ 32 6 (.k .nil) (.at_ 32 14 (.k .nil) (.c .nil .nil))) (.at_ 34 2 (.at_ 34 6 (.at_ 34 11 (.at_ 34 16 (.at_ 34 21 .nil .nil) .nil) .nil) .nil) .nil)))))))))))) [(.agg #[(.int .i64 c0), (.int .i64 c1), (.int .i64 c2), (.int .i64 c3), (.int .i64 c4), (.int .i64 c5)]), (.string va), (.slice atA atN atC), (.int .i64 vby)] w R = coadjutorlaw39_LensCounts.vc c0 c1 c2 c3 c4 c5 va atA atN atC vby w R := by kernel_rfl
theorem coadjutorlaw39_LensCounts.calls (c0 : Int) (c1 : Int) (c2 : Int) (c3 : Int) (c4 : Int) (c5 : Int) (va : ByteArray) (atA : Option Addr) (atN : Nat) (atC : Nat) (vby : Int) {w : World} {R : Value → World → Prop} (h : coadjutorlaw39_LensCounts.vc c0 c1 c2 c3 c4 c5 va atA atN atC vby w R) : Calls Tryd.prog 4 #[(.agg #[(.int .i64 c0), (.int .i64 c1), (.int .i64 c2), (.int .i64 c3), (.int .i64 c4), (.int .i64 c5)]), (.string va), (.slice atA atN atC), (.int .i64 vby)] w (Ret R) :=
  calls_V fit Tryd.func4 (.c .nil (.at_ 3 3 (.k .nil) (.c .nil (.c .nil (.lp [(12, some (.int .i64)), (13, none), (45, none), (46, none), (47, none), (48, none), (49, none), (50, none), (51, none), (52, none), (53, none), (54, none), (55, none), (56, none), (57, none), (58, none), (59, none), (60, none), (61, none), (62, none), (63, none), (64, none), (65, none), (66, none), (67, none), (68, none), (69, none), (70, none), (71, none), (72, none), (73, none), (74, none)] (.c .nil (.c .nil (.lp [(16, some (.int .i64)), (17, some (.int .i64)), (84, none), (85, none), (86, none), (87, none), (88, none), (89, none), (90, none), (91, none), (92, none), (93, none), (94, none), (95, none), (96, none), (97, none), (98, none), (99, none)] (.c (.tk 0 (.tk 1 (.tk 2 (.tk 3 (.tk 4 (.tk 5 (.tk 6 (.tk 7 (.fin (.c .nil .nil)))))))))) (.lp [(8, none), (22, some (.int .i64)), (23, some (.int .i64)), (24, some (.int .i64)), (112, none), (113, none), (114, none), (115, none), (116, none), (117, none), (118, none), (119, none), (120, none), (121, none), (122, none), (123, none), (124, none), (125, none), (126, none), (127, none), (128, none), (129, none), (130, none), (131, none), (132, none), (133, none), (134, none), (135, none), (136, none), (137, none), (138, none), (139, none), (140, none), (141, none), (142, none), (143, none), (144, none), (145, none), (146, none), (147, none), (148, none), (149, none), (150, none), (151, none), (152, none), (153, none)] (.c (.at_ 32 6 (.k .nil) (.at_ 32 14 (.k .nil) (.c .nil .nil))) (.at_ 34 2 (.at_ 34 6 (.at_ 34 11 (.at_ 34 16 (.at_ 34 21 .nil .nil) .nil) .nil) .nil) .nil)))))))))))) (by rw [show (#[(.agg #[(.int .i64 c0), (.int .i64 c1), (.int .i64 c2), (.int .i64 c3), (.int .i64 c4), (.int .i64 c5)]), (.string va), (.slice atA atN atC), (.int .i64 vby)] : Array Value).toList = [(.agg #[(.int .i64 c0), (.int .i64 c1), (.int .i64 c2), (.int .i64 c3), (.int .i64 c4), (.int .i64 c5)]), (.string va), (.slice atA atN atC), (.int .i64 vby)] from rfl, coadjutorlaw39_LensCounts.vc_eq]; exact h)
end Go.Proofs.YtbadkcnemcnhfaaDoor.Vc
