import Derived.Test.YtbadkcnemcnhfaaGreatDoorVc
import Derived.Test.YtbadkcnemcnhfaaGreatDoorH
import Derived.Test.YtbadkcnemcnhfaaGreatDoorProg
import Derived.KernelRfl
set_option linter.unusedVariables false
set_option maxRecDepth 100000
namespace Go.Proofs.YtbadkcnemcnhfaaGreatDoor.Vc
open Go Go.Proofs Go.Proofs.YtbadkcnemcnhfaaGreatDoor.V
/-- function 7 -/
def coadjutorlaw39_shape.vc (w : World) (R : Value → World → Prop) : Prop :=
  ∀ w1 : World, w1 = w.alloc (.cells #[(.int .i64 0), (.int .i64 0), (.int .i64 0), (.int .i64 0), (.int .i64 0), (.int .i64 0)] 31 (0, 0)) →
  (((∃ u, w1.cell? (⟨w.heap.size, 0, none⟩ : Addr) = some u) ∧ w1.frozen? (⟨w.heap.size, 0, none⟩ : Addr) = false) ∧ ((∃ u, w1.cell? (⟨w.heap.size, 1, none⟩ : Addr) = some u) ∧ w1.frozen? (⟨w.heap.size, 1, none⟩ : Addr) = false) ∧ ((∃ u, w1.cell? (⟨w.heap.size, 2, none⟩ : Addr) = some u) ∧ w1.frozen? (⟨w.heap.size, 2, none⟩ : Addr) = false) ∧ ((∃ u, w1.cell? (⟨w.heap.size, 3, none⟩ : Addr) = some u) ∧ w1.frozen? (⟨w.heap.size, 3, none⟩ : Addr) = false) ∧ ((∃ u, w1.cell? (⟨w.heap.size, 4, none⟩ : Addr) = some u) ∧ w1.frozen? (⟨w.heap.size, 4, none⟩ : Addr) = false) ∧ ((∃ u, w1.cell? (⟨w.heap.size, 5, none⟩ : Addr) = some u) ∧ w1.frozen? (⟨w.heap.size, 5, none⟩ : Addr) = false)) ∧ ∀ w2 : World, w2 = ((((((w1.setCell (⟨w.heap.size, 0, none⟩ : Addr) (.int .i64 3)).setCell (⟨w.heap.size, 1, none⟩ : Addr) (.int .i64 1)).setCell (⟨w.heap.size, 2, none⟩ : Addr) (.int .i64 1)).setCell (⟨w.heap.size, 3, none⟩ : Addr) (.int .i64 1)).setCell (⟨w.heap.size, 4, none⟩ : Addr) (.int .i64 1)).setCell (⟨w.heap.size, 5, none⟩ : Addr) (.int .i64 5)) →
  ∃ (r00 : Int), ∃ (r01 : Int), ∃ (r02 : Int), ∃ (r03 : Int), ∃ (r04 : Int), ∃ (r05 : Int), (w2.cell? (⟨w.heap.size, 0, none⟩ : Addr) = some (.int .i64 r00) ∧ w2.cell? (⟨w.heap.size, 1, none⟩ : Addr) = some (.int .i64 r01) ∧ w2.cell? (⟨w.heap.size, 2, none⟩ : Addr) = some (.int .i64 r02) ∧ w2.cell? (⟨w.heap.size, 3, none⟩ : Addr) = some (.int .i64 r03) ∧ w2.cell? (⟨w.heap.size, 4, none⟩ : Addr) = some (.int .i64 r04) ∧ w2.cell? (⟨w.heap.size, 5, none⟩ : Addr) = some (.int .i64 r05)) ∧
  R (.agg #[(.int .i64 r00), (.int .i64 r01), (.int .i64 r02), (.int .i64 r03), (.int .i64 r04), (.int .i64 r05)]) w2
theorem coadjutorlaw39_shape.vc_eq (w : World) (R : Value → World → Prop) : fnV Tryz.prog Tryz.f7 .nil [] w R = coadjutorlaw39_shape.vc  w R := by kernel_rfl
theorem coadjutorlaw39_shape.calls {w : World} {R : Value → World → Prop} (h : coadjutorlaw39_shape.vc  w R) : Calls Tryz.prog 7 #[] w (Ret R) :=
  calls_V fit Tryz.func7 .nil (by rw [show (#[] : Array Value).toList = [] from rfl, coadjutorlaw39_shape.vc_eq]; exact h)
/-- function 5 -/
def coadjutorlaw39_awake.vc (w : World) (R : Value → World → Prop) : Prop :=
  Calls Tryz.prog 7 #[] w (Ret fun v w1 => ∃ (x120 : Int), ∃ (x121 : Int), ∃ (x122 : Int), ∃ (x123 : Int), ∃ (x124 : Int), ∃ (x125 : Int), v = (.agg #[(.int .i64 x120), (.int .i64 x121), (.int .i64 x122), (.int .i64 x123), (.int .i64 x124), (.int .i64 x125)]) ∧
  Calls Tryz.prog 6 #[(.agg #[(.int .i64 x120), (.int .i64 x121), (.int .i64 x122), (.int .i64 x123), (.int .i64 x124), (.int .i64 x125)]), (.string (ByteArray.mk #[97, 97, 97, 97, 97, 97, 97, 97, 97, 97, 97, 97, 97, 97, 97, 97, 97, 97]))] w1 (Ret fun v_1 w2 => ∃ (x13_0 : Option Addr), ∃ (x13_1 : Int), v_1 = (.tuple #[(.pointer x13_0), (.int .i64 x13_1)]) ∧
  Calls Tryz.prog 7 #[] w2 (Ret fun v_2 w3 => ∃ (x170 : Int), ∃ (x171 : Int), ∃ (x172 : Int), ∃ (x173 : Int), ∃ (x174 : Int), ∃ (x175 : Int), v_2 = (.agg #[(.int .i64 x170), (.int .i64 x171), (.int .i64 x172), (.int .i64 x173), (.int .i64 x174), (.int .i64 x175)]) ∧
  Calls Tryz.prog 6 #[(.agg #[(.int .i64 x170), (.int .i64 x171), (.int .i64 x172), (.int .i64 x173), (.int .i64 x174), (.int .i64 x175)]), (.string (ByteArray.mk #[97, 97, 97, 97, 100, 97, 97, 97, 97, 97, 97, 97, 97, 97, 97, 97, 98, 97]))] w3 (Ret fun v_3 w4 => ∃ (x18_0 : Option Addr), ∃ (x18_1 : Int), v_3 = (.tuple #[(.pointer x18_0), (.int .i64 x18_1)]) ∧
  ((x13_1 != (0 : Int)) = true →
  R (.bool false) w4) ∧
  ((x13_1 != (0 : Int)) = false →
  ((x18_1 != (0 : Int)) = true →
  R (.bool false) w4) ∧
  ((x18_1 != (0 : Int)) = false →
  Calls Tryz.prog 13 #[(.pointer x13_0), (.pointer x18_0)] w4 (Ret fun v_4 w5 => ∃ (x30_0A : Option Addr), ∃ (x30_0N : Nat), ∃ (x30_0C : Nat), ∃ (x30_1 : Int), v_4 = (.tuple #[(.slice x30_0A x30_0N x30_0C), (.int .i64 x30_1)]) ∧
  Calls Tryz.prog 14 #[(.pointer x13_0), (.pointer x18_0)] w5 (Ret fun v_5 w6 => ∃ (x36_0 : Int), ∃ (x36_1 : Int), v_5 = (.tuple #[(.int .i64 x36_0), (.int .i64 x36_1)]) ∧
  Calls Tryz.prog 15 #[(.pointer x13_0), (.pointer x18_0), (.int .i64 1), (.int .i64 1)] w6 (Ret fun v_6 w7 => ∃ (x42_0 : Option Addr), ∃ (x42_1 : Int), v_6 = (.tuple #[(.pointer x42_0), (.int .i64 x42_1)]) ∧
  ((x30_1 == (0 : Int)) = true →
  ((((x30_0N : Nat) : Int) == (2 : Int)) = true →
  (0 ≤ (0 : Int) ∧ (0 : Int) < ((x30_0N : Nat) : Int)) ∧ someV x30_0A fun p =>
  ∃ (x550 : Int), ∃ (x551 : Int), ∃ (x552 : Int), ∃ (x553 : Int), (w7.cell? p = some (.int .i64 x550) ∧ w7.cell? (p.add 1) = some (.int .i64 x551) ∧ w7.cell? (p.add 2) = some (.int .i64 x552) ∧ w7.cell? (p.add 3) = some (.int .i64 x553)) ∧
  ((((x550 == (1 : Int)) && ((x551 == (0 : Int)) && true)) && ((x552 == (1 : Int)) && ((x553 == (3 : Int)) && true))) = true →
  (0 ≤ (1 : Int) ∧ (1 : Int) < ((x30_0N : Nat) : Int)) ∧ someV x30_0A fun p_1 =>
  ∃ (x640 : Int), ∃ (x641 : Int), (w7.cell? (p_1.add 4) = some (.int .i64 x640) ∧ w7.cell? (p_1.add 5) = some (.int .i64 x641)) ∧
  Calls Tryz.prog 8 #[(.agg #[(.int .i64 x640), (.int .i64 x641)])] w7 (Ret fun v_7 w8 => ∃ (x65 : ByteArray), v_7 = (.string x65) ∧
  ((x65.toList == (ByteArray.mk #[100, 111, 119, 110, 32, 48]).toList) = true →
  ((x36_0 == (4 : Int)) = true →
  ((x36_1 == (0 : Int)) = true →
  ((x42_1 == (0 : Int)) = true →
  Calls Tryz.prog 16 #[(.pointer x18_0), (.pointer x42_0)] w8 (Ret fun v_8 w9 => ∃ (x83 : Bool), v_8 = (.bool x83) ∧
  R (.bool x83) w9)) ∧
  ((x42_1 == (0 : Int)) = false →
  R (.bool false) w8)) ∧
  ((x36_1 == (0 : Int)) = false →
  R (.bool false) w8)) ∧
  ((x36_0 == (4 : Int)) = false →
  R (.bool false) w8)) ∧
  ((x65.toList == (ByteArray.mk #[100, 111, 119, 110, 32, 48]).toList) = false →
  R (.bool false) w8))) ∧
  ((((x550 == (1 : Int)) && ((x551 == (0 : Int)) && true)) && ((x552 == (1 : Int)) && ((x553 == (3 : Int)) && true))) = false →
  R (.bool false) w7)) ∧
  ((((x30_0N : Nat) : Int) == (2 : Int)) = false →
  R (.bool false) w7)) ∧
  ((x30_1 == (0 : Int)) = false →
  R (.bool false) w7))))))))))
theorem coadjutorlaw39_awake.vc_eq (w : World) (R : Value → World → Prop) : fnV Tryz.prog Tryz.f5 (.at_ 3 2 (.k .nil) (.c .nil (.at_ 8 2 (.at_ 8 7 (.at_ 8 15 (.at_ 8 23 (.at_ 8 27 (.at_ 8 31 (.at_ 8 35 .nil .nil) .nil) .nil) .nil) .nil) .nil) .nil))) [] w R = coadjutorlaw39_awake.vc  w R := by kernel_rfl
theorem coadjutorlaw39_awake.calls {w : World} {R : Value → World → Prop} (h : coadjutorlaw39_awake.vc  w R) : Calls Tryz.prog 5 #[] w (Ret R) :=
  calls_V fit Tryz.func5 (.at_ 3 2 (.k .nil) (.c .nil (.at_ 8 2 (.at_ 8 7 (.at_ 8 15 (.at_ 8 23 (.at_ 8 27 (.at_ 8 31 (.at_ 8 35 .nil .nil) .nil) .nil) .nil) .nil) .nil) .nil))) (by rw [show (#[] : Array Value).toList = [] from rfl, coadjutorlaw39_awake.vc_eq]; exact h)
/-- function 10 -/
def lens_Agree.vc (aB : Nat) (bB : Nat) (most : Int) (promptsA : Option Addr) (promptsN : Nat) (promptsC : Nat) (w : World) (R : Value → World → Prop) : Prop :=
  ∃ vI : Int → Int → Nat → World → Prop, (∃ vk_2 : Nat, vI 0 0 vk_2 w) ∧
  ∀ (jk : Nat → Value) (n : Int) (x25 : Int), ∀ (vk : Nat) (w1 : World), vI n x25 vk w1 →
  (decide (x25 < ((promptsN : Nat) : Int)) = true →
  (0 ≤ x25 ∧ x25 < ((promptsN : Nat) : Int)) ∧ someV promptsA fun p =>
  ∃ (x28A : Option Addr), ∃ (x28N : Nat), ∃ (x28C : Nat), w1.cell? (p.add (x25.toNat * 1)) = some (.slice x28A x28N x28C) ∧
  Calls Tryz.prog 21 #[(.pointer (some (⟨aB, 0, none⟩ : Addr))), (.slice x28A x28N x28C), (.int .i64 most)] w1 (Ret fun v w2 => ∃ (x33_0A : Option Addr), ∃ (x33_0N : Nat), ∃ (x33_0C : Nat), ∃ (x33_1 : Int), v = (.tuple #[(.slice x33_0A x33_0N x33_0C), (.int .i64 x33_1)]) ∧
  Calls Tryz.prog 21 #[(.pointer (some (⟨bB, 0, none⟩ : Addr))), (.slice x28A x28N x28C), (.int .i64 most)] w2 (Ret fun v_1 w3 => ∃ (x40_0A : Option Addr), ∃ (x40_0N : Nat), ∃ (x40_0C : Nat), ∃ (x40_1 : Int), v_1 = (.tuple #[(.slice x40_0A x40_0N x40_0C), (.int .i64 x40_1)]) ∧
  ((x33_1 == (0 : Int)) = true →
  ((x40_1 == (0 : Int)) = true →
  Calls Tryz.prog 22 #[(.slice x33_0A x33_0N x33_0C), (.slice x40_0A x40_0N x40_0C)] w3 (Ret fun v_2 w4 => ∃ (x52 : Bool), v_2 = (.bool x52) ∧
  (x52 = true →
  ∃ vk_1 : Nat, vk_1 < vk ∧ vI (IntKind.i64.wrap (n + 1)) (IntKind.i64.wrap (x25 + 1)) vk_1 w4) ∧
  (x52 = false →
  ∃ vk_1 : Nat, vk_1 < vk ∧ vI n (IntKind.i64.wrap (x25 + 1)) vk_1 w4))) ∧
  ((x40_1 == (0 : Int)) = false →
  ∃ vk_1 : Nat, vk_1 < vk ∧ vI n (IntKind.i64.wrap (x25 + 1)) vk_1 w3)) ∧
  ((x33_1 == (0 : Int)) = false →
  ∃ vk_1 : Nat, vk_1 < vk ∧ vI n (IntKind.i64.wrap (x25 + 1)) vk_1 w3)))) ∧
  (decide (x25 < ((promptsN : Nat) : Int)) = false →
  R (.tuple #[(.int .i64 n), (.int .i64 0)]) w1)
theorem lens_Agree.vc_eq (aB : Nat) (bB : Nat) (most : Int) (promptsA : Option Addr) (promptsN : Nat) (promptsC : Nat) (w : World) (R : Value → World → Prop) : fnV Tryz.prog Tryz.f10 (.k (.lp [(10, some (.int .i64)), (12, none), (13, none), (14, none), (15, none), (16, none), (25, some (.int .i64)), (26, none), (27, none), (28, none), (29, none), (30, none), (31, none), (32, none), (33, none), (34, none), (35, none), (36, none), (37, none), (38, none), (39, none), (40, none), (41, none), (42, none), (43, none), (44, none), (45, none), (46, none), (47, none), (48, none), (49, none), (50, none), (51, none), (52, none), (53, none), (54, none), (55, none), (56, none)] (.c (.at_ 9 2 (.at_ 9 6 (.c .nil .nil) (.k .nil)) (.k .nil)) .nil))) [(.pointer (some (⟨aB, 0, none⟩ : Addr))), (.pointer (some (⟨bB, 0, none⟩ : Addr))), (.int .i64 most), (.slice promptsA promptsN promptsC)] w R = lens_Agree.vc aB bB most promptsA promptsN promptsC w R := by kernel_rfl
theorem lens_Agree.calls (aB : Nat) (bB : Nat) (most : Int) (promptsA : Option Addr) (promptsN : Nat) (promptsC : Nat) {w : World} {R : Value → World → Prop} (h : lens_Agree.vc aB bB most promptsA promptsN promptsC w R) : Calls Tryz.prog 10 #[(.pointer (some (⟨aB, 0, none⟩ : Addr))), (.pointer (some (⟨bB, 0, none⟩ : Addr))), (.int .i64 most), (.slice promptsA promptsN promptsC)] w (Ret R) :=
  calls_V fit Tryz.func10 (.k (.lp [(10, some (.int .i64)), (12, none), (13, none), (14, none), (15, none), (16, none), (25, some (.int .i64)), (26, none), (27, none), (28, none), (29, none), (30, none), (31, none), (32, none), (33, none), (34, none), (35, none), (36, none), (37, none), (38, none), (39, none), (40, none), (41, none), (42, none), (43, none), (44, none), (45, none), (46, none), (47, none), (48, none), (49, none), (50, none), (51, none), (52, none), (53, none), (54, none), (55, none), (56, none)] (.c (.at_ 9 2 (.at_ 9 6 (.c .nil .nil) (.k .nil)) (.k .nil)) .nil))) (by rw [show (#[(.pointer (some (⟨aB, 0, none⟩ : Addr))), (.pointer (some (⟨bB, 0, none⟩ : Addr))), (.int .i64 most), (.slice promptsA promptsN promptsC)] : Array Value).toList = [(.pointer (some (⟨aB, 0, none⟩ : Addr))), (.pointer (some (⟨bB, 0, none⟩ : Addr))), (.int .i64 most), (.slice promptsA promptsN promptsC)] from rfl, lens_Agree.vc_eq]; exact h)
/-- function 4 -/
def coadjutorlaw39_LensBetween.vc (c0 : Int) (c1 : Int) (c2 : Int) (c3 : Int) (c4 : Int) (c5 : Int) (va : ByteArray) (b : ByteArray) (num : Int) (den : Int) (w : World) (R : Value → World → Prop) : Prop :=
  ∀ w1 : World, w1 = w.alloc (.cells #[(.int .i64 c0), (.int .i64 c1), (.int .i64 c2), (.int .i64 c3), (.int .i64 c4), (.int .i64 c5)] 31 (0, 0)) →
  Calls Tryz.prog 5 #[] w1 (Ret fun v w2 => ∃ (x29 : Bool), v = (.bool x29) ∧
  ((!x29) = true →
  R (.bool false) w2) ∧
  ((!x29) = false →
  (decide (((va.size : Nat) : Int) > (1024 : Int)) = true →
  R (.bool true) w2) ∧
  (decide (((va.size : Nat) : Int) > (1024 : Int)) = false →
  ∃ (x350 : Int), ∃ (x351 : Int), ∃ (x352 : Int), ∃ (x353 : Int), ∃ (x354 : Int), ∃ (x355 : Int), (w2.cell? (⟨w.heap.size, 0, none⟩ : Addr) = some (.int .i64 x350) ∧ w2.cell? (⟨w.heap.size, 1, none⟩ : Addr) = some (.int .i64 x351) ∧ w2.cell? (⟨w.heap.size, 2, none⟩ : Addr) = some (.int .i64 x352) ∧ w2.cell? (⟨w.heap.size, 3, none⟩ : Addr) = some (.int .i64 x353) ∧ w2.cell? (⟨w.heap.size, 4, none⟩ : Addr) = some (.int .i64 x354) ∧ w2.cell? (⟨w.heap.size, 5, none⟩ : Addr) = some (.int .i64 x355)) ∧
  Calls Tryz.prog 6 #[(.agg #[(.int .i64 x350), (.int .i64 x351), (.int .i64 x352), (.int .i64 x353), (.int .i64 x354), (.int .i64 x355)]), (.string va)] w2 (Ret fun v_1 w3 => ∃ (x37_0 : Option Addr), ∃ (x37_1 : Int), v_1 = (.tuple #[(.pointer x37_0), (.int .i64 x37_1)]) ∧
  ∃ (x410 : Int), ∃ (x411 : Int), ∃ (x412 : Int), ∃ (x413 : Int), ∃ (x414 : Int), ∃ (x415 : Int), (w3.cell? (⟨w.heap.size, 0, none⟩ : Addr) = some (.int .i64 x410) ∧ w3.cell? (⟨w.heap.size, 1, none⟩ : Addr) = some (.int .i64 x411) ∧ w3.cell? (⟨w.heap.size, 2, none⟩ : Addr) = some (.int .i64 x412) ∧ w3.cell? (⟨w.heap.size, 3, none⟩ : Addr) = some (.int .i64 x413) ∧ w3.cell? (⟨w.heap.size, 4, none⟩ : Addr) = some (.int .i64 x414) ∧ w3.cell? (⟨w.heap.size, 5, none⟩ : Addr) = some (.int .i64 x415)) ∧
  Calls Tryz.prog 6 #[(.agg #[(.int .i64 x410), (.int .i64 x411), (.int .i64 x412), (.int .i64 x413), (.int .i64 x414), (.int .i64 x415)]), (.string b)] w3 (Ret fun v_2 w4 => ∃ (x43_0 : Option Addr), ∃ (x43_1 : Int), v_2 = (.tuple #[(.pointer x43_0), (.int .i64 x43_1)]) ∧
  ((x37_1 != (0 : Int)) = true →
  R (.bool true) w4) ∧
  ((x37_1 != (0 : Int)) = false →
  ((x43_1 != (0 : Int)) = true →
  R (.bool true) w4) ∧
  ((x43_1 != (0 : Int)) = false →
  (1000 : Int) ≠ 0 ∧
  (IntKind.u64.wrap (IntKind.i64.wrap ((IntKind.i64.wrap (1 + (IntKind.i64.wrap (Int.tmod (IntKind.u64.wrap den) 1000)))) + 1))) ≠ 0 ∧
  Calls Tryz.prog 15 #[(.pointer x37_0), (.pointer x43_0), (.int .i64 (IntKind.i64.wrap (Int.tmod (IntKind.u64.wrap num) (IntKind.u64.wrap (IntKind.i64.wrap ((IntKind.i64.wrap (1 + (IntKind.i64.wrap (Int.tmod (IntKind.u64.wrap den) 1000)))) + 1)))))), (.int .i64 (IntKind.i64.wrap (1 + (IntKind.i64.wrap (Int.tmod (IntKind.u64.wrap den) 1000)))))] w4 (Ret fun v_3 w5 => ∃ (x69_0 : Option Addr), ∃ (x69_1 : Int), v_3 = (.tuple #[(.pointer x69_0), (.int .i64 x69_1)]) ∧
  ((x69_1 != (0 : Int)) = true →
  R (.bool false) w5) ∧
  ((x69_1 != (0 : Int)) = false →
  Calls Tryz.prog 14 #[(.pointer x37_0), (.pointer x69_0)] w5 (Ret fun v_4 w6 => ∃ (x77_0 : Int), ∃ (x77_1 : Int), v_4 = (.tuple #[(.int .i64 x77_0), (.int .i64 x77_1)]) ∧
  Calls Tryz.prog 14 #[(.pointer x69_0), (.pointer x43_0)] w6 (Ret fun v_5 w7 => ∃ (x83_0 : Int), ∃ (x83_1 : Int), v_5 = (.tuple #[(.int .i64 x83_0), (.int .i64 x83_1)]) ∧
  Calls Tryz.prog 14 #[(.pointer x37_0), (.pointer x43_0)] w7 (Ret fun v_6 w8 => ∃ (x89_0 : Int), ∃ (x89_1 : Int), v_6 = (.tuple #[(.int .i64 x89_0), (.int .i64 x89_1)]) ∧
  Calls Tryz.prog 13 #[(.pointer x37_0), (.pointer x37_0)] w8 (Ret fun v_7 w9 => ∃ (x95_0A : Option Addr), ∃ (x95_0N : Nat), ∃ (x95_0C : Nat), ∃ (x95_1 : Int), v_7 = (.tuple #[(.slice x95_0A x95_0N x95_0C), (.int .i64 x95_1)]) ∧
  ∀ w10 : World, w10 = w9.alloc (.cells #[(.int .i64 0)] 3 (0, 0)) →
  ∀ w11 : World, w11 = w10.alloc (.cells #[(.int .i64 1)] 3 (0, 0)) →
  ∀ w12 : World, w12 = w11.alloc (.cells #[(.slice (some (⟨w9.heap.size, 0, none⟩ : Addr)) 1 1), (.slice (some (⟨w10.heap.size, 0, none⟩ : Addr)) 1 1)] 39 (0, 0)) →
  Calls Tryz.prog 10 #[(.pointer x37_0), (.pointer x37_0), (.int .i64 1), (.slice (some (⟨w11.heap.size, 0, none⟩ : Addr)) 2 2)] w12 (Ret fun v_8 w13 => ∃ (x104_0 : Int), ∃ (x104_1 : Int), v_8 = (.tuple #[(.int .i64 x104_0), (.int .i64 x104_1)]) ∧
  ((x77_1 == (0 : Int)) = true →
  ((x83_1 == (0 : Int)) = true →
  ((x89_1 == (0 : Int)) = true →
  (((IntKind.i64.wrap (x77_0 + x83_0)) == x89_0) = true →
  ((x95_1 == (0 : Int)) = true →
  ((((x95_0N : Nat) : Int) == (0 : Int)) = true →
  ((x104_1 == (0 : Int)) = true →
  ((x104_0 == (2 : Int)) = true →
  R (.bool true) w13) ∧
  ((x104_0 == (2 : Int)) = false →
  ∃ (x142 : Int), w13.cell? (⟨w.heap.size, 5, none⟩ : Addr) = some (.int .i64 x142) ∧
  R (.bool (decide (x142 < (2 : Int)))) w13)) ∧
  ((x104_1 == (0 : Int)) = false →
  R (.bool false) w13)) ∧
  ((((x95_0N : Nat) : Int) == (0 : Int)) = false →
  R (.bool false) w13)) ∧
  ((x95_1 == (0 : Int)) = false →
  R (.bool false) w13)) ∧
  (((IntKind.i64.wrap (x77_0 + x83_0)) == x89_0) = false →
  R (.bool false) w13)) ∧
  ((x89_1 == (0 : Int)) = false →
  R (.bool false) w13)) ∧
  ((x83_1 == (0 : Int)) = false →
  R (.bool false) w13)) ∧
  ((x77_1 == (0 : Int)) = false →
  R (.bool false) w13)))))))))))))))
theorem coadjutorlaw39_LensBetween.vc_eq (c0 : Int) (c1 : Int) (c2 : Int) (c3 : Int) (c4 : Int) (c5 : Int) (va : ByteArray) (b : ByteArray) (num : Int) (den : Int) (w : World) (R : Value → World → Prop) : fnV Tryz.prog Tryz.f4 (.c .nil (.c .nil (.at_ 7 2 (.k .nil) (.c .nil (.c .nil (.at_ 19 2 (.at_ 19 6 (.at_ 19 10 (.at_ 19 17 (.at_ 19 21 (.at_ 19 26 (.at_ 19 30 (.at_ 19 33 .nil .nil) .nil) .nil) .nil) .nil) .nil) .nil) .nil)))))) [(.agg #[(.int .i64 c0), (.int .i64 c1), (.int .i64 c2), (.int .i64 c3), (.int .i64 c4), (.int .i64 c5)]), (.string va), (.string b), (.int .i64 num), (.int .i64 den)] w R = coadjutorlaw39_LensBetween.vc c0 c1 c2 c3 c4 c5 va b num den w R := by kernel_rfl
theorem coadjutorlaw39_LensBetween.calls (c0 : Int) (c1 : Int) (c2 : Int) (c3 : Int) (c4 : Int) (c5 : Int) (va : ByteArray) (b : ByteArray) (num : Int) (den : Int) {w : World} {R : Value → World → Prop} (h : coadjutorlaw39_LensBetween.vc c0 c1 c2 c3 c4 c5 va b num den w R) : Calls Tryz.prog 4 #[(.agg #[(.int .i64 c0), (.int .i64 c1), (.int .i64 c2), (.int .i64 c3), (.int .i64 c4), (.int .i64 c5)]), (.string va), (.string b), (.int .i64 num), (.int .i64 den)] w (Ret R) :=
  calls_V fit Tryz.func4 (.c .nil (.c .nil (.at_ 7 2 (.k .nil) (.c .nil (.c .nil (.at_ 19 2 (.at_ 19 6 (.at_ 19 10 (.at_ 19 17 (.at_ 19 21 (.at_ 19 26 (.at_ 19 30 (.at_ 19 33 .nil .nil) .nil) .nil) .nil) .nil) .nil) .nil) .nil)))))) (by rw [show (#[(.agg #[(.int .i64 c0), (.int .i64 c1), (.int .i64 c2), (.int .i64 c3), (.int .i64 c4), (.int .i64 c5)]), (.string va), (.string b), (.int .i64 num), (.int .i64 den)] : Array Value).toList = [(.agg #[(.int .i64 c0), (.int .i64 c1), (.int .i64 c2), (.int .i64 c3), (.int .i64 c4), (.int .i64 c5)]), (.string va), (.string b), (.int .i64 num), (.int .i64 den)] from rfl, coadjutorlaw39_LensBetween.vc_eq]; exact h)
end Go.Proofs.YtbadkcnemcnhfaaGreatDoor.Vc
