import Derived.Test.YtefidalhijpmdaaVc
import Derived.Test.YtefidalhijpmdaaH
import Derived.Test.YtefidalhijpmdaaProg
import Derived.KernelRfl
set_option linter.unusedVariables false
set_option maxRecDepth 100000
namespace Go.Proofs.Ytefidalhijpmdaa.Vc
open Go Go.Proofs Go.Proofs.Ytefidalhijpmdaa.V
/-- function 7 -/
def coadjutorlaw08_BitsFill.vc (n : Int) (listA : Option Addr) (listN : Nat) (listC : Nat) (w : World) (R : Value → World → Prop) : Prop :=
  Calls Try.prog 27 #[] w (Ret fun v w1 => ∃ (x11 : Bool), v = (.bool x11) ∧
  ((!x11) = true →
  R (.bool false) w1) ∧
  ((!x11) = false →
  (200 : Int) ≠ 0 ∧
  Calls Try.prog 28 #[(.int .i64 (IntKind.i64.wrap (1 + (IntKind.i64.wrap (Int.tmod (IntKind.u64.wrap n) 200)))))] w1 (Ret fun v_1 w2 => ∃ (x19 : Option Addr), v_1 = (.pointer x19) ∧
  ∃ vI : Int → Nat → World → Prop, (∃ vk_2 : Nat, vI 0 vk_2 w2) ∧
  ∀ (jk : Nat → Value) (i : Int), ∀ (vk : Nat) (w3 : World), vI i vk w3 →
  (decide (i < ((listN : Nat) : Int)) = true →
  (decide (i < (40 : Int)) = true →
  (0 ≤ i ∧ i < ((listN : Nat) : Int)) ∧ someV listA fun p =>
  ∃ (x34 : Int), w3.cell? (p.add (i.toNat * 1)) = some (.int .i64 x34) ∧
  (IntKind.u64.wrap (IntKind.i64.wrap (1 + (IntKind.i64.wrap (Int.tmod (IntKind.u64.wrap n) 200))))) ≠ 0 ∧
  ∀ w4 : World, w4 = w3.alloc (.cells #[(.int .i64 (IntKind.i64.wrap (Int.tmod (IntKind.u64.wrap x34) (IntKind.u64.wrap (IntKind.i64.wrap (1 + (IntKind.i64.wrap (Int.tmod (IntKind.u64.wrap n) 200))))))))] 3 (0, 0)) →
  Calls Try.prog 29 #[(.pointer x19), (.slice (some (⟨w3.heap.size, 0, none⟩ : Addr)) 1 1)] w4 (Ret fun v_2 w5 => ∃ (x41 : Int), v_2 = (.int .i64 x41) ∧
  ∃ vk_1 : Nat, vk_1 < vk ∧ vI (IntKind.i64.wrap (i + 1)) vk_1 w5)) ∧
  (decide (i < (40 : Int)) = false →
  Calls Try.prog 30 #[(.pointer x19)] w3 (Ret fun v_3 w6 => ∃ (x44 : Int), v_3 = (.int .i64 x44) ∧
  ∃ vI_1 : Int → Int → Nat → World → Prop, (∃ vk_5 : Nat, vI_1 (IntKind.i64.wrap ((IntKind.i64.wrap (1 + (IntKind.i64.wrap (Int.tmod (IntKind.u64.wrap n) 200)))) - x44)) (-1) vk_5 w6) ∧
  ∀ (jk : Nat → Value) (left : Int) (last : Int), ∀ (vk_3 : Nat) (w7 : World), vI_1 left last vk_3 w7 →
  Calls Try.prog 31 #[(.pointer x19)] w7 (Ret fun v_4 w8 => ∃ (x47 : Int), v_4 = (.int .i64 x47) ∧
  (decide (x47 ≥ (0 : Int)) = true →
  Calls Try.prog 31 #[(.pointer x19)] w8 (Ret fun v_5 w9 => ∃ (x50 : Int), v_5 = (.int .i64 x50) ∧
  (decide (x50 ≤ last) = true →
  R (.bool false) w9) ∧
  (decide (x50 ≤ last) = false →
  ((left == (0 : Int)) = true →
  R (.bool false) w9) ∧
  ((left == (0 : Int)) = false →
  ∀ w10 : World, w10 = w9.alloc (.cells #[(.int .i64 x50)] 3 (0, 0)) →
  Calls Try.prog 32 #[(.pointer x19), (.slice (some (⟨w9.heap.size, 0, none⟩ : Addr)) 1 1)] w10 (Ret fun v_6 w11 => ∃ (x62 : Bool), v_6 = (.bool x62) ∧
  (x62 = true →
  R (.bool false) w11) ∧
  (x62 = false →
  ∀ w12 : World, w12 = w11.alloc (.cells #[(.int .i64 x50)] 3 (0, 0)) →
  Calls Try.prog 29 #[(.pointer x19), (.slice (some (⟨w11.heap.size, 0, none⟩ : Addr)) 1 1)] w12 (Ret fun v_7 w13 => ∃ (x68 : Int), v_7 = (.int .i64 x68) ∧
  ((x68 != (0 : Int)) = true →
  R (.bool false) w13) ∧
  ((x68 != (0 : Int)) = false →
  ∃ vk_4 : Nat, vk_4 < vk_3 ∧ vI_1 (IntKind.i64.wrap (left - 1)) x50 vk_4 w13)))))))) ∧
  (decide (x47 ≥ (0 : Int)) = false →
  ((left == (0 : Int)) = true →
  Calls Try.prog 30 #[(.pointer x19)] w8 (Ret fun v_8 w14 => ∃ (x78 : Int), v_8 = (.int .i64 x78) ∧
  ((x78 == (IntKind.i64.wrap (1 + (IntKind.i64.wrap (Int.tmod (IntKind.u64.wrap n) 200))))) = true →
  Calls Try.prog 33 #[(.pointer x19)] w14 (Ret fun v_9 w15 => ∃ (x84A : Option Addr), ∃ (x84N : Nat), ∃ (x84C : Nat), v_9 = (.slice x84A x84N x84C) ∧
  R (.bool (((x84N : Nat) : Int) == (IntKind.i64.wrap (1 + (IntKind.i64.wrap (Int.tmod (IntKind.u64.wrap n) 200)))))) w15)) ∧
  ((x78 == (IntKind.i64.wrap (1 + (IntKind.i64.wrap (Int.tmod (IntKind.u64.wrap n) 200))))) = false →
  R (.bool false) w14))) ∧
  ((left == (0 : Int)) = false →
  R (.bool false) w8)))))) ∧
  (decide (i < ((listN : Nat) : Int)) = false →
  Calls Try.prog 30 #[(.pointer x19)] w3 (Ret fun v_10 w16 => ∃ (x44_1 : Int), v_10 = (.int .i64 x44_1) ∧
  ∃ vI_2 : Int → Int → Nat → World → Prop, (∃ vk_8 : Nat, vI_2 (IntKind.i64.wrap ((IntKind.i64.wrap (1 + (IntKind.i64.wrap (Int.tmod (IntKind.u64.wrap n) 200)))) - x44_1)) (-1) vk_8 w16) ∧
  ∀ (jk : Nat → Value) (left_1 : Int) (last_1 : Int), ∀ (vk_6 : Nat) (w17 : World), vI_2 left_1 last_1 vk_6 w17 →
  Calls Try.prog 31 #[(.pointer x19)] w17 (Ret fun v_11 w18 => ∃ (x47_1 : Int), v_11 = (.int .i64 x47_1) ∧
  (decide (x47_1 ≥ (0 : Int)) = true →
  Calls Try.prog 31 #[(.pointer x19)] w18 (Ret fun v_12 w19 => ∃ (x50_1 : Int), v_12 = (.int .i64 x50_1) ∧
  (decide (x50_1 ≤ last_1) = true →
  R (.bool false) w19) ∧
  (decide (x50_1 ≤ last_1) = false →
  ((left_1 == (0 : Int)) = true →
  R (.bool false) w19) ∧
  ((left_1 == (0 : Int)) = false →
  ∀ w20 : World, w20 = w19.alloc (.cells #[(.int .i64 x50_1)] 3 (0, 0)) →
  Calls Try.prog 32 #[(.pointer x19), (.slice (some (⟨w19.heap.size, 0, none⟩ : Addr)) 1 1)] w20 (Ret fun v_13 w21 => ∃ (x62_1 : Bool), v_13 = (.bool x62_1) ∧
  (x62_1 = true →
  R (.bool false) w21) ∧
  (x62_1 = false →
  ∀ w22 : World, w22 = w21.alloc (.cells #[(.int .i64 x50_1)] 3 (0, 0)) →
  Calls Try.prog 29 #[(.pointer x19), (.slice (some (⟨w21.heap.size, 0, none⟩ : Addr)) 1 1)] w22 (Ret fun v_14 w23 => ∃ (x68_1 : Int), v_14 = (.int .i64 x68_1) ∧
  ((x68_1 != (0 : Int)) = true →
  R (.bool false) w23) ∧
  ((x68_1 != (0 : Int)) = false →
  ∃ vk_7 : Nat, vk_7 < vk_6 ∧ vI_2 (IntKind.i64.wrap (left_1 - 1)) x50_1 vk_7 w23)))))))) ∧
  (decide (x47_1 ≥ (0 : Int)) = false →
  ((left_1 == (0 : Int)) = true →
  Calls Try.prog 30 #[(.pointer x19)] w18 (Ret fun v_15 w24 => ∃ (x78_1 : Int), v_15 = (.int .i64 x78_1) ∧
  ((x78_1 == (IntKind.i64.wrap (1 + (IntKind.i64.wrap (Int.tmod (IntKind.u64.wrap n) 200))))) = true →
  Calls Try.prog 33 #[(.pointer x19)] w24 (Ret fun v_16 w25 => ∃ (x84A_1 : Option Addr), ∃ (x84N_1 : Nat), ∃ (x84C_1 : Nat), v_16 = (.slice x84A_1 x84N_1 x84C_1) ∧
  R (.bool (((x84N_1 : Nat) : Int) == (IntKind.i64.wrap (1 + (IntKind.i64.wrap (Int.tmod (IntKind.u64.wrap n) 200)))))) w25)) ∧
  ((x78_1 == (IntKind.i64.wrap (1 + (IntKind.i64.wrap (Int.tmod (IntKind.u64.wrap n) 200))))) = false →
  R (.bool false) w24))) ∧
  ((left_1 == (0 : Int)) = false →
  R (.bool false) w18))))))))
theorem coadjutorlaw08_BitsFill.vc_eq (n : Int) (listA : Option Addr) (listN : Nat) (listC : Nat) (w : World) (R : Value → World → Prop) : fnV Try.prog Try.f7 (.c .nil (.lp [(7, some (.int .i64)), (20, none), (21, none), (22, none), (23, none), (24, none), (25, none), (26, none), (27, none), (28, none), (29, none), (30, none), (31, none), (32, none), (33, none), (34, none), (35, none), (36, none), (37, none), (38, none), (39, none), (40, none), (41, none)] (.at_ 6 4 (.c .nil (.lp [(4, none), (8, some (.int .i64)), (9, some (.int .i64)), (10, none), (46, none), (47, none), (48, none), (49, none), (50, none), (51, none), (52, none), (53, none), (54, none), (55, none), (56, none), (57, none), (58, none), (59, none), (60, none), (61, none), (62, none), (63, none), (64, none), (65, none), (66, none), (67, none), (68, none), (69, none), (70, none), (71, none), (72, none), (73, none)] (.c (.at_ 13 3 (.k .nil) (.at_ 13 7 (.k .nil) (.at_ 13 13 (.k .nil) (.c .nil .nil)))) (.at_ 17 2 (.at_ 17 8 .nil .nil) .nil)))) (.k (.lp [(4, none), (8, some (.int .i64)), (9, some (.int .i64)), (10, none), (46, none), (47, none), (48, none), (49, none), (50, none), (51, none), (52, none), (53, none), (54, none), (55, none), (56, none), (57, none), (58, none), (59, none), (60, none), (61, none), (62, none), (63, none), (64, none), (65, none), (66, none), (67, none), (68, none), (69, none), (70, none), (71, none), (72, none), (73, none)] (.c (.at_ 13 3 (.k .nil) (.at_ 13 7 (.k .nil) (.at_ 13 13 (.k .nil) (.c .nil .nil)))) (.at_ 17 2 (.at_ 17 8 .nil .nil) .nil))))))) [(.int .i64 n), (.slice listA listN listC)] w R = coadjutorlaw08_BitsFill.vc n listA listN listC w R := by kernel_rfl
theorem coadjutorlaw08_BitsFill.calls (n : Int) (listA : Option Addr) (listN : Nat) (listC : Nat) {w : World} {R : Value → World → Prop} (h : coadjutorlaw08_BitsFill.vc n listA listN listC w R) : Calls Try.prog 7 #[(.int .i64 n), (.slice listA listN listC)] w (Ret R) :=
  calls_V fit Try.func7 (.c .nil (.lp [(7, some (.int .i64)), (20, none), (21, none), (22, none), (23, none), (24, none), (25, none), (26, none), (27, none), (28, none), (29, none), (30, none), (31, none), (32, none), (33, none), (34, none), (35, none), (36, none), (37, none), (38, none), (39, none), (40, none), (41, none)] (.at_ 6 4 (.c .nil (.lp [(4, none), (8, some (.int .i64)), (9, some (.int .i64)), (10, none), (46, none), (47, none), (48, none), (49, none), (50, none), (51, none), (52, none), (53, none), (54, none), (55, none), (56, none), (57, none), (58, none), (59, none), (60, none), (61, none), (62, none), (63, none), (64, none), (65, none), (66, none), (67, none), (68, none), (69, none), (70, none), (71, none), (72, none), (73, none)] (.c (.at_ 13 3 (.k .nil) (.at_ 13 7 (.k .nil) (.at_ 13 13 (.k .nil) (.c .nil .nil)))) (.at_ 17 2 (.at_ 17 8 .nil .nil) .nil)))) (.k (.lp [(4, none), (8, some (.int .i64)), (9, some (.int .i64)), (10, none), (46, none), (47, none), (48, none), (49, none), (50, none), (51, none), (52, none), (53, none), (54, none), (55, none), (56, none), (57, none), (58, none), (59, none), (60, none), (61, none), (62, none), (63, none), (64, none), (65, none), (66, none), (67, none), (68, none), (69, none), (70, none), (71, none), (72, none), (73, none)] (.c (.at_ 13 3 (.k .nil) (.at_ 13 7 (.k .nil) (.at_ 13 13 (.k .nil) (.c .nil .nil)))) (.at_ 17 2 (.at_ 17 8 .nil .nil) .nil))))))) (by rw [show (#[(.int .i64 n), (.slice listA listN listC)] : Array Value).toList = [(.int .i64 n), (.slice listA listN listC)] from rfl, coadjutorlaw08_BitsFill.vc_eq]; exact h)
/-- function 8 -/
def coadjutorlaw08_BitsExact.vc (n : Int) (actsA : Option Addr) (actsN : Nat) (actsC : Nat) (w : World) (R : Value → World → Prop) : Prop :=
  Calls Try.prog 27 #[] w (Ret fun v w1 => ∃ (x20 : Bool), v = (.bool x20) ∧
  ((!x20) = true →
  R (.bool false) w1) ∧
  ((!x20) = false →
  Calls Try.prog 28 #[(.int .i64 n)] w1 (Ret fun v_1 w2 => ∃ (x23 : Option Addr), v_1 = (.pointer x23) ∧
  (decide (n < (1 : Int)) = true →
  R (.bool x23.isNone) w2) ∧
  (decide (n < (1 : Int)) = false →
  (decide (n > (1024 : Int)) = true →
  R (.bool x23.isNone) w2) ∧
  (decide (n > (1024 : Int)) = false →
  (n = n ∧ 0 ≤ n ∧ n * (1 : Int) ≤ 140737488355328) ∧ ∀ w3 : World, w3 = w2.alloc (.cells (zeroRow [(.bool false)] n.toNat).toArray 4 (0, 0)) →
  ∃ vI : Int → Nat → World → Prop, (∃ vk_2 : Nat, vI 0 vk_2 w3) ∧
  ∀ (jk : Nat → Value) (i : Int), ∀ (vk : Nat) (w4 : World), vI i vk w4 →
  (decide (i < ((actsN : Nat) : Int)) = true →
  (decide (i < (40 : Int)) = true →
  (0 ≤ i ∧ i < ((actsN : Nat) : Int)) ∧ someV actsA fun p =>
  ∃ (x470 : Int), ∃ (x471A : Option Addr), ∃ (x471N : Nat), ∃ (x471C : Nat), (w4.cell? (p.add (i.toNat * 2)) = some (.int .i64 x470) ∧ w4.cell? ((p.add (i.toNat * 2)).add 1) = some (.slice x471A x471N x471C)) ∧
  ∀ w5 : World, w5 = w4.alloc (.cells #[(.int .i64 0), (.slice none 0 0)] 41 (0, 0)) →
  (((∃ u, w5.cell? (⟨w4.heap.size, 0, none⟩ : Addr) = some u) ∧ w5.frozen? (⟨w4.heap.size, 0, none⟩ : Addr) = false) ∧ ((∃ u, w5.cell? (⟨w4.heap.size, 1, none⟩ : Addr) = some u) ∧ w5.frozen? (⟨w4.heap.size, 1, none⟩ : Addr) = false)) ∧ ∀ w6 : World, w6 = ((w5.setCell (⟨w4.heap.size, 0, none⟩ : Addr) (.int .i64 x470)).setCell (⟨w4.heap.size, 1, none⟩ : Addr) (.slice x471A x471N x471C)) →
  ∃ (x49A : Option Addr), ∃ (x49N : Nat), ∃ (x49C : Nat), w6.cell? (⟨w4.heap.size, 1, none⟩ : Addr) = some (.slice x49A x49N x49C) ∧
  (decide (((x49N : Nat) : Int) > (10 : Int)) = true →
  R (.bool true) w6) ∧
  (decide (((x49N : Nat) : Int) > (10 : Int)) = false →
  ∃ (x53 : Int), w6.cell? (⟨w4.heap.size, 0, none⟩ : Addr) = some (.int .i64 x53) ∧
  ((x53 == (3 : Int)) = true →
  ∃ (x57A : Option Addr), ∃ (x57N : Nat), ∃ (x57C : Nat), w6.cell? (⟨w4.heap.size, 1, none⟩ : Addr) = some (.slice x57A x57N x57C) ∧
  Calls Try.prog 34 #[(.pointer x23), (.slice x57A x57N x57C)] w6 (Ret fun v_2 w7 => ∃ (x58 : Int), v_2 = (.int .i64 x58) ∧
  ∃ (x64A : Option Addr), ∃ (x64N : Nat), ∃ (x64C : Nat), w7.cell? (⟨w4.heap.size, 1, none⟩ : Addr) = some (.slice x64A x64N x64C) ∧
  Calls Try.prog 35 #[(.slice x64A x64N x64C), (.int .i64 n)] w7 (Ret fun v_3 w8 => ∃ (x66 : Bool), v_3 = (.bool x66) ∧
  ((!(x66 == (x58 == (0 : Int)))) = true →
  R (.bool false) w8) ∧
  ((!(x66 == (x58 == (0 : Int)))) = false →
  ((!x66) = true →
  ((x58 != (3 : Int)) = true →
  R (.bool false) w8) ∧
  ((x58 != (3 : Int)) = false →
  ∃ vI_1 : Int → Nat → World → Prop, (∃ vk_5 : Nat, vI_1 0 vk_5 w8) ∧
  ∀ (jk : Nat → Value) (vk_6 : Int), ∀ (vk_3 : Nat) (w9 : World), vI_1 vk_6 vk_3 w9 →
  ∃ (x82A : Option Addr), ∃ (x82N : Nat), ∃ (x82C : Nat), w9.cell? (⟨w4.heap.size, 1, none⟩ : Addr) = some (.slice x82A x82N x82C) ∧
  (decide (vk_6 < ((x82N : Nat) : Int)) = true →
  (x66 = true →
  ∃ vS : World → Prop, ∀ w10 : World, w10 = w9.drew → vS w10 ∧
  ∃ (x92A : Option Addr), ∃ (x92N : Nat), ∃ (x92C : Nat), (∀ w11, vS w11 → w11.cell? (⟨w4.heap.size, 1, none⟩ : Addr) = some (.slice x92A x92N x92C)) ∧
  (0 ≤ vk_6 ∧ vk_6 < ((x92N : Nat) : Int)) ∧ someV x92A fun p_1 =>
  ∃ (x95 : Int), (∀ w12, vS w12 → w12.cell? (p_1.add (vk_6.toNat * 1)) = some (.int .i64 x95)) ∧
  ∃ (x97 : Int), (∀ w13, vS w13 → w13.cell? (⟨w4.heap.size, 0, none⟩ : Addr) = some (.int .i64 x97)) ∧
  (0 ≤ x95 ∧ x95 < ((n.toNat : Nat) : Int)) ∧
  (((∃ u, w10.cell? ((⟨w2.heap.size, 0, none⟩ : Addr).add (x95.toNat * 1)) = some u) ∧ w10.frozen? ((⟨w2.heap.size, 0, none⟩ : Addr).add (x95.toNat * 1)) = false)) ∧ ∀ w14 : World, w14 = (w10.setCell ((⟨w2.heap.size, 0, none⟩ : Addr).add (x95.toNat * 1)) (.bool (x97 != (3 : Int)))) →
  vS w14 ∧
  ∃ vk_4 : Nat, vk_4 < vk_3 ∧ vI_1 (IntKind.i64.wrap (vk_6 + 1)) vk_4 w14) ∧
  (x66 = false →
  ∃ vI_2 : Bool → Int → Nat → World → Prop, (∃ vk_9 : Nat, vI_2 x66 0 vk_9 w9) ∧
  ∀ (jk : Nat → Value) (all : Bool) (vk_10 : Int), ∀ (vk_7 : Nat) (w15 : World), vI_2 all vk_10 vk_7 w15 →
  ∃ (x102A : Option Addr), ∃ (x102N : Nat), ∃ (x102C : Nat), w15.cell? (⟨w4.heap.size, 1, none⟩ : Addr) = some (.slice x102A x102N x102C) ∧
  (decide (vk_10 < ((x102N : Nat) : Int)) = true →
  (x66 = true →
  (all = true →
  ∃ (x114A : Option Addr), ∃ (x114N : Nat), ∃ (x114C : Nat), w15.cell? (⟨w4.heap.size, 1, none⟩ : Addr) = some (.slice x114A x114N x114C) ∧
  (0 ≤ vk_10 ∧ vk_10 < ((x114N : Nat) : Int)) ∧ someV x114A fun p_2 =>
  ∃ (x117 : Int), w15.cell? (p_2.add (vk_10.toNat * 1)) = some (.int .i64 x117) ∧
  (0 ≤ x117 ∧ x117 < ((n.toNat : Nat) : Int)) ∧
  ∃ (x119 : Bool), w15.cell? ((⟨w2.heap.size, 0, none⟩ : Addr).add (x117.toNat * 1)) = some (.bool x119) ∧
  ∃ vk_8 : Nat, vk_8 < vk_7 ∧ vI_2 x119 (IntKind.i64.wrap (vk_10 + 1)) vk_8 w15) ∧
  (all = false →
  ∃ vk_8 : Nat, vk_8 < vk_7 ∧ vI_2 false (IntKind.i64.wrap (vk_10 + 1)) vk_8 w15)) ∧
  (x66 = false →
  ∃ (x123A : Option Addr), ∃ (x123N : Nat), ∃ (x123C : Nat), w15.cell? (⟨w4.heap.size, 1, none⟩ : Addr) = some (.slice x123A x123N x123C) ∧
  Calls Try.prog 32 #[(.pointer x23), (.slice x123A x123N x123C)] w15 (Ret fun v_4 w16 => ∃ (x124 : Bool), v_4 = (.bool x124) ∧
  ((!(x124 == all)) = true →
  R (.bool false) w16) ∧
  ((!(x124 == all)) = false →
  ∃ vk_1 : Nat, vk_1 < vk ∧ vI (IntKind.i64.wrap (i + 1)) vk_1 w16)))) ∧
  (decide (vk_10 < ((x102N : Nat) : Int)) = false →
  ∃ (x123A_1 : Option Addr), ∃ (x123N_1 : Nat), ∃ (x123C_1 : Nat), w15.cell? (⟨w4.heap.size, 1, none⟩ : Addr) = some (.slice x123A_1 x123N_1 x123C_1) ∧
  Calls Try.prog 32 #[(.pointer x23), (.slice x123A_1 x123N_1 x123C_1)] w15 (Ret fun v_5 w17 => ∃ (x124_1 : Bool), v_5 = (.bool x124_1) ∧
  ((!(x124_1 == all)) = true →
  R (.bool false) w17) ∧
  ((!(x124_1 == all)) = false →
  ∃ vk_1 : Nat, vk_1 < vk ∧ vI (IntKind.i64.wrap (i + 1)) vk_1 w17))))) ∧
  (decide (vk_6 < ((x82N : Nat) : Int)) = false →
  ∃ vI_3 : Bool → Int → Nat → World → Prop, (∃ vk_13 : Nat, vI_3 x66 0 vk_13 w9) ∧
  ∀ (jk : Nat → Value) (all_1 : Bool) (vk_14 : Int), ∀ (vk_11 : Nat) (w18 : World), vI_3 all_1 vk_14 vk_11 w18 →
  ∃ (x102A_1 : Option Addr), ∃ (x102N_1 : Nat), ∃ (x102C_1 : Nat), w18.cell? (⟨w4.heap.size, 1, none⟩ : Addr) = some (.slice x102A_1 x102N_1 x102C_1) ∧
  (decide (vk_14 < ((x102N_1 : Nat) : Int)) = true →
  (x66 = true →
  (all_1 = true →
  ∃ (x114A_1 : Option Addr), ∃ (x114N_1 : Nat), ∃ (x114C_1 : Nat), w18.cell? (⟨w4.heap.size, 1, none⟩ : Addr) = some (.slice x114A_1 x114N_1 x114C_1) ∧
  (0 ≤ vk_14 ∧ vk_14 < ((x114N_1 : Nat) : Int)) ∧ someV x114A_1 fun p_3 =>
  ∃ (x117_1 : Int), w18.cell? (p_3.add (vk_14.toNat * 1)) = some (.int .i64 x117_1) ∧
  (0 ≤ x117_1 ∧ x117_1 < ((n.toNat : Nat) : Int)) ∧
  ∃ (x119_1 : Bool), w18.cell? ((⟨w2.heap.size, 0, none⟩ : Addr).add (x117_1.toNat * 1)) = some (.bool x119_1) ∧
  ∃ vk_12 : Nat, vk_12 < vk_11 ∧ vI_3 x119_1 (IntKind.i64.wrap (vk_14 + 1)) vk_12 w18) ∧
  (all_1 = false →
  ∃ vk_12 : Nat, vk_12 < vk_11 ∧ vI_3 false (IntKind.i64.wrap (vk_14 + 1)) vk_12 w18)) ∧
  (x66 = false →
  ∃ (x123A_2 : Option Addr), ∃ (x123N_2 : Nat), ∃ (x123C_2 : Nat), w18.cell? (⟨w4.heap.size, 1, none⟩ : Addr) = some (.slice x123A_2 x123N_2 x123C_2) ∧
  Calls Try.prog 32 #[(.pointer x23), (.slice x123A_2 x123N_2 x123C_2)] w18 (Ret fun v_6 w19 => ∃ (x124_2 : Bool), v_6 = (.bool x124_2) ∧
  ((!(x124_2 == all_1)) = true →
  R (.bool false) w19) ∧
  ((!(x124_2 == all_1)) = false →
  ∃ vk_1 : Nat, vk_1 < vk ∧ vI (IntKind.i64.wrap (i + 1)) vk_1 w19)))) ∧
  (decide (vk_14 < ((x102N_1 : Nat) : Int)) = false →
  ∃ (x123A_3 : Option Addr), ∃ (x123N_3 : Nat), ∃ (x123C_3 : Nat), w18.cell? (⟨w4.heap.size, 1, none⟩ : Addr) = some (.slice x123A_3 x123N_3 x123C_3) ∧
  Calls Try.prog 32 #[(.pointer x23), (.slice x123A_3 x123N_3 x123C_3)] w18 (Ret fun v_7 w20 => ∃ (x124_3 : Bool), v_7 = (.bool x124_3) ∧
  ((!(x124_3 == all_1)) = true →
  R (.bool false) w20) ∧
  ((!(x124_3 == all_1)) = false →
  ∃ vk_1 : Nat, vk_1 < vk ∧ vI (IntKind.i64.wrap (i + 1)) vk_1 w20)))))) ∧
  ((!x66) = false →
  ∃ vI_4 : Int → Nat → World → Prop, (∃ vk_17 : Nat, vI_4 0 vk_17 w8) ∧
  ∀ (jk : Nat → Value) (vk_18 : Int), ∀ (vk_15 : Nat) (w21 : World), vI_4 vk_18 vk_15 w21 →
  ∃ (x82A_1 : Option Addr), ∃ (x82N_1 : Nat), ∃ (x82C_1 : Nat), w21.cell? (⟨w4.heap.size, 1, none⟩ : Addr) = some (.slice x82A_1 x82N_1 x82C_1) ∧
  (decide (vk_18 < ((x82N_1 : Nat) : Int)) = true →
  (x66 = true →
  ∃ vS_1 : World → Prop, ∀ w22 : World, w22 = w21.drew → vS_1 w22 ∧
  ∃ (x92A_1 : Option Addr), ∃ (x92N_1 : Nat), ∃ (x92C_1 : Nat), (∀ w23, vS_1 w23 → w23.cell? (⟨w4.heap.size, 1, none⟩ : Addr) = some (.slice x92A_1 x92N_1 x92C_1)) ∧
  (0 ≤ vk_18 ∧ vk_18 < ((x92N_1 : Nat) : Int)) ∧ someV x92A_1 fun p_4 =>
  ∃ (x95_1 : Int), (∀ w24, vS_1 w24 → w24.cell? (p_4.add (vk_18.toNat * 1)) = some (.int .i64 x95_1)) ∧
  ∃ (x97_1 : Int), (∀ w25, vS_1 w25 → w25.cell? (⟨w4.heap.size, 0, none⟩ : Addr) = some (.int .i64 x97_1)) ∧
  (0 ≤ x95_1 ∧ x95_1 < ((n.toNat : Nat) : Int)) ∧
  (((∃ u, w22.cell? ((⟨w2.heap.size, 0, none⟩ : Addr).add (x95_1.toNat * 1)) = some u) ∧ w22.frozen? ((⟨w2.heap.size, 0, none⟩ : Addr).add (x95_1.toNat * 1)) = false)) ∧ ∀ w26 : World, w26 = (w22.setCell ((⟨w2.heap.size, 0, none⟩ : Addr).add (x95_1.toNat * 1)) (.bool (x97_1 != (3 : Int)))) →
  vS_1 w26 ∧
  ∃ vk_16 : Nat, vk_16 < vk_15 ∧ vI_4 (IntKind.i64.wrap (vk_18 + 1)) vk_16 w26) ∧
  (x66 = false →
  ∃ vI_5 : Bool → Int → Nat → World → Prop, (∃ vk_21 : Nat, vI_5 x66 0 vk_21 w21) ∧
  ∀ (jk : Nat → Value) (all_2 : Bool) (vk_22 : Int), ∀ (vk_19 : Nat) (w27 : World), vI_5 all_2 vk_22 vk_19 w27 →
  ∃ (x102A_2 : Option Addr), ∃ (x102N_2 : Nat), ∃ (x102C_2 : Nat), w27.cell? (⟨w4.heap.size, 1, none⟩ : Addr) = some (.slice x102A_2 x102N_2 x102C_2) ∧
  (decide (vk_22 < ((x102N_2 : Nat) : Int)) = true →
  (x66 = true →
  (all_2 = true →
  ∃ (x114A_2 : Option Addr), ∃ (x114N_2 : Nat), ∃ (x114C_2 : Nat), w27.cell? (⟨w4.heap.size, 1, none⟩ : Addr) = some (.slice x114A_2 x114N_2 x114C_2) ∧
  (0 ≤ vk_22 ∧ vk_22 < ((x114N_2 : Nat) : Int)) ∧ someV x114A_2 fun p_5 =>
  ∃ (x117_2 : Int), w27.cell? (p_5.add (vk_22.toNat * 1)) = some (.int .i64 x117_2) ∧
  (0 ≤ x117_2 ∧ x117_2 < ((n.toNat : Nat) : Int)) ∧
  ∃ (x119_2 : Bool), w27.cell? ((⟨w2.heap.size, 0, none⟩ : Addr).add (x117_2.toNat * 1)) = some (.bool x119_2) ∧
  ∃ vk_20 : Nat, vk_20 < vk_19 ∧ vI_5 x119_2 (IntKind.i64.wrap (vk_22 + 1)) vk_20 w27) ∧
  (all_2 = false →
  ∃ vk_20 : Nat, vk_20 < vk_19 ∧ vI_5 false (IntKind.i64.wrap (vk_22 + 1)) vk_20 w27)) ∧
  (x66 = false →
  ∃ (x123A_4 : Option Addr), ∃ (x123N_4 : Nat), ∃ (x123C_4 : Nat), w27.cell? (⟨w4.heap.size, 1, none⟩ : Addr) = some (.slice x123A_4 x123N_4 x123C_4) ∧
  Calls Try.prog 32 #[(.pointer x23), (.slice x123A_4 x123N_4 x123C_4)] w27 (Ret fun v_8 w28 => ∃ (x124_4 : Bool), v_8 = (.bool x124_4) ∧
  ((!(x124_4 == all_2)) = true →
  R (.bool false) w28) ∧
  ((!(x124_4 == all_2)) = false →
  ∃ vk_1 : Nat, vk_1 < vk ∧ vI (IntKind.i64.wrap (i + 1)) vk_1 w28)))) ∧
  (decide (vk_22 < ((x102N_2 : Nat) : Int)) = false →
  ∃ (x123A_5 : Option Addr), ∃ (x123N_5 : Nat), ∃ (x123C_5 : Nat), w27.cell? (⟨w4.heap.size, 1, none⟩ : Addr) = some (.slice x123A_5 x123N_5 x123C_5) ∧
  Calls Try.prog 32 #[(.pointer x23), (.slice x123A_5 x123N_5 x123C_5)] w27 (Ret fun v_9 w29 => ∃ (x124_5 : Bool), v_9 = (.bool x124_5) ∧
  ((!(x124_5 == all_2)) = true →
  R (.bool false) w29) ∧
  ((!(x124_5 == all_2)) = false →
  ∃ vk_1 : Nat, vk_1 < vk ∧ vI (IntKind.i64.wrap (i + 1)) vk_1 w29))))) ∧
  (decide (vk_18 < ((x82N_1 : Nat) : Int)) = false →
  ∃ vI_6 : Bool → Int → Nat → World → Prop, (∃ vk_25 : Nat, vI_6 x66 0 vk_25 w21) ∧
  ∀ (jk : Nat → Value) (all_3 : Bool) (vk_26 : Int), ∀ (vk_23 : Nat) (w30 : World), vI_6 all_3 vk_26 vk_23 w30 →
  ∃ (x102A_3 : Option Addr), ∃ (x102N_3 : Nat), ∃ (x102C_3 : Nat), w30.cell? (⟨w4.heap.size, 1, none⟩ : Addr) = some (.slice x102A_3 x102N_3 x102C_3) ∧
  (decide (vk_26 < ((x102N_3 : Nat) : Int)) = true →
  (x66 = true →
  (all_3 = true →
  ∃ (x114A_3 : Option Addr), ∃ (x114N_3 : Nat), ∃ (x114C_3 : Nat), w30.cell? (⟨w4.heap.size, 1, none⟩ : Addr) = some (.slice x114A_3 x114N_3 x114C_3) ∧
  (0 ≤ vk_26 ∧ vk_26 < ((x114N_3 : Nat) : Int)) ∧ someV x114A_3 fun p_6 =>
  ∃ (x117_3 : Int), w30.cell? (p_6.add (vk_26.toNat * 1)) = some (.int .i64 x117_3) ∧
  (0 ≤ x117_3 ∧ x117_3 < ((n.toNat : Nat) : Int)) ∧
  ∃ (x119_3 : Bool), w30.cell? ((⟨w2.heap.size, 0, none⟩ : Addr).add (x117_3.toNat * 1)) = some (.bool x119_3) ∧
  ∃ vk_24 : Nat, vk_24 < vk_23 ∧ vI_6 x119_3 (IntKind.i64.wrap (vk_26 + 1)) vk_24 w30) ∧
  (all_3 = false →
  ∃ vk_24 : Nat, vk_24 < vk_23 ∧ vI_6 false (IntKind.i64.wrap (vk_26 + 1)) vk_24 w30)) ∧
  (x66 = false →
  ∃ (x123A_6 : Option Addr), ∃ (x123N_6 : Nat), ∃ (x123C_6 : Nat), w30.cell? (⟨w4.heap.size, 1, none⟩ : Addr) = some (.slice x123A_6 x123N_6 x123C_6) ∧
  Calls Try.prog 32 #[(.pointer x23), (.slice x123A_6 x123N_6 x123C_6)] w30 (Ret fun v_10 w31 => ∃ (x124_6 : Bool), v_10 = (.bool x124_6) ∧
  ((!(x124_6 == all_3)) = true →
  R (.bool false) w31) ∧
  ((!(x124_6 == all_3)) = false →
  ∃ vk_1 : Nat, vk_1 < vk ∧ vI (IntKind.i64.wrap (i + 1)) vk_1 w31)))) ∧
  (decide (vk_26 < ((x102N_3 : Nat) : Int)) = false →
  ∃ (x123A_7 : Option Addr), ∃ (x123N_7 : Nat), ∃ (x123C_7 : Nat), w30.cell? (⟨w4.heap.size, 1, none⟩ : Addr) = some (.slice x123A_7 x123N_7 x123C_7) ∧
  Calls Try.prog 32 #[(.pointer x23), (.slice x123A_7 x123N_7 x123C_7)] w30 (Ret fun v_11 w32 => ∃ (x124_7 : Bool), v_11 = (.bool x124_7) ∧
  ((!(x124_7 == all_3)) = true →
  R (.bool false) w32) ∧
  ((!(x124_7 == all_3)) = false →
  ∃ vk_1 : Nat, vk_1 < vk ∧ vI (IntKind.i64.wrap (i + 1)) vk_1 w32))))))))) ∧
  ((x53 == (3 : Int)) = false →
  ∃ (x61A : Option Addr), ∃ (x61N : Nat), ∃ (x61C : Nat), w6.cell? (⟨w4.heap.size, 1, none⟩ : Addr) = some (.slice x61A x61N x61C) ∧
  Calls Try.prog 29 #[(.pointer x23), (.slice x61A x61N x61C)] w6 (Ret fun v_12 w33 => ∃ (x62 : Int), v_12 = (.int .i64 x62) ∧
  ∃ (x64A_1 : Option Addr), ∃ (x64N_1 : Nat), ∃ (x64C_1 : Nat), w33.cell? (⟨w4.heap.size, 1, none⟩ : Addr) = some (.slice x64A_1 x64N_1 x64C_1) ∧
  Calls Try.prog 35 #[(.slice x64A_1 x64N_1 x64C_1), (.int .i64 n)] w33 (Ret fun v_13 w34 => ∃ (x66_1 : Bool), v_13 = (.bool x66_1) ∧
  ((!(x66_1 == (x62 == (0 : Int)))) = true →
  R (.bool false) w34) ∧
  ((!(x66_1 == (x62 == (0 : Int)))) = false →
  ((!x66_1) = true →
  ((x62 != (3 : Int)) = true →
  R (.bool false) w34) ∧
  ((x62 != (3 : Int)) = false →
  ∃ vI_7 : Int → Nat → World → Prop, (∃ vk_29 : Nat, vI_7 0 vk_29 w34) ∧
  ∀ (jk : Nat → Value) (vk_30 : Int), ∀ (vk_27 : Nat) (w35 : World), vI_7 vk_30 vk_27 w35 →
  ∃ (x82A_2 : Option Addr), ∃ (x82N_2 : Nat), ∃ (x82C_2 : Nat), w35.cell? (⟨w4.heap.size, 1, none⟩ : Addr) = some (.slice x82A_2 x82N_2 x82C_2) ∧
  (decide (vk_30 < ((x82N_2 : Nat) : Int)) = true →
  (x66_1 = true →
  ∃ vS_2 : World → Prop, ∀ w36 : World, w36 = w35.drew → vS_2 w36 ∧
  ∃ (x92A_2 : Option Addr), ∃ (x92N_2 : Nat), ∃ (x92C_2 : Nat), (∀ w37, vS_2 w37 → w37.cell? (⟨w4.heap.size, 1, none⟩ : Addr) = some (.slice x92A_2 x92N_2 x92C_2)) ∧
  (0 ≤ vk_30 ∧ vk_30 < ((x92N_2 : Nat) : Int)) ∧ someV x92A_2 fun p_7 =>
  ∃ (x95_2 : Int), (∀ w38, vS_2 w38 → w38.cell? (p_7.add (vk_30.toNat * 1)) = some (.int .i64 x95_2)) ∧
  ∃ (x97_2 : Int), (∀ w39, vS_2 w39 → w39.cell? (⟨w4.heap.size, 0, none⟩ : Addr) = some (.int .i64 x97_2)) ∧
  (0 ≤ x95_2 ∧ x95_2 < ((n.toNat : Nat) : Int)) ∧
  (((∃ u, w36.cell? ((⟨w2.heap.size, 0, none⟩ : Addr).add (x95_2.toNat * 1)) = some u) ∧ w36.frozen? ((⟨w2.heap.size, 0, none⟩ : Addr).add (x95_2.toNat * 1)) = false)) ∧ ∀ w40 : World, w40 = (w36.setCell ((⟨w2.heap.size, 0, none⟩ : Addr).add (x95_2.toNat * 1)) (.bool (x97_2 != (3 : Int)))) →
  vS_2 w40 ∧
  ∃ vk_28 : Nat, vk_28 < vk_27 ∧ vI_7 (IntKind.i64.wrap (vk_30 + 1)) vk_28 w40) ∧
  (x66_1 = false →
  ∃ vI_8 : Bool → Int → Nat → World → Prop, (∃ vk_33 : Nat, vI_8 x66_1 0 vk_33 w35) ∧
  ∀ (jk : Nat → Value) (all_4 : Bool) (vk_34 : Int), ∀ (vk_31 : Nat) (w41 : World), vI_8 all_4 vk_34 vk_31 w41 →
  ∃ (x102A_4 : Option Addr), ∃ (x102N_4 : Nat), ∃ (x102C_4 : Nat), w41.cell? (⟨w4.heap.size, 1, none⟩ : Addr) = some (.slice x102A_4 x102N_4 x102C_4) ∧
  (decide (vk_34 < ((x102N_4 : Nat) : Int)) = true →
  (x66_1 = true →
  (all_4 = true →
  ∃ (x114A_4 : Option Addr), ∃ (x114N_4 : Nat), ∃ (x114C_4 : Nat), w41.cell? (⟨w4.heap.size, 1, none⟩ : Addr) = some (.slice x114A_4 x114N_4 x114C_4) ∧
  (0 ≤ vk_34 ∧ vk_34 < ((x114N_4 : Nat) : Int)) ∧ someV x114A_4 fun p_8 =>
  ∃ (x117_4 : Int), w41.cell? (p_8.add (vk_34.toNat * 1)) = some (.int .i64 x117_4) ∧
  (0 ≤ x117_4 ∧ x117_4 < ((n.toNat : Nat) : Int)) ∧
  ∃ (x119_4 : Bool), w41.cell? ((⟨w2.heap.size, 0, none⟩ : Addr).add (x117_4.toNat * 1)) = some (.bool x119_4) ∧
  ∃ vk_32 : Nat, vk_32 < vk_31 ∧ vI_8 x119_4 (IntKind.i64.wrap (vk_34 + 1)) vk_32 w41) ∧
  (all_4 = false →
  ∃ vk_32 : Nat, vk_32 < vk_31 ∧ vI_8 false (IntKind.i64.wrap (vk_34 + 1)) vk_32 w41)) ∧
  (x66_1 = false →
  ∃ (x123A_8 : Option Addr), ∃ (x123N_8 : Nat), ∃ (x123C_8 : Nat), w41.cell? (⟨w4.heap.size, 1, none⟩ : Addr) = some (.slice x123A_8 x123N_8 x123C_8) ∧
  Calls Try.prog 32 #[(.pointer x23), (.slice x123A_8 x123N_8 x123C_8)] w41 (Ret fun v_14 w42 => ∃ (x124_8 : Bool), v_14 = (.bool x124_8) ∧
  ((!(x124_8 == all_4)) = true →
  R (.bool false) w42) ∧
  ((!(x124_8 == all_4)) = false →
  ∃ vk_1 : Nat, vk_1 < vk ∧ vI (IntKind.i64.wrap (i + 1)) vk_1 w42)))) ∧
  (decide (vk_34 < ((x102N_4 : Nat) : Int)) = false →
  ∃ (x123A_9 : Option Addr), ∃ (x123N_9 : Nat), ∃ (x123C_9 : Nat), w41.cell? (⟨w4.heap.size, 1, none⟩ : Addr) = some (.slice x123A_9 x123N_9 x123C_9) ∧
  Calls Try.prog 32 #[(.pointer x23), (.slice x123A_9 x123N_9 x123C_9)] w41 (Ret fun v_15 w43 => ∃ (x124_9 : Bool), v_15 = (.bool x124_9) ∧
  ((!(x124_9 == all_4)) = true →
  R (.bool false) w43) ∧
  ((!(x124_9 == all_4)) = false →
  ∃ vk_1 : Nat, vk_1 < vk ∧ vI (IntKind.i64.wrap (i + 1)) vk_1 w43))))) ∧
  (decide (vk_30 < ((x82N_2 : Nat) : Int)) = false →
  ∃ vI_9 : Bool → Int → Nat → World → Prop, (∃ vk_37 : Nat, vI_9 x66_1 0 vk_37 w35) ∧
  ∀ (jk : Nat → Value) (all_5 : Bool) (vk_38 : Int), ∀ (vk_35 : Nat) (w44 : World), vI_9 all_5 vk_38 vk_35 w44 →
  ∃ (x102A_5 : Option Addr), ∃ (x102N_5 : Nat), ∃ (x102C_5 : Nat), w44.cell? (⟨w4.heap.size, 1, none⟩ : Addr) = some (.slice x102A_5 x102N_5 x102C_5) ∧
  (decide (vk_38 < ((x102N_5 : Nat) : Int)) = true →
  (x66_1 = true →
  (all_5 = true →
  ∃ (x114A_5 : Option Addr), ∃ (x114N_5 : Nat), ∃ (x114C_5 : Nat), w44.cell? (⟨w4.heap.size, 1, none⟩ : Addr) = some (.slice x114A_5 x114N_5 x114C_5) ∧
  (0 ≤ vk_38 ∧ vk_38 < ((x114N_5 : Nat) : Int)) ∧ someV x114A_5 fun p_9 =>
  ∃ (x117_5 : Int), w44.cell? (p_9.add (vk_38.toNat * 1)) = some (.int .i64 x117_5) ∧
  (0 ≤ x117_5 ∧ x117_5 < ((n.toNat : Nat) : Int)) ∧
  ∃ (x119_5 : Bool), w44.cell? ((⟨w2.heap.size, 0, none⟩ : Addr).add (x117_5.toNat * 1)) = some (.bool x119_5) ∧
  ∃ vk_36 : Nat, vk_36 < vk_35 ∧ vI_9 x119_5 (IntKind.i64.wrap (vk_38 + 1)) vk_36 w44) ∧
  (all_5 = false →
  ∃ vk_36 : Nat, vk_36 < vk_35 ∧ vI_9 false (IntKind.i64.wrap (vk_38 + 1)) vk_36 w44)) ∧
  (x66_1 = false →
  ∃ (x123A_10 : Option Addr), ∃ (x123N_10 : Nat), ∃ (x123C_10 : Nat), w44.cell? (⟨w4.heap.size, 1, none⟩ : Addr) = some (.slice x123A_10 x123N_10 x123C_10) ∧
  Calls Try.prog 32 #[(.pointer x23), (.slice x123A_10 x123N_10 x123C_10)] w44 (Ret fun v_16 w45 => ∃ (x124_10 : Bool), v_16 = (.bool x124_10) ∧
  ((!(x124_10 == all_5)) = true →
  R (.bool false) w45) ∧
  ((!(x124_10 == all_5)) = false →
  ∃ vk_1 : Nat, vk_1 < vk ∧ vI (IntKind.i64.wrap (i + 1)) vk_1 w45)))) ∧
  (decide (vk_38 < ((x102N_5 : Nat) : Int)) = false →
  ∃ (x123A_11 : Option Addr), ∃ (x123N_11 : Nat), ∃ (x123C_11 : Nat), w44.cell? (⟨w4.heap.size, 1, none⟩ : Addr) = some (.slice x123A_11 x123N_11 x123C_11) ∧
  Calls Try.prog 32 #[(.pointer x23), (.slice x123A_11 x123N_11 x123C_11)] w44 (Ret fun v_17 w46 => ∃ (x124_11 : Bool), v_17 = (.bool x124_11) ∧
  ((!(x124_11 == all_5)) = true →
  R (.bool false) w46) ∧
  ((!(x124_11 == all_5)) = false →
  ∃ vk_1 : Nat, vk_1 < vk ∧ vI (IntKind.i64.wrap (i + 1)) vk_1 w46)))))) ∧
  ((!x66_1) = false →
  ∃ vI_10 : Int → Nat → World → Prop, (∃ vk_41 : Nat, vI_10 0 vk_41 w34) ∧
  ∀ (jk : Nat → Value) (vk_42 : Int), ∀ (vk_39 : Nat) (w47 : World), vI_10 vk_42 vk_39 w47 →
  ∃ (x82A_3 : Option Addr), ∃ (x82N_3 : Nat), ∃ (x82C_3 : Nat), w47.cell? (⟨w4.heap.size, 1, none⟩ : Addr) = some (.slice x82A_3 x82N_3 x82C_3) ∧
  (decide (vk_42 < ((x82N_3 : Nat) : Int)) = true →
  (x66_1 = true →
  ∃ vS_3 : World → Prop, ∀ w48 : World, w48 = w47.drew → vS_3 w48 ∧
  ∃ (x92A_3 : Option Addr), ∃ (x92N_3 : Nat), ∃ (x92C_3 : Nat), (∀ w49, vS_3 w49 → w49.cell? (⟨w4.heap.size, 1, none⟩ : Addr) = some (.slice x92A_3 x92N_3 x92C_3)) ∧
  (0 ≤ vk_42 ∧ vk_42 < ((x92N_3 : Nat) : Int)) ∧ someV x92A_3 fun p_10 =>
  ∃ (x95_3 : Int), (∀ w50, vS_3 w50 → w50.cell? (p_10.add (vk_42.toNat * 1)) = some (.int .i64 x95_3)) ∧
  ∃ (x97_3 : Int), (∀ w51, vS_3 w51 → w51.cell? (⟨w4.heap.size, 0, none⟩ : Addr) = some (.int .i64 x97_3)) ∧
  (0 ≤ x95_3 ∧ x95_3 < ((n.toNat : Nat) : Int)) ∧
  (((∃ u, w48.cell? ((⟨w2.heap.size, 0, none⟩ : Addr).add (x95_3.toNat * 1)) = some u) ∧ w48.frozen? ((⟨w2.heap.size, 0, none⟩ : Addr).add (x95_3.toNat * 1)) = false)) ∧ ∀ w52 : World, w52 = (w48.setCell ((⟨w2.heap.size, 0, none⟩ : Addr).add (x95_3.toNat * 1)) (.bool (x97_3 != (3 : Int)))) →
  vS_3 w52 ∧
  ∃ vk_40 : Nat, vk_40 < vk_39 ∧ vI_10 (IntKind.i64.wrap (vk_42 + 1)) vk_40 w52) ∧
  (x66_1 = false →
  ∃ vI_11 : Bool → Int → Nat → World → Prop, (∃ vk_45 : Nat, vI_11 x66_1 0 vk_45 w47) ∧
  ∀ (jk : Nat → Value) (all_6 : Bool) (vk_46 : Int), ∀ (vk_43 : Nat) (w53 : World), vI_11 all_6 vk_46 vk_43 w53 →
  ∃ (x102A_6 : Option Addr), ∃ (x102N_6 : Nat), ∃ (x102C_6 : Nat), w53.cell? (⟨w4.heap.size, 1, none⟩ : Addr) = some (.slice x102A_6 x102N_6 x102C_6) ∧
  (decide (vk_46 < ((x102N_6 : Nat) : Int)) = true →
  (x66_1 = true →
  (all_6 = true →
  ∃ (x114A_6 : Option Addr), ∃ (x114N_6 : Nat), ∃ (x114C_6 : Nat), w53.cell? (⟨w4.heap.size, 1, none⟩ : Addr) = some (.slice x114A_6 x114N_6 x114C_6) ∧
  (0 ≤ vk_46 ∧ vk_46 < ((x114N_6 : Nat) : Int)) ∧ someV x114A_6 fun p_11 =>
  ∃ (x117_6 : Int), w53.cell? (p_11.add (vk_46.toNat * 1)) = some (.int .i64 x117_6) ∧
  (0 ≤ x117_6 ∧ x117_6 < ((n.toNat : Nat) : Int)) ∧
  ∃ (x119_6 : Bool), w53.cell? ((⟨w2.heap.size, 0, none⟩ : Addr).add (x117_6.toNat * 1)) = some (.bool x119_6) ∧
  ∃ vk_44 : Nat, vk_44 < vk_43 ∧ vI_11 x119_6 (IntKind.i64.wrap (vk_46 + 1)) vk_44 w53) ∧
  (all_6 = false →
  ∃ vk_44 : Nat, vk_44 < vk_43 ∧ vI_11 false (IntKind.i64.wrap (vk_46 + 1)) vk_44 w53)) ∧
  (x66_1 = false →
  ∃ (x123A_12 : Option Addr), ∃ (x123N_12 : Nat), ∃ (x123C_12 : Nat), w53.cell? (⟨w4.heap.size, 1, none⟩ : Addr) = some (.slice x123A_12 x123N_12 x123C_12) ∧
  Calls Try.prog 32 #[(.pointer x23), (.slice x123A_12 x123N_12 x123C_12)] w53 (Ret fun v_18 w54 => ∃ (x124_12 : Bool), v_18 = (.bool x124_12) ∧
  ((!(x124_12 == all_6)) = true →
  R (.bool false) w54) ∧
  ((!(x124_12 == all_6)) = false →
  ∃ vk_1 : Nat, vk_1 < vk ∧ vI (IntKind.i64.wrap (i + 1)) vk_1 w54)))) ∧
  (decide (vk_46 < ((x102N_6 : Nat) : Int)) = false →
  ∃ (x123A_13 : Option Addr), ∃ (x123N_13 : Nat), ∃ (x123C_13 : Nat), w53.cell? (⟨w4.heap.size, 1, none⟩ : Addr) = some (.slice x123A_13 x123N_13 x123C_13) ∧
  Calls Try.prog 32 #[(.pointer x23), (.slice x123A_13 x123N_13 x123C_13)] w53 (Ret fun v_19 w55 => ∃ (x124_13 : Bool), v_19 = (.bool x124_13) ∧
  ((!(x124_13 == all_6)) = true →
  R (.bool false) w55) ∧
  ((!(x124_13 == all_6)) = false →
  ∃ vk_1 : Nat, vk_1 < vk ∧ vI (IntKind.i64.wrap (i + 1)) vk_1 w55))))) ∧
  (decide (vk_42 < ((x82N_3 : Nat) : Int)) = false →
  ∃ vI_12 : Bool → Int → Nat → World → Prop, (∃ vk_49 : Nat, vI_12 x66_1 0 vk_49 w47) ∧
  ∀ (jk : Nat → Value) (all_7 : Bool) (vk_50 : Int), ∀ (vk_47 : Nat) (w56 : World), vI_12 all_7 vk_50 vk_47 w56 →
  ∃ (x102A_7 : Option Addr), ∃ (x102N_7 : Nat), ∃ (x102C_7 : Nat), w56.cell? (⟨w4.heap.size, 1, none⟩ : Addr) = some (.slice x102A_7 x102N_7 x102C_7) ∧
  (decide (vk_50 < ((x102N_7 : Nat) : Int)) = true →
  (x66_1 = true →
  (all_7 = true →
  ∃ (x114A_7 : Option Addr), ∃ (x114N_7 : Nat), ∃ (x114C_7 : Nat), w56.cell? (⟨w4.heap.size, 1, none⟩ : Addr) = some (.slice x114A_7 x114N_7 x114C_7) ∧
  (0 ≤ vk_50 ∧ vk_50 < ((x114N_7 : Nat) : Int)) ∧ someV x114A_7 fun p_12 =>
  ∃ (x117_7 : Int), w56.cell? (p_12.add (vk_50.toNat * 1)) = some (.int .i64 x117_7) ∧
  (0 ≤ x117_7 ∧ x117_7 < ((n.toNat : Nat) : Int)) ∧
  ∃ (x119_7 : Bool), w56.cell? ((⟨w2.heap.size, 0, none⟩ : Addr).add (x117_7.toNat * 1)) = some (.bool x119_7) ∧
  ∃ vk_48 : Nat, vk_48 < vk_47 ∧ vI_12 x119_7 (IntKind.i64.wrap (vk_50 + 1)) vk_48 w56) ∧
  (all_7 = false →
  ∃ vk_48 : Nat, vk_48 < vk_47 ∧ vI_12 false (IntKind.i64.wrap (vk_50 + 1)) vk_48 w56)) ∧
  (x66_1 = false →
  ∃ (x123A_14 : Option Addr), ∃ (x123N_14 : Nat), ∃ (x123C_14 : Nat), w56.cell? (⟨w4.heap.size, 1, none⟩ : Addr) = some (.slice x123A_14 x123N_14 x123C_14) ∧
  Calls Try.prog 32 #[(.pointer x23), (.slice x123A_14 x123N_14 x123C_14)] w56 (Ret fun v_20 w57 => ∃ (x124_14 : Bool), v_20 = (.bool x124_14) ∧
  ((!(x124_14 == all_7)) = true →
  R (.bool false) w57) ∧
  ((!(x124_14 == all_7)) = false →
  ∃ vk_1 : Nat, vk_1 < vk ∧ vI (IntKind.i64.wrap (i + 1)) vk_1 w57)))) ∧
  (decide (vk_50 < ((x102N_7 : Nat) : Int)) = false →
  ∃ (x123A_15 : Option Addr), ∃ (x123N_15 : Nat), ∃ (x123C_15 : Nat), w56.cell? (⟨w4.heap.size, 1, none⟩ : Addr) = some (.slice x123A_15 x123N_15 x123C_15) ∧
  Calls Try.prog 32 #[(.pointer x23), (.slice x123A_15 x123N_15 x123C_15)] w56 (Ret fun v_21 w58 => ∃ (x124_15 : Bool), v_21 = (.bool x124_15) ∧
  ((!(x124_15 == all_7)) = true →
  R (.bool false) w58) ∧
  ((!(x124_15 == all_7)) = false →
  ∃ vk_1 : Nat, vk_1 < vk ∧ vI (IntKind.i64.wrap (i + 1)) vk_1 w58))))))))))) ∧
  (decide (i < (40 : Int)) = false →
  Calls Try.prog 33 #[(.pointer x23)] w4 (Ret fun v_22 w59 => ∃ (x128A : Option Addr), ∃ (x128N : Nat), ∃ (x128C : Nat), v_22 = (.slice x128A x128N x128C) ∧
  ∃ vI_13 : Int → Int → Nat → World → Prop, (∃ vk_53 : Nat, vI_13 (-1) (IntKind.i64.wrap (n - 1)) vk_53 w59) ∧
  ∀ (jk : Nat → Value) (first : Int) (i_1 : Int), ∀ (vk_51 : Nat) (w60 : World), vI_13 first i_1 vk_51 w60 →
  (decide (i_1 ≥ (0 : Int)) = true →
  (0 ≤ i_1 ∧ i_1 < ((n.toNat : Nat) : Int)) ∧
  ∃ (x138 : Bool), w60.cell? ((⟨w2.heap.size, 0, none⟩ : Addr).add (i_1.toNat * 1)) = some (.bool x138) ∧
  ((!x138) = true →
  ∃ vk_52 : Nat, vk_52 < vk_51 ∧ vI_13 i_1 (IntKind.i64.wrap (i_1 - 1)) vk_52 w60) ∧
  ((!x138) = false →
  ∃ vk_52 : Nat, vk_52 < vk_51 ∧ vI_13 first (IntKind.i64.wrap (i_1 - 1)) vk_52 w60)) ∧
  (decide (i_1 ≥ (0 : Int)) = false →
  ∃ vI_14 : Int → Int → Nat → World → Prop, (∃ vk_56 : Nat, vI_14 0 0 vk_56 w60) ∧
  ∀ (jk : Nat → Value) (count : Int) (i_2 : Int), ∀ (vk_54 : Nat) (w61 : World), vI_14 count i_2 vk_54 w61 →
  (decide (i_2 < n) = true →
  (0 ≤ i_2 ∧ i_2 < ((n.toNat : Nat) : Int)) ∧
  ∃ (x149 : Bool), w61.cell? ((⟨w2.heap.size, 0, none⟩ : Addr).add (i_2.toNat * 1)) = some (.bool x149) ∧
  (x149 = true →
  (decide (count ≥ ((x128N : Nat) : Int)) = true →
  R (.bool false) w61) ∧
  (decide (count ≥ ((x128N : Nat) : Int)) = false →
  (0 ≤ count ∧ count < ((x128N : Nat) : Int)) ∧ someV x128A fun p_13 =>
  ∃ (x158 : Int), w61.cell? (p_13.add (count.toNat * 1)) = some (.int .i64 x158) ∧
  ((x158 != i_2) = true →
  R (.bool false) w61) ∧
  ((x158 != i_2) = false →
  ∃ vk_55 : Nat, vk_55 < vk_54 ∧ vI_14 (IntKind.i64.wrap (count + 1)) (IntKind.i64.wrap (i_2 + 1)) vk_55 w61))) ∧
  (x149 = false →
  ∃ vk_55 : Nat, vk_55 < vk_54 ∧ vI_14 count (IntKind.i64.wrap (i_2 + 1)) vk_55 w61)) ∧
  (decide (i_2 < n) = false →
  ((((x128N : Nat) : Int) == count) = true →
  Calls Try.prog 30 #[(.pointer x23)] w61 (Ret fun v_23 w62 => ∃ (x170 : Int), v_23 = (.int .i64 x170) ∧
  ((x170 == count) = true →
  Calls Try.prog 36 #[(.pointer x23)] w62 (Ret fun v_24 w63 => ∃ (x176 : Int), v_24 = (.int .i64 x176) ∧
  ((x176 == n) = true →
  Calls Try.prog 31 #[(.pointer x23)] w63 (Ret fun v_25 w64 => ∃ (x182 : Int), v_25 = (.int .i64 x182) ∧
  ((x182 == first) = true →
  Calls Try.prog 37 #[(.pointer x23)] w64 (Ret fun v_26 w65 => ∃ (x188 : ByteArray), v_26 = (.string x188) ∧
  Calls Try.prog 38 #[(.slice (some (⟨w2.heap.size, 0, none⟩ : Addr)) n.toNat n.toNat)] w65 (Ret fun v_27 w66 => ∃ (x190 : ByteArray), v_27 = (.string x190) ∧
  ((x188.toList == x190.toList) = true →
  ∀ w67 : World, w67 = w66.alloc (.cells #[(.int .i64 1)] 3 (0, 0)) →
  Calls Try.prog 29 #[(.pointer none), (.slice (some (⟨w66.heap.size, 0, none⟩ : Addr)) 1 1)] w67 (Ret fun v_28 w68 => ∃ (x196 : Int), v_28 = (.int .i64 x196) ∧
  ((x196 == (2 : Int)) = true →
  Calls Try.prog 34 #[(.pointer none), (.slice none 0 0)] w68 (Ret fun v_29 w69 => ∃ (x201 : Int), v_29 = (.int .i64 x201) ∧
  ((x201 == (2 : Int)) = true →
  Calls Try.prog 32 #[(.pointer none), (.slice none 0 0)] w69 (Ret fun v_30 w70 => ∃ (x206 : Bool), v_30 = (.bool x206) ∧
  ((!x206) = true →
  Calls Try.prog 30 #[(.pointer none)] w70 (Ret fun v_31 w71 => ∃ (x211 : Int), v_31 = (.int .i64 x211) ∧
  Calls Try.prog 36 #[(.pointer none)] w71 (Ret fun v_32 w72 => ∃ (x213 : Int), v_32 = (.int .i64 x213) ∧
  Calls Try.prog 33 #[(.pointer none)] w72 (Ret fun v_33 w73 => ∃ (x216A : Option Addr), ∃ (x216N : Nat), ∃ (x216C : Nat), v_33 = (.slice x216A x216N x216C) ∧
  (((IntKind.i64.wrap ((IntKind.i64.wrap (x211 + x213)) + ((x216N : Nat) : Int))) == (0 : Int)) = true →
  Calls Try.prog 31 #[(.pointer none)] w73 (Ret fun v_34 w74 => ∃ (x223 : Int), v_34 = (.int .i64 x223) ∧
  ((x223 == (-1 : Int)) = true →
  Calls Try.prog 37 #[(.pointer none)] w74 (Ret fun v_35 w75 => ∃ (x228 : ByteArray), v_35 = (.string x228) ∧
  R (.bool (x228.toList == (ByteArray.mk #[]).toList)) w75)) ∧
  ((x223 == (-1 : Int)) = false →
  R (.bool false) w74))) ∧
  (((IntKind.i64.wrap ((IntKind.i64.wrap (x211 + x213)) + ((x216N : Nat) : Int))) == (0 : Int)) = false →
  R (.bool false) w73))))) ∧
  ((!x206) = false →
  R (.bool false) w70))) ∧
  ((x201 == (2 : Int)) = false →
  R (.bool false) w69))) ∧
  ((x196 == (2 : Int)) = false →
  R (.bool false) w68))) ∧
  ((x188.toList == x190.toList) = false →
  R (.bool false) w66)))) ∧
  ((x182 == first) = false →
  R (.bool false) w64))) ∧
  ((x176 == n) = false →
  R (.bool false) w63))) ∧
  ((x170 == count) = false →
  R (.bool false) w62))) ∧
  ((((x128N : Nat) : Int) == count) = false →
  R (.bool false) w61)))))) ∧
  (decide (i < ((actsN : Nat) : Int)) = false →
  Calls Try.prog 33 #[(.pointer x23)] w4 (Ret fun v_36 w76 => ∃ (x128A_1 : Option Addr), ∃ (x128N_1 : Nat), ∃ (x128C_1 : Nat), v_36 = (.slice x128A_1 x128N_1 x128C_1) ∧
  ∃ vI_15 : Int → Int → Nat → World → Prop, (∃ vk_59 : Nat, vI_15 (-1) (IntKind.i64.wrap (n - 1)) vk_59 w76) ∧
  ∀ (jk : Nat → Value) (first_1 : Int) (i_3 : Int), ∀ (vk_57 : Nat) (w77 : World), vI_15 first_1 i_3 vk_57 w77 →
  (decide (i_3 ≥ (0 : Int)) = true →
  (0 ≤ i_3 ∧ i_3 < ((n.toNat : Nat) : Int)) ∧
  ∃ (x138_1 : Bool), w77.cell? ((⟨w2.heap.size, 0, none⟩ : Addr).add (i_3.toNat * 1)) = some (.bool x138_1) ∧
  ((!x138_1) = true →
  ∃ vk_58 : Nat, vk_58 < vk_57 ∧ vI_15 i_3 (IntKind.i64.wrap (i_3 - 1)) vk_58 w77) ∧
  ((!x138_1) = false →
  ∃ vk_58 : Nat, vk_58 < vk_57 ∧ vI_15 first_1 (IntKind.i64.wrap (i_3 - 1)) vk_58 w77)) ∧
  (decide (i_3 ≥ (0 : Int)) = false →
  ∃ vI_16 : Int → Int → Nat → World → Prop, (∃ vk_62 : Nat, vI_16 0 0 vk_62 w77) ∧
  ∀ (jk : Nat → Value) (count_1 : Int) (i_4 : Int), ∀ (vk_60 : Nat) (w78 : World), vI_16 count_1 i_4 vk_60 w78 →
  (decide (i_4 < n) = true →
  (0 ≤ i_4 ∧ i_4 < ((n.toNat : Nat) : Int)) ∧
  ∃ (x149_1 : Bool), w78.cell? ((⟨w2.heap.size, 0, none⟩ : Addr).add (i_4.toNat * 1)) = some (.bool x149_1) ∧
  (x149_1 = true →
  (decide (count_1 ≥ ((x128N_1 : Nat) : Int)) = true →
  R (.bool false) w78) ∧
  (decide (count_1 ≥ ((x128N_1 : Nat) : Int)) = false →
  (0 ≤ count_1 ∧ count_1 < ((x128N_1 : Nat) : Int)) ∧ someV x128A_1 fun p_14 =>
  ∃ (x158_1 : Int), w78.cell? (p_14.add (count_1.toNat * 1)) = some (.int .i64 x158_1) ∧
  ((x158_1 != i_4) = true →
  R (.bool false) w78) ∧
  ((x158_1 != i_4) = false →
  ∃ vk_61 : Nat, vk_61 < vk_60 ∧ vI_16 (IntKind.i64.wrap (count_1 + 1)) (IntKind.i64.wrap (i_4 + 1)) vk_61 w78))) ∧
  (x149_1 = false →
  ∃ vk_61 : Nat, vk_61 < vk_60 ∧ vI_16 count_1 (IntKind.i64.wrap (i_4 + 1)) vk_61 w78)) ∧
  (decide (i_4 < n) = false →
  ((((x128N_1 : Nat) : Int) == count_1) = true →
  Calls Try.prog 30 #[(.pointer x23)] w78 (Ret fun v_37 w79 => ∃ (x170_1 : Int), v_37 = (.int .i64 x170_1) ∧
  ((x170_1 == count_1) = true →
  Calls Try.prog 36 #[(.pointer x23)] w79 (Ret fun v_38 w80 => ∃ (x176_1 : Int), v_38 = (.int .i64 x176_1) ∧
  ((x176_1 == n) = true →
  Calls Try.prog 31 #[(.pointer x23)] w80 (Ret fun v_39 w81 => ∃ (x182_1 : Int), v_39 = (.int .i64 x182_1) ∧
  ((x182_1 == first_1) = true →
  Calls Try.prog 37 #[(.pointer x23)] w81 (Ret fun v_40 w82 => ∃ (x188_1 : ByteArray), v_40 = (.string x188_1) ∧
  Calls Try.prog 38 #[(.slice (some (⟨w2.heap.size, 0, none⟩ : Addr)) n.toNat n.toNat)] w82 (Ret fun v_41 w83 => ∃ (x190_1 : ByteArray), v_41 = (.string x190_1) ∧
  ((x188_1.toList == x190_1.toList) = true →
  ∀ w84 : World, w84 = w83.alloc (.cells #[(.int .i64 1)] 3 (0, 0)) →
  Calls Try.prog 29 #[(.pointer none), (.slice (some (⟨w83.heap.size, 0, none⟩ : Addr)) 1 1)] w84 (Ret fun v_42 w85 => ∃ (x196_1 : Int), v_42 = (.int .i64 x196_1) ∧
  ((x196_1 == (2 : Int)) = true →
  Calls Try.prog 34 #[(.pointer none), (.slice none 0 0)] w85 (Ret fun v_43 w86 => ∃ (x201_1 : Int), v_43 = (.int .i64 x201_1) ∧
  ((x201_1 == (2 : Int)) = true →
  Calls Try.prog 32 #[(.pointer none), (.slice none 0 0)] w86 (Ret fun v_44 w87 => ∃ (x206_1 : Bool), v_44 = (.bool x206_1) ∧
  ((!x206_1) = true →
  Calls Try.prog 30 #[(.pointer none)] w87 (Ret fun v_45 w88 => ∃ (x211_1 : Int), v_45 = (.int .i64 x211_1) ∧
  Calls Try.prog 36 #[(.pointer none)] w88 (Ret fun v_46 w89 => ∃ (x213_1 : Int), v_46 = (.int .i64 x213_1) ∧
  Calls Try.prog 33 #[(.pointer none)] w89 (Ret fun v_47 w90 => ∃ (x216A_1 : Option Addr), ∃ (x216N_1 : Nat), ∃ (x216C_1 : Nat), v_47 = (.slice x216A_1 x216N_1 x216C_1) ∧
  (((IntKind.i64.wrap ((IntKind.i64.wrap (x211_1 + x213_1)) + ((x216N_1 : Nat) : Int))) == (0 : Int)) = true →
  Calls Try.prog 31 #[(.pointer none)] w90 (Ret fun v_48 w91 => ∃ (x223_1 : Int), v_48 = (.int .i64 x223_1) ∧
  ((x223_1 == (-1 : Int)) = true →
  Calls Try.prog 37 #[(.pointer none)] w91 (Ret fun v_49 w92 => ∃ (x228_1 : ByteArray), v_49 = (.string x228_1) ∧
  R (.bool (x228_1.toList == (ByteArray.mk #[]).toList)) w92)) ∧
  ((x223_1 == (-1 : Int)) = false →
  R (.bool false) w91))) ∧
  (((IntKind.i64.wrap ((IntKind.i64.wrap (x211_1 + x213_1)) + ((x216N_1 : Nat) : Int))) == (0 : Int)) = false →
  R (.bool false) w90))))) ∧
  ((!x206_1) = false →
  R (.bool false) w87))) ∧
  ((x201_1 == (2 : Int)) = false →
  R (.bool false) w86))) ∧
  ((x196_1 == (2 : Int)) = false →
  R (.bool false) w85))) ∧
  ((x188_1.toList == x190_1.toList) = false →
  R (.bool false) w83)))) ∧
  ((x182_1 == first_1) = false →
  R (.bool false) w81))) ∧
  ((x176_1 == n) = false →
  R (.bool false) w80))) ∧
  ((x170_1 == count_1) = false →
  R (.bool false) w79))) ∧
  ((((x128N_1 : Nat) : Int) == count_1) = false →
  R (.bool false) w78))))))))))
theorem coadjutorlaw08_BitsExact.vc_eq (n : Int) (actsA : Option Addr) (actsN : Nat) (actsC : Nat) (w : World) (R : Value → World → Prop) : fnV Try.prog Try.f8 (.c .nil (.at_ 4 2 (.k .nil) (.c .nil (.lp [(4, none), (7, some (.int .i64)), (8, none), (9, none), (10, none), (11, none), (12, none), (13, none), (34, none), (35, none), (36, none), (37, none), (38, none), (39, none), (40, none), (41, none), (42, none), (43, none), (44, none), (45, none), (46, none), (47, none), (48, none), (49, none), (50, none), (51, none), (52, none), (53, none), (54, none), (55, none), (56, none), (57, none), (58, none), (59, none), (60, none), (61, none), (62, none), (63, none), (64, none), (65, none), (66, none), (67, none), (68, none), (69, none), (70, none), (71, none), (72, none), (73, none), (74, none), (75, none), (76, none), (77, none), (78, none), (79, none), (80, none), (81, none), (82, none), (83, none), (84, none), (85, none), (86, none), (87, none), (88, none), (89, none), (90, none), (91, none), (92, none), (93, none), (94, none), (95, none), (96, none), (97, none), (98, none), (99, none), (100, none), (101, none), (102, none), (103, none), (104, none), (105, none), (106, none), (107, none), (108, none), (109, none), (110, none), (111, none), (112, none), (113, none), (114, none), (115, none), (116, none), (117, none), (118, none), (119, none), (120, none), (121, none), (122, none), (123, none), (124, none), (125, none), (126, none)] (.at_ 8 4 (.c (.c .nil (.c (.at_ 18 4 (.k .nil) (.at_ 18 7 (.c .nil (.lp [(12, some (.int .i64)), (80, none), (81, none), (82, none), (83, none), (84, none), (85, none), (86, none), (87, none), (88, none), (89, none), (90, none), (91, none), (92, none), (93, none), (94, none), (95, none), (96, none), (97, none), (98, none), (99, none)] (.at_ 22 5 (.c (.tk 0 (.tk 1 (.tk 2 (.tk 3 (.tk 4 (.tk 5 (.tk 6 (.tk 7 (.tk 8 (.tk 9 (.alt 10 (.fin .nil) .nil))))))))))) (.lp [(11, some (.bool)), (13, some (.int .i64)), (100, none), (101, none), (102, none), (103, none), (104, none), (105, none), (106, none), (107, none), (108, none), (109, none), (110, none), (111, none), (112, none), (113, none), (114, none), (115, none), (116, none), (117, none), (118, none), (119, none), (120, none)] (.at_ 26 5 (.c (.at_ 28 1 .nil .nil) (.c .nil .nil)) (.k (.c .nil .nil))))) (.k (.lp [(11, some (.bool)), (13, some (.int .i64)), (100, none), (101, none), (102, none), (103, none), (104, none), (105, none), (106, none), (107, none), (108, none), (109, none), (110, none), (111, none), (112, none), (113, none), (114, none), (115, none), (116, none), (117, none), (118, none), (119, none), (120, none)] (.at_ 26 5 (.c (.at_ 28 1 .nil .nil) (.c .nil .nil)) (.k (.c .nil .nil)))))))) (.k (.lp [(12, some (.int .i64)), (80, none), (81, none), (82, none), (83, none), (84, none), (85, none), (86, none), (87, none), (88, none), (89, none), (90, none), (91, none), (92, none), (93, none), (94, none), (95, none), (96, none), (97, none), (98, none), (99, none)] (.at_ 22 5 (.c (.tk 0 (.tk 1 (.tk 2 (.tk 3 (.tk 4 (.tk 5 (.tk 6 (.tk 7 (.tk 8 (.tk 9 (.alt 10 (.fin .nil) .nil))))))))))) (.lp [(11, some (.bool)), (13, some (.int .i64)), (100, none), (101, none), (102, none), (103, none), (104, none), (105, none), (106, none), (107, none), (108, none), (109, none), (110, none), (111, none), (112, none), (113, none), (114, none), (115, none), (116, none), (117, none), (118, none), (119, none), (120, none)] (.at_ 26 5 (.c (.at_ 28 1 .nil .nil) (.c .nil .nil)) (.k (.c .nil .nil))))) (.k (.lp [(11, some (.bool)), (13, some (.int .i64)), (100, none), (101, none), (102, none), (103, none), (104, none), (105, none), (106, none), (107, none), (108, none), (109, none), (110, none), (111, none), (112, none), (113, none), (114, none), (115, none), (116, none), (117, none), (118, none), (119, none), (120, none)] (.at_ 26 5 (.c (.at_ 28 1 .nil .nil) (.c .nil .nil)) (.k (.c .nil .nil)))))))))) (.at_ 18 4 (.k .nil) (.at_ 18 7 (.c .nil (.lp [(12, some (.int .i64)), (80, none), (81, none), (82, none), (83, none), (84, none), (85, none), (86, none), (87, none), (88, none), (89, none), (90, none), (91, none), (92, none), (93, none), (94, none), (95, none), (96, none), (97, none), (98, none), (99, none)] (.at_ 22 5 (.c (.tk 0 (.tk 1 (.tk 2 (.tk 3 (.tk 4 (.tk 5 (.tk 6 (.tk 7 (.tk 8 (.tk 9 (.alt 10 (.fin .nil) .nil))))))))))) (.lp [(11, some (.bool)), (13, some (.int .i64)), (100, none), (101, none), (102, none), (103, none), (104, none), (105, none), (106, none), (107, none), (108, none), (109, none), (110, none), (111, none), (112, none), (113, none), (114, none), (115, none), (116, none), (117, none), (118, none), (119, none), (120, none)] (.at_ 26 5 (.c (.at_ 28 1 .nil .nil) (.c .nil .nil)) (.k (.c .nil .nil))))) (.k (.lp [(11, some (.bool)), (13, some (.int .i64)), (100, none), (101, none), (102, none), (103, none), (104, none), (105, none), (106, none), (107, none), (108, none), (109, none), (110, none), (111, none), (112, none), (113, none), (114, none), (115, none), (116, none), (117, none), (118, none), (119, none), (120, none)] (.at_ 26 5 (.c (.at_ 28 1 .nil .nil) (.c .nil .nil)) (.k (.c .nil .nil)))))))) (.k (.lp [(12, some (.int .i64)), (80, none), (81, none), (82, none), (83, none), (84, none), (85, none), (86, none), (87, none), (88, none), (89, none), (90, none), (91, none), (92, none), (93, none), (94, none), (95, none), (96, none), (97, none), (98, none), (99, none)] (.at_ 22 5 (.c (.tk 0 (.tk 1 (.tk 2 (.tk 3 (.tk 4 (.tk 5 (.tk 6 (.tk 7 (.tk 8 (.tk 9 (.alt 10 (.fin .nil) .nil))))))))))) (.lp [(11, some (.bool)), (13, some (.int .i64)), (100, none), (101, none), (102, none), (103, none), (104, none), (105, none), (106, none), (107, none), (108, none), (109, none), (110, none), (111, none), (112, none), (113, none), (114, none), (115, none), (116, none), (117, none), (118, none), (119, none), (120, none)] (.at_ 26 5 (.c (.at_ 28 1 .nil .nil) (.c .nil .nil)) (.k (.c .nil .nil))))) (.k (.lp [(11, some (.bool)), (13, some (.int .i64)), (100, none), (101, none), (102, none), (103, none), (104, none), (105, none), (106, none), (107, none), (108, none), (109, none), (110, none), (111, none), (112, none), (113, none), (114, none), (115, none), (116, none), (117, none), (118, none), (119, none), (120, none)] (.at_ 26 5 (.c (.at_ 28 1 .nil .nil) (.c .nil .nil)) (.k (.c .nil .nil)))))))))))) (.lp [(16, some (.int .i64)), (17, some (.int .i64)), (131, none), (132, none), (133, none), (134, none), (135, none), (136, none), (137, none), (138, none), (139, none), (140, none)] (.c (.c .nil .nil) (.lp [(4, none), (15, some (.int .i64)), (18, some (.int .i64)), (141, none), (142, none), (143, none), (144, none), (145, none), (146, none), (147, none), (148, none), (149, none), (150, none), (151, none), (152, none), (153, none), (154, none), (155, none), (156, none), (157, none), (158, none), (159, none), (160, none), (161, none), (162, none), (163, none)] (.c (.c (.at_ 43 4 (.k .nil) (.c .nil .nil)) .nil) (.at_ 47 4 (.at_ 47 10 (.at_ 47 16 (.at_ 47 22 (.at_ 47 29 (.at_ 47 35 (.at_ 47 40 (.at_ 47 45 (.at_ 47 57 (.at_ 47 62 .nil .nil) .nil) .nil) .nil) .nil) .nil) .nil) .nil) .nil) .nil)))))) (.k (.lp [(16, some (.int .i64)), (17, some (.int .i64)), (131, none), (132, none), (133, none), (134, none), (135, none), (136, none), (137, none), (138, none), (139, none), (140, none)] (.c (.c .nil .nil) (.lp [(4, none), (15, some (.int .i64)), (18, some (.int .i64)), (141, none), (142, none), (143, none), (144, none), (145, none), (146, none), (147, none), (148, none), (149, none), (150, none), (151, none), (152, none), (153, none), (154, none), (155, none), (156, none), (157, none), (158, none), (159, none), (160, none), (161, none), (162, none), (163, none)] (.c (.c (.at_ 43 4 (.k .nil) (.c .nil .nil)) .nil) (.at_ 47 4 (.at_ 47 10 (.at_ 47 16 (.at_ 47 22 (.at_ 47 29 (.at_ 47 35 (.at_ 47 40 (.at_ 47 45 (.at_ 47 57 (.at_ 47 62 .nil .nil) .nil) .nil) .nil) .nil) .nil) .nil) .nil) .nil) .nil))))))))))) [(.int .i64 n), (.slice actsA actsN actsC)] w R = coadjutorlaw08_BitsExact.vc n actsA actsN actsC w R := by kernel_rfl
theorem coadjutorlaw08_BitsExact.calls (n : Int) (actsA : Option Addr) (actsN : Nat) (actsC : Nat) {w : World} {R : Value → World → Prop} (h : coadjutorlaw08_BitsExact.vc n actsA actsN actsC w R) : Calls Try.prog 8 #[(.int .i64 n), (.slice actsA actsN actsC)] w (Ret R) :=
  calls_V fit Try.func8 (.c .nil (.at_ 4 2 (.k .nil) (.c .nil (.lp [(4, none), (7, some (.int .i64)), (8, none), (9, none), (10, none), (11, none), (12, none), (13, none), (34, none), (35, none), (36, none), (37, none), (38, none), (39, none), (40, none), (41, none), (42, none), (43, none), (44, none), (45, none), (46, none), (47, none), (48, none), (49, none), (50, none), (51, none), (52, none), (53, none), (54, none), (55, none), (56, none), (57, none), (58, none), (59, none), (60, none), (61, none), (62, none), (63, none), (64, none), (65, none), (66, none), (67, none), (68, none), (69, none), (70, none), (71, none), (72, none), (73, none), (74, none), (75, none), (76, none), (77, none), (78, none), (79, none), (80, none), (81, none), (82, none), (83, none), (84, none), (85, none), (86, none), (87, none), (88, none), (89, none), (90, none), (91, none), (92, none), (93, none), (94, none), (95, none), (96, none), (97, none), (98, none), (99, none), (100, none), (101, none), (102, none), (103, none), (104, none), (105, none), (106, none), (107, none), (108, none), (109, none), (110, none), (111, none), (112, none), (113, none), (114, none), (115, none), (116, none), (117, none), (118, none), (119, none), (120, none), (121, none), (122, none), (123, none), (124, none), (125, none), (126, none)] (.at_ 8 4 (.c (.c .nil (.c (.at_ 18 4 (.k .nil) (.at_ 18 7 (.c .nil (.lp [(12, some (.int .i64)), (80, none), (81, none), (82, none), (83, none), (84, none), (85, none), (86, none), (87, none), (88, none), (89, none), (90, none), (91, none), (92, none), (93, none), (94, none), (95, none), (96, none), (97, none), (98, none), (99, none)] (.at_ 22 5 (.c (.tk 0 (.tk 1 (.tk 2 (.tk 3 (.tk 4 (.tk 5 (.tk 6 (.tk 7 (.tk 8 (.tk 9 (.alt 10 (.fin .nil) .nil))))))))))) (.lp [(11, some (.bool)), (13, some (.int .i64)), (100, none), (101, none), (102, none), (103, none), (104, none), (105, none), (106, none), (107, none), (108, none), (109, none), (110, none), (111, none), (112, none), (113, none), (114, none), (115, none), (116, none), (117, none), (118, none), (119, none), (120, none)] (.at_ 26 5 (.c (.at_ 28 1 .nil .nil) (.c .nil .nil)) (.k (.c .nil .nil))))) (.k (.lp [(11, some (.bool)), (13, some (.int .i64)), (100, none), (101, none), (102, none), (103, none), (104, none), (105, none), (106, none), (107, none), (108, none), (109, none), (110, none), (111, none), (112, none), (113, none), (114, none), (115, none), (116, none), (117, none), (118, none), (119, none), (120, none)] (.at_ 26 5 (.c (.at_ 28 1 .nil .nil) (.c .nil .nil)) (.k (.c .nil .nil)))))))) (.k (.lp [(12, some (.int .i64)), (80, none), (81, none), (82, none), (83, none), (84, none), (85, none), (86, none), (87, none), (88, none), (89, none), (90, none), (91, none), (92, none), (93, none), (94, none), (95, none), (96, none), (97, none), (98, none), (99, none)] (.at_ 22 5 (.c (.tk 0 (.tk 1 (.tk 2 (.tk 3 (.tk 4 (.tk 5 (.tk 6 (.tk 7 (.tk 8 (.tk 9 (.alt 10 (.fin .nil) .nil))))))))))) (.lp [(11, some (.bool)), (13, some (.int .i64)), (100, none), (101, none), (102, none), (103, none), (104, none), (105, none), (106, none), (107, none), (108, none), (109, none), (110, none), (111, none), (112, none), (113, none), (114, none), (115, none), (116, none), (117, none), (118, none), (119, none), (120, none)] (.at_ 26 5 (.c (.at_ 28 1 .nil .nil) (.c .nil .nil)) (.k (.c .nil .nil))))) (.k (.lp [(11, some (.bool)), (13, some (.int .i64)), (100, none), (101, none), (102, none), (103, none), (104, none), (105, none), (106, none), (107, none), (108, none), (109, none), (110, none), (111, none), (112, none), (113, none), (114, none), (115, none), (116, none), (117, none), (118, none), (119, none), (120, none)] (.at_ 26 5 (.c (.at_ 28 1 .nil .nil) (.c .nil .nil)) (.k (.c .nil .nil)))))))))) (.at_ 18 4 (.k .nil) (.at_ 18 7 (.c .nil (.lp [(12, some (.int .i64)), (80, none), (81, none), (82, none), (83, none), (84, none), (85, none), (86, none), (87, none), (88, none), (89, none), (90, none), (91, none), (92, none), (93, none), (94, none), (95, none), (96, none), (97, none), (98, none), (99, none)] (.at_ 22 5 (.c (.tk 0 (.tk 1 (.tk 2 (.tk 3 (.tk 4 (.tk 5 (.tk 6 (.tk 7 (.tk 8 (.tk 9 (.alt 10 (.fin .nil) .nil))))))))))) (.lp [(11, some (.bool)), (13, some (.int .i64)), (100, none), (101, none), (102, none), (103, none), (104, none), (105, none), (106, none), (107, none), (108, none), (109, none), (110, none), (111, none), (112, none), (113, none), (114, none), (115, none), (116, none), (117, none), (118, none), (119, none), (120, none)] (.at_ 26 5 (.c (.at_ 28 1 .nil .nil) (.c .nil .nil)) (.k (.c .nil .nil))))) (.k (.lp [(11, some (.bool)), (13, some (.int .i64)), (100, none), (101, none), (102, none), (103, none), (104, none), (105, none), (106, none), (107, none), (108, none), (109, none), (110, none), (111, none), (112, none), (113, none), (114, none), (115, none), (116, none), (117, none), (118, none), (119, none), (120, none)] (.at_ 26 5 (.c (.at_ 28 1 .nil .nil) (.c .nil .nil)) (.k (.c .nil .nil)))))))) (.k (.lp [(12, some (.int .i64)), (80, none), (81, none), (82, none), (83, none), (84, none), (85, none), (86, none), (87, none), (88, none), (89, none), (90, none), (91, none), (92, none), (93, none), (94, none), (95, none), (96, none), (97, none), (98, none), (99, none)] (.at_ 22 5 (.c (.tk 0 (.tk 1 (.tk 2 (.tk 3 (.tk 4 (.tk 5 (.tk 6 (.tk 7 (.tk 8 (.tk 9 (.alt 10 (.fin .nil) .nil))))))))))) (.lp [(11, some (.bool)), (13, some (.int .i64)), (100, none), (101, none), (102, none), (103, none), (104, none), (105, none), (106, none), (107, none), (108, none), (109, none), (110, none), (111, none), (112, none), (113, none), (114, none), (115, none), (116, none), (117, none), (118, none), (119, none), (120, none)] (.at_ 26 5 (.c (.at_ 28 1 .nil .nil) (.c .nil .nil)) (.k (.c .nil .nil))))) (.k (.lp [(11, some (.bool)), (13, some (.int .i64)), (100, none), (101, none), (102, none), (103, none), (104, none), (105, none), (106, none), (107, none), (108, none), (109, none), (110, none), (111, none), (112, none), (113, none), (114, none), (115, none), (116, none), (117, none), (118, none), (119, none), (120, none)] (.at_ 26 5 (.c (.at_ 28 1 .nil .nil) (.c .nil .nil)) (.k (.c .nil .nil)))))))))))) (.lp [(16, some (.int .i64)), (17, some (.int .i64)), (131, none), (132, none), (133, none), (134, none), (135, none), (136, none), (137, none), (138, none), (139, none), (140, none)] (.c (.c .nil .nil) (.lp [(4, none), (15, some (.int .i64)), (18, some (.int .i64)), (141, none), (142, none), (143, none), (144, none), (145, none), (146, none), (147, none), (148, none), (149, none), (150, none), (151, none), (152, none), (153, none), (154, none), (155, none), (156, none), (157, none), (158, none), (159, none), (160, none), (161, none), (162, none), (163, none)] (.c (.c (.at_ 43 4 (.k .nil) (.c .nil .nil)) .nil) (.at_ 47 4 (.at_ 47 10 (.at_ 47 16 (.at_ 47 22 (.at_ 47 29 (.at_ 47 35 (.at_ 47 40 (.at_ 47 45 (.at_ 47 57 (.at_ 47 62 .nil .nil) .nil) .nil) .nil) .nil) .nil) .nil) .nil) .nil) .nil)))))) (.k (.lp [(16, some (.int .i64)), (17, some (.int .i64)), (131, none), (132, none), (133, none), (134, none), (135, none), (136, none), (137, none), (138, none), (139, none), (140, none)] (.c (.c .nil .nil) (.lp [(4, none), (15, some (.int .i64)), (18, some (.int .i64)), (141, none), (142, none), (143, none), (144, none), (145, none), (146, none), (147, none), (148, none), (149, none), (150, none), (151, none), (152, none), (153, none), (154, none), (155, none), (156, none), (157, none), (158, none), (159, none), (160, none), (161, none), (162, none), (163, none)] (.c (.c (.at_ 43 4 (.k .nil) (.c .nil .nil)) .nil) (.at_ 47 4 (.at_ 47 10 (.at_ 47 16 (.at_ 47 22 (.at_ 47 29 (.at_ 47 35 (.at_ 47 40 (.at_ 47 45 (.at_ 47 57 (.at_ 47 62 .nil .nil) .nil) .nil) .nil) .nil) .nil) .nil) .nil) .nil) .nil))))))))))) (by rw [show (#[(.int .i64 n), (.slice actsA actsN actsC)] : Array Value).toList = [(.int .i64 n), (.slice actsA actsN actsC)] from rfl, coadjutorlaw08_BitsExact.vc_eq]; exact h)
/-- function 9 -/
def coadjutorlaw08_BitsParse.vc (n : Int) (t : ByteArray) (w : World) (R : Value → World → Prop) : Prop :=
  Calls Try.prog 27 #[] w (Ret fun v w1 => ∃ (x10 : Bool), v = (.bool x10) ∧
  ((!x10) = true →
  R (.bool false) w1) ∧
  ((!x10) = false →
  (decide (((t.size : Nat) : Int) > (140 : Int)) = true →
  R (.bool true) w1) ∧
  (decide (((t.size : Nat) : Int) > (140 : Int)) = false →
  Calls Try.prog 39 #[(.int .i64 n), (.string t)] w1 (Ret fun v_1 w2 => ∃ (x18_0 : Option Addr), ∃ (x18_1 : Int), v_1 = (.tuple #[(.pointer x18_0), (.int .i64 x18_1)]) ∧
  (decide (n < (1 : Int)) = true →
  (x18_0.isNone = true →
  R (.bool (x18_1 == (1 : Int))) w2) ∧
  (x18_0.isNone = false →
  R (.bool false) w2)) ∧
  (decide (n < (1 : Int)) = false →
  (decide (n > (1024 : Int)) = true →
  (x18_0.isNone = true →
  R (.bool (x18_1 == (1 : Int))) w2) ∧
  (x18_0.isNone = false →
  R (.bool false) w2)) ∧
  (decide (n > (1024 : Int)) = false →
  Calls Try.prog 40 #[(.int .i64 n), (.string t)] w2 (Ret fun v_2 w3 => ∃ (x36_0A : Option Addr), ∃ (x36_0N : Nat), ∃ (x36_0C : Nat), ∃ (x36_1 : Bool), v_2 = (.tuple #[(.slice x36_0A x36_0N x36_0C), (.bool x36_1)]) ∧
  ((!x36_1) = true →
  (x18_0.isNone = true →
  R (.bool (x18_1 == (5 : Int))) w3) ∧
  (x18_0.isNone = false →
  R (.bool false) w3)) ∧
  ((!x36_1) = false →
  ((x18_1 != (0 : Int)) = true →
  R (.bool false) w3) ∧
  ((x18_1 != (0 : Int)) = false →
  (x18_0.isNone = true →
  R (.bool false) w3) ∧
  (x18_0.isNone = false →
  Calls Try.prog 37 #[(.pointer x18_0)] w3 (Ret fun v_3 w4 => ∃ (x55 : ByteArray), v_3 = (.string x55) ∧
  ((!(x55.toList == t.toList)) = true →
  R (.bool false) w4) ∧
  ((!(x55.toList == t.toList)) = false →
  Calls Try.prog 36 #[(.pointer x18_0)] w4 (Ret fun v_4 w5 => ∃ (x61 : Int), v_4 = (.int .i64 x61) ∧
  ((x61 != n) = true →
  R (.bool false) w5) ∧
  ((x61 != n) = false →
  ∃ vI : Int → Nat → World → Prop, (∃ vk_2 : Nat, vI 0 vk_2 w5) ∧
  ∀ (jk : Nat → Value) (i : Int), ∀ (vk : Nat) (w6 : World), vI i vk w6 →
  (decide (i < n) = true →
  ∃ vS : World → Prop, ∀ w7 : World, w7 = w6.drew → vS w7 ∧
  (0 ≤ i ∧ i < ((x36_0N : Nat) : Int)) ∧ someV x36_0A fun p =>
  ∃ (x77 : Bool), (∀ w8, vS w8 → w8.cell? (p.add (i.toNat * 1)) = some (.bool x77)) ∧
  ∀ w9 : World, w9 = w7.alloc (.cells #[(.int .i64 i)] 3 (0, 0)) →
  vS w9 ∧
  Calls Try.prog 32 #[(.pointer x18_0), (.slice (some (⟨w7.heap.size, 0, none⟩ : Addr)) 1 1)] w9 (Ret fun v_5 w10 => ∃ (x73 : Bool), v_5 = (.bool x73) ∧
  vS w10 ∧
  ((!(x73 == x77)) = true →
  R (.bool false) w10) ∧
  ((!(x73 == x77)) = false →
  ∃ vk_1 : Nat, vk_1 < vk ∧ vI (IntKind.i64.wrap (i + 1)) vk_1 w10))) ∧
  (decide (i < n) = false →
  R (.bool true) w6)))))))))))))))
theorem coadjutorlaw08_BitsParse.vc_eq (n : Int) (t : ByteArray) (w : World) (R : Value → World → Prop) : fnV Try.prog Try.f9 (.c .nil (.c .nil (.at_ 6 2 (.k (.at_ 7 2 .nil .nil)) (.c (.at_ 7 2 .nil .nil) (.c (.at_ 10 2 .nil .nil) (.at_ 11 2 (.k .nil) (.at_ 11 6 (.k .nil) (.at_ 11 12 (.k .nil) (.c .nil (.lp [(4, none), (9, some (.int .i64)), (65, none), (66, none), (67, none), (68, none), (69, none), (70, none), (71, none), (72, none), (73, none), (74, none), (75, none), (76, none), (77, none), (78, none)] (.c (.tk 0 (.tk 1 (.tk 4 (.tk 5 (.tk 6 (.tk 7 (.alt 2 (.alt 3 (.tk 8 (.fin (.c .nil .nil))) .nil) .nil))))))) .nil))))))))))) [(.int .i64 n), (.string t)] w R = coadjutorlaw08_BitsParse.vc n t w R := by kernel_rfl
theorem coadjutorlaw08_BitsParse.calls (n : Int) (t : ByteArray) {w : World} {R : Value → World → Prop} (h : coadjutorlaw08_BitsParse.vc n t w R) : Calls Try.prog 9 #[(.int .i64 n), (.string t)] w (Ret R) :=
  calls_V fit Try.func9 (.c .nil (.c .nil (.at_ 6 2 (.k (.at_ 7 2 .nil .nil)) (.c (.at_ 7 2 .nil .nil) (.c (.at_ 10 2 .nil .nil) (.at_ 11 2 (.k .nil) (.at_ 11 6 (.k .nil) (.at_ 11 12 (.k .nil) (.c .nil (.lp [(4, none), (9, some (.int .i64)), (65, none), (66, none), (67, none), (68, none), (69, none), (70, none), (71, none), (72, none), (73, none), (74, none), (75, none), (76, none), (77, none), (78, none)] (.c (.tk 0 (.tk 1 (.tk 4 (.tk 5 (.tk 6 (.tk 7 (.alt 2 (.alt 3 (.tk 8 (.fin (.c .nil .nil))) .nil) .nil))))))) .nil))))))))))) (by rw [show (#[(.int .i64 n), (.string t)] : Array Value).toList = [(.int .i64 n), (.string t)] from rfl, coadjutorlaw08_BitsParse.vc_eq]; exact h)
/-- function 10 -/
def coadjutorlaw08_BitsBack.vc (n : Int) (listA : Option Addr) (listN : Nat) (listC : Nat) (more : Int) (w : World) (R : Value → World → Prop) : Prop :=
  Calls Try.prog 27 #[] w (Ret fun v w1 => ∃ (x15 : Bool), v = (.bool x15) ∧
  ((!x15) = true →
  R (.bool false) w1) ∧
  ((!x15) = false →
  (1024 : Int) ≠ 0 ∧
  (decide (((listN : Nat) : Int) > (40 : Int)) = true →
  R (.bool true) w1) ∧
  (decide (((listN : Nat) : Int) > (40 : Int)) = false →
  Calls Try.prog 28 #[(.int .i64 (IntKind.i64.wrap (1 + (IntKind.i64.wrap (Int.tmod (IntKind.u64.wrap n) 1024)))))] w1 (Ret fun v_1 w2 => ∃ (x26 : Option Addr), v_1 = (.pointer x26) ∧
  ∃ vI : Int → Nat → World → Prop, (∃ vk_2 : Nat, vI 0 vk_2 w2) ∧
  ∀ (jk : Nat → Value) (i : Int), ∀ (vk : Nat) (w3 : World), vI i vk w3 →
  (decide (i < ((listN : Nat) : Int)) = true →
  (0 ≤ i ∧ i < ((listN : Nat) : Int)) ∧ someV listA fun p =>
  ∃ (x37 : Int), w3.cell? (p.add (i.toNat * 1)) = some (.int .i64 x37) ∧
  (IntKind.u64.wrap (IntKind.i64.wrap (1 + (IntKind.i64.wrap (Int.tmod (IntKind.u64.wrap n) 1024))))) ≠ 0 ∧
  ∀ w4 : World, w4 = w3.alloc (.cells #[(.int .i64 (IntKind.i64.wrap (Int.tmod (IntKind.u64.wrap x37) (IntKind.u64.wrap (IntKind.i64.wrap (1 + (IntKind.i64.wrap (Int.tmod (IntKind.u64.wrap n) 1024))))))))] 3 (0, 0)) →
  Calls Try.prog 29 #[(.pointer x26), (.slice (some (⟨w3.heap.size, 0, none⟩ : Addr)) 1 1)] w4 (Ret fun v_2 w5 => ∃ (x44 : Int), v_2 = (.int .i64 x44) ∧
  ((x44 != (0 : Int)) = true →
  R (.bool false) w5) ∧
  ((x44 != (0 : Int)) = false →
  ∃ vk_1 : Nat, vk_1 < vk ∧ vI (IntKind.i64.wrap (i + 1)) vk_1 w5))) ∧
  (decide (i < ((listN : Nat) : Int)) = false →
  Calls Try.prog 37 #[(.pointer x26)] w3 (Ret fun v_3 w6 => ∃ (x49 : ByteArray), v_3 = (.string x49) ∧
  Calls Try.prog 39 #[(.int .i64 (IntKind.i64.wrap (1 + (IntKind.i64.wrap (Int.tmod (IntKind.u64.wrap n) 1024))))), (.string x49)] w6 (Ret fun v_4 w7 => ∃ (x50_0 : Option Addr), ∃ (x50_1 : Int), v_4 = (.tuple #[(.pointer x50_0), (.int .i64 x50_1)]) ∧
  ((x50_1 != (0 : Int)) = true →
  R (.bool false) w7) ∧
  ((x50_1 != (0 : Int)) = false →
  Calls Try.prog 41 #[(.pointer x26), (.pointer x50_0)] w7 (Ret fun v_5 w8 => ∃ (x58 : Bool), v_5 = (.bool x58) ∧
  ((!x58) = true →
  R (.bool false) w8) ∧
  ((!x58) = false →
  Calls Try.prog 41 #[(.pointer x50_0), (.pointer x26)] w8 (Ret fun v_6 w9 => ∃ (x64 : Bool), v_6 = (.bool x64) ∧
  ((!x64) = true →
  R (.bool false) w9) ∧
  ((!x64) = false →
  (IntKind.u64.wrap (IntKind.i64.wrap (1 + (IntKind.i64.wrap (Int.tmod (IntKind.u64.wrap n) 1024))))) ≠ 0 ∧
  ∀ w10 : World, w10 = w9.alloc (.cells #[(.int .i64 (IntKind.i64.wrap (Int.tmod (IntKind.u64.wrap more) (IntKind.u64.wrap (IntKind.i64.wrap (1 + (IntKind.i64.wrap (Int.tmod (IntKind.u64.wrap n) 1024))))))))] 3 (0, 0)) →
  Calls Try.prog 32 #[(.pointer x26), (.slice (some (⟨w9.heap.size, 0, none⟩ : Addr)) 1 1)] w10 (Ret fun v_7 w11 => ∃ (x76 : Bool), v_7 = (.bool x76) ∧
  Calls Try.prog 30 #[(.pointer x26)] w11 (Ret fun v_8 w12 => ∃ (x78 : Int), v_8 = (.int .i64 x78) ∧
  ∀ w13 : World, w13 = w12.alloc (.cells #[(.int .i64 (IntKind.i64.wrap (Int.tmod (IntKind.u64.wrap more) (IntKind.u64.wrap (IntKind.i64.wrap (1 + (IntKind.i64.wrap (Int.tmod (IntKind.u64.wrap n) 1024))))))))] 3 (0, 0)) →
  Calls Try.prog 29 #[(.pointer x50_0), (.slice (some (⟨w12.heap.size, 0, none⟩ : Addr)) 1 1)] w13 (Ret fun v_9 w14 => ∃ (x82 : Int), v_9 = (.int .i64 x82) ∧
  ((x82 != (0 : Int)) = true →
  R (.bool false) w14) ∧
  ((x82 != (0 : Int)) = false →
  Calls Try.prog 41 #[(.pointer x26), (.pointer x50_0)] w14 (Ret fun v_10 w15 => ∃ (x87 : Bool), v_10 = (.bool x87) ∧
  ((!(x87 == x76)) = true →
  R (.bool false) w15) ∧
  ((!(x87 == x76)) = false →
  Calls Try.prog 37 #[(.pointer x26)] w15 (Ret fun v_11 w16 => ∃ (x93 : ByteArray), v_11 = (.string x93) ∧
  Calls Try.prog 37 #[(.pointer x50_0)] w16 (Ret fun v_12 w17 => ∃ (x95 : ByteArray), v_12 = (.string x95) ∧
  ((!((x93.toList == x95.toList) == x76)) = true →
  R (.bool false) w17) ∧
  ((!((x93.toList == x95.toList) == x76)) = false →
  ∀ w18 : World, w18 = w17.alloc (.cells #[(.int .i64 (IntKind.i64.wrap (Int.tmod (IntKind.u64.wrap more) (IntKind.u64.wrap (IntKind.i64.wrap (1 + (IntKind.i64.wrap (Int.tmod (IntKind.u64.wrap n) 1024))))))))] 3 (0, 0)) →
  Calls Try.prog 34 #[(.pointer x50_0), (.slice (some (⟨w17.heap.size, 0, none⟩ : Addr)) 1 1)] w18 (Ret fun v_13 w19 => ∃ (x103 : Int), v_13 = (.int .i64 x103) ∧
  ((x103 != (0 : Int)) = true →
  R (.bool false) w19) ∧
  ((x103 != (0 : Int)) = false →
  ∀ w20 : World, w20 = w19.alloc (.cells #[(.int .i64 (IntKind.i64.wrap (Int.tmod (IntKind.u64.wrap more) (IntKind.u64.wrap (IntKind.i64.wrap (1 + (IntKind.i64.wrap (Int.tmod (IntKind.u64.wrap n) 1024))))))))] 3 (0, 0)) →
  Calls Try.prog 32 #[(.pointer x50_0), (.slice (some (⟨w19.heap.size, 0, none⟩ : Addr)) 1 1)] w20 (Ret fun v_14 w21 => ∃ (x109 : Bool), v_14 = (.bool x109) ∧
  (x109 = true →
  R (.bool false) w21) ∧
  (x109 = false →
  Calls Try.prog 30 #[(.pointer x50_0)] w21 (Ret fun v_15 w22 => ∃ (x113 : Int), v_15 = (.int .i64 x113) ∧
  Calls Try.prog 30 #[(.pointer x26)] w22 (Ret fun v_16 w23 => ∃ (x115 : Int), v_16 = (.int .i64 x115) ∧
  ((x113 != x115) = true →
  ((!x76) = true →
  R (.bool false) w23) ∧
  ((!x76) = false →
  Calls Try.prog 30 #[(.pointer x26)] w23 (Ret fun v_17 w24 => ∃ (x123 : Int), v_17 = (.int .i64 x123) ∧
  ((x123 == x78) = true →
  Calls Try.prog 41 #[(.pointer none), (.pointer none)] w24 (Ret fun v_18 w25 => ∃ (x127 : Bool), v_18 = (.bool x127) ∧
  (x127 = true →
  Calls Try.prog 41 #[(.pointer x26), (.pointer none)] w25 (Ret fun v_19 w26 => ∃ (x131 : Bool), v_19 = (.bool x131) ∧
  ((!x131) = true →
  (1024 : Int) ≠ 0 ∧
  Calls Try.prog 28 #[(.int .i64 (IntKind.i64.wrap ((Int.tmod (IntKind.i64.wrap (1 + (IntKind.i64.wrap (Int.tmod (IntKind.u64.wrap n) 1024)))) 1024) + 1)))] w26 (Ret fun v_20 w27 => ∃ (x139 : Option Addr), v_20 = (.pointer x139) ∧
  Calls Try.prog 41 #[(.pointer x26), (.pointer x139)] w27 (Ret fun v_21 w28 => ∃ (x140 : Bool), v_21 = (.bool x140) ∧
  R (.bool (!x140)) w28))) ∧
  ((!x131) = false →
  R (.bool false) w26))) ∧
  (x127 = false →
  R (.bool false) w25))) ∧
  ((x123 == x78) = false →
  R (.bool false) w24)))) ∧
  ((x113 != x115) = false →
  Calls Try.prog 30 #[(.pointer x26)] w23 (Ret fun v_22 w29 => ∃ (x123_1 : Int), v_22 = (.int .i64 x123_1) ∧
  ((x123_1 == x78) = true →
  Calls Try.prog 41 #[(.pointer none), (.pointer none)] w29 (Ret fun v_23 w30 => ∃ (x127_1 : Bool), v_23 = (.bool x127_1) ∧
  (x127_1 = true →
  Calls Try.prog 41 #[(.pointer x26), (.pointer none)] w30 (Ret fun v_24 w31 => ∃ (x131_1 : Bool), v_24 = (.bool x131_1) ∧
  ((!x131_1) = true →
  (1024 : Int) ≠ 0 ∧
  Calls Try.prog 28 #[(.int .i64 (IntKind.i64.wrap ((Int.tmod (IntKind.i64.wrap (1 + (IntKind.i64.wrap (Int.tmod (IntKind.u64.wrap n) 1024)))) 1024) + 1)))] w31 (Ret fun v_25 w32 => ∃ (x139_1 : Option Addr), v_25 = (.pointer x139_1) ∧
  Calls Try.prog 41 #[(.pointer x26), (.pointer x139_1)] w32 (Ret fun v_26 w33 => ∃ (x140_1 : Bool), v_26 = (.bool x140_1) ∧
  R (.bool (!x140_1)) w33))) ∧
  ((!x131_1) = false →
  R (.bool false) w31))) ∧
  (x127_1 = false →
  R (.bool false) w30))) ∧
  ((x123_1 == x78) = false →
  R (.bool false) w29))))))))))))))))))))))))))))))
theorem coadjutorlaw08_BitsBack.vc_eq (n : Int) (listA : Option Addr) (listN : Nat) (listC : Nat) (more : Int) (w : World) (R : Value → World → Prop) : fnV Try.prog Try.f10 (.c .nil (.c .nil (.lp [(6, none), (9, some (.int .i64)), (27, none), (28, none), (29, none), (30, none), (31, none), (32, none), (33, none), (34, none), (35, none), (36, none), (37, none), (38, none), (39, none), (40, none), (41, none), (42, none), (43, none), (44, none), (45, none)] (.c (.c .nil .nil) (.at_ 13 2 (.k .nil) (.at_ 13 8 (.k .nil) (.c .nil (.at_ 18 5 (.k .nil) (.at_ 18 12 (.k .nil) (.c .nil (.at_ 20 5 (.k .nil) (.at_ 20 11 (.k .nil) (.at_ 20 17 (.c .nil (.at_ 22 4 (.at_ 22 7 (.at_ 22 12 .nil .nil) .nil) .nil)) (.k (.at_ 22 4 (.at_ 22 7 (.at_ 22 12 .nil .nil) .nil) .nil))))))))))))))) [(.int .i64 n), (.slice listA listN listC), (.int .i64 more)] w R = coadjutorlaw08_BitsBack.vc n listA listN listC more w R := by kernel_rfl
theorem coadjutorlaw08_BitsBack.calls (n : Int) (listA : Option Addr) (listN : Nat) (listC : Nat) (more : Int) {w : World} {R : Value → World → Prop} (h : coadjutorlaw08_BitsBack.vc n listA listN listC more w R) : Calls Try.prog 10 #[(.int .i64 n), (.slice listA listN listC), (.int .i64 more)] w (Ret R) :=
  calls_V fit Try.func10 (.c .nil (.c .nil (.lp [(6, none), (9, some (.int .i64)), (27, none), (28, none), (29, none), (30, none), (31, none), (32, none), (33, none), (34, none), (35, none), (36, none), (37, none), (38, none), (39, none), (40, none), (41, none), (42, none), (43, none), (44, none), (45, none)] (.c (.c .nil .nil) (.at_ 13 2 (.k .nil) (.at_ 13 8 (.k .nil) (.c .nil (.at_ 18 5 (.k .nil) (.at_ 18 12 (.k .nil) (.c .nil (.at_ 20 5 (.k .nil) (.at_ 20 11 (.k .nil) (.at_ 20 17 (.c .nil (.at_ 22 4 (.at_ 22 7 (.at_ 22 12 .nil .nil) .nil) .nil)) (.k (.at_ 22 4 (.at_ 22 7 (.at_ 22 12 .nil .nil) .nil) .nil))))))))))))))) (by rw [show (#[(.int .i64 n), (.slice listA listN listC), (.int .i64 more)] : Array Value).toList = [(.int .i64 n), (.slice listA listN listC), (.int .i64 more)] from rfl, coadjutorlaw08_BitsBack.vc_eq]; exact h)
end Go.Proofs.Ytefidalhijpmdaa.Vc
