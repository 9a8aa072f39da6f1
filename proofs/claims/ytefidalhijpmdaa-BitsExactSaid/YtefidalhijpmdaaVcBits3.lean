import Derived.Test.YtefidalhijpmdaaVc
import Derived.Test.YtefidalhijpmdaaH
import Derived.Test.YtefidalhijpmdaaProg
import Derived.KernelRfl
set_option linter.unusedVariables false
set_option maxRecDepth 100000
namespace Go.Proofs.Ytefidalhijpmdaa.Vc
open Go Go.Proofs Go.Proofs.Ytefidalhijpmdaa.V
/-- function 8 -/
def coadjutorlaw08_BitsExact.vc (n : Int) (actsA : Option Addr) (actsN : Nat) (actsC : Nat) (w : World) (R : Value → World → Prop) : Prop :=
  Calls Try.prog 27 #[] w (Ret fun v w1 => ∃ (x20 : Bool), v = (.bool x20) ∧
  ((!x20) = true →
  R (.bool false) w1) ∧
  ((!x20) = false →
  Calls Try.prog 28 #[(.int .i64 n)] w1 (Ret fun v_1 w2 => ∃ (x23 : Option Addr), v_1 = (.pointer x23) ∧
  (decide (n < (1 : Int)) = true →
  R (.bool x23.isNone) w2) ∧
  (decide (n < (1 : Int)) = false →
  (decide (n > (1024 : Int)) = true →
  R (.bool x23.isNone) w2) ∧
  (decide (n > (1024 : Int)) = false →
  (n = n ∧ 0 ≤ n ∧ n * (1 : Int) ≤ 140737488355328) ∧ ∀ w3 : World, w3 = w2.alloc (.cells (zeroRow [(.bool false)] n.toNat).toArray 4 (0, 0)) →
  ∃ J : World → Prop, (∃ vI : Int → Nat → World → Prop, (∃ vk_2 : Nat, vI 0 vk_2 w3) ∧
  ∀ (jk : Nat → Value) (i : Int), ∀ (vk : Nat) (w4 : World), vI i vk w4 →
  (decide (i < ((actsN : Nat) : Int)) = true →
  (decide (i < (40 : Int)) = true →
  (0 ≤ i ∧ i < ((actsN : Nat) : Int)) ∧ someV actsA fun p =>
  ∃ (x470 : Int), ∃ (x471A : Option Addr), ∃ (x471N : Nat), ∃ (x471C : Nat), (w4.cell? (p.add (i.toNat * 2)) = some (.int .i64 x470) ∧ w4.cell? ((p.add (i.toNat * 2)).add 1) = some (.slice x471A x471N x471C)) ∧
  ∀ w5 : World, w5 = w4.alloc (.cells #[(.int .i64 0), (.slice none 0 0)] 41 (0, 0)) →
  (((∃ u, w5.cell? (⟨w4.heap.size, 0, none⟩ : Addr) = some u) ∧ w5.frozen? (⟨w4.heap.size, 0, none⟩ : Addr) = false) ∧ ((∃ u, w5.cell? (⟨w4.heap.size, 1, none⟩ : Addr) = some u) ∧ w5.frozen? (⟨w4.heap.size, 1, none⟩ : Addr) = false)) ∧ ∀ w6 : World, w6 = ((w5.setCell (⟨w4.heap.size, 0, none⟩ : Addr) (.int .i64 x470)).setCell (⟨w4.heap.size, 1, none⟩ : Addr) (.slice x471A x471N x471C)) →
  ∃ (x49A : Option Addr), ∃ (x49N : Nat), ∃ (x49C : Nat), w6.cell? (⟨w4.heap.size, 1, none⟩ : Addr) = some (.slice x49A x49N x49C) ∧
  (decide (((x49N : Nat) : Int) > (10 : Int)) = true →
  R (.bool true) w6) ∧
  (decide (((x49N : Nat) : Int) > (10 : Int)) = false →
  ∃ J_1 : Int → World → Prop, (∃ (x53 : Int), w6.cell? (⟨w4.heap.size, 0, none⟩ : Addr) = some (.int .i64 x53) ∧
  ((x53 == (3 : Int)) = true →
  ∃ (x57A : Option Addr), ∃ (x57N : Nat), ∃ (x57C : Nat), w6.cell? (⟨w4.heap.size, 1, none⟩ : Addr) = some (.slice x57A x57N x57C) ∧
  Calls Try.prog 34 #[(.pointer x23), (.slice x57A x57N x57C)] w6 (Ret fun v_2 w7 => ∃ (x58 : Int), v_2 = (.int .i64 x58) ∧
  J_1 x58 w7)) ∧
  ((x53 == (3 : Int)) = false →
  ∃ (x61A : Option Addr), ∃ (x61N : Nat), ∃ (x61C : Nat), w6.cell? (⟨w4.heap.size, 1, none⟩ : Addr) = some (.slice x61A x61N x61C) ∧
  Calls Try.prog 29 #[(.pointer x23), (.slice x61A x61N x61C)] w6 (Ret fun v_3 w8 => ∃ (x62 : Int), v_3 = (.int .i64 x62) ∧
  J_1 x62 w8))) ∧
  ∀ (jk : Nat → Value) (e : Int), ∀ w9 : World, J_1 e w9 →
  ∃ (x64A : Option Addr), ∃ (x64N : Nat), ∃ (x64C : Nat), w9.cell? (⟨w4.heap.size, 1, none⟩ : Addr) = some (.slice x64A x64N x64C) ∧
  Calls Try.prog 35 #[(.slice x64A x64N x64C), (.int .i64 n)] w9 (Ret fun v_4 w10 => ∃ (x66 : Bool), v_4 = (.bool x66) ∧
  ∃ J_2 : World → Prop, (((!(x66 == (e == (0 : Int)))) = true →
  R (.bool false) w10) ∧
  ((!(x66 == (e == (0 : Int)))) = false →
  ((!x66) = true →
  ((e != (3 : Int)) = true →
  R (.bool false) w10) ∧
  ((e != (3 : Int)) = false →
  J_2 w10)) ∧
  ((!x66) = false →
  J_2 w10))) ∧
  ∀ (jk : Nat → Value), ∀ w11 : World, J_2 w11 →
  ∃ J_3 : World → Prop, (∃ vI_1 : Int → Nat → World → Prop, (∃ vk_5 : Nat, vI_1 0 vk_5 w11) ∧
  ∀ (jk : Nat → Value) (vk_6 : Int), ∀ (vk_3 : Nat) (w12 : World), vI_1 vk_6 vk_3 w12 →
  ∃ (x82A : Option Addr), ∃ (x82N : Nat), ∃ (x82C : Nat), w12.cell? (⟨w4.heap.size, 1, none⟩ : Addr) = some (.slice x82A x82N x82C) ∧
  (decide (vk_6 < ((x82N : Nat) : Int)) = true →
  (x66 = true →
  ∃ vS : World → Prop, ∀ w13 : World, w13 = w12.drew → vS w13 ∧
  ∃ (x92A : Option Addr), ∃ (x92N : Nat), ∃ (x92C : Nat), (∀ w14, vS w14 → w14.cell? (⟨w4.heap.size, 1, none⟩ : Addr) = some (.slice x92A x92N x92C)) ∧
  (0 ≤ vk_6 ∧ vk_6 < ((x92N : Nat) : Int)) ∧ someV x92A fun p_1 =>
  ∃ (x95 : Int), (∀ w15, vS w15 → w15.cell? (p_1.add (vk_6.toNat * 1)) = some (.int .i64 x95)) ∧
  ∃ (x97 : Int), (∀ w16, vS w16 → w16.cell? (⟨w4.heap.size, 0, none⟩ : Addr) = some (.int .i64 x97)) ∧
  (0 ≤ x95 ∧ x95 < ((n.toNat : Nat) : Int)) ∧
  (((∃ u, w13.cell? ((⟨w2.heap.size, 0, none⟩ : Addr).add (x95.toNat * 1)) = some u) ∧ w13.frozen? ((⟨w2.heap.size, 0, none⟩ : Addr).add (x95.toNat * 1)) = false)) ∧ ∀ w17 : World, w17 = (w13.setCell ((⟨w2.heap.size, 0, none⟩ : Addr).add (x95.toNat * 1)) (.bool (x97 != (3 : Int)))) →
  vS w17 ∧
  ∃ vk_4 : Nat, vk_4 < vk_3 ∧ vI_1 (IntKind.i64.wrap (vk_6 + 1)) vk_4 w17) ∧
  (x66 = false →
  J_3 w12)) ∧
  (decide (vk_6 < ((x82N : Nat) : Int)) = false →
  J_3 w12)) ∧
  ∀ (jk : Nat → Value), ∀ w18 : World, J_3 w18 →
  ∃ J_4 : Bool → World → Prop, (∃ vI_2 : Bool → Int → Nat → World → Prop, (∃ vk_9 : Nat, vI_2 x66 0 vk_9 w18) ∧
  ∀ (jk : Nat → Value) (all : Bool) (vk_10 : Int), ∀ (vk_7 : Nat) (w19 : World), vI_2 all vk_10 vk_7 w19 →
  ∃ (x102A : Option Addr), ∃ (x102N : Nat), ∃ (x102C : Nat), w19.cell? (⟨w4.heap.size, 1, none⟩ : Addr) = some (.slice x102A x102N x102C) ∧
  (decide (vk_10 < ((x102N : Nat) : Int)) = true →
  (x66 = true →
  (all = true →
  ∃ (x114A : Option Addr), ∃ (x114N : Nat), ∃ (x114C : Nat), w19.cell? (⟨w4.heap.size, 1, none⟩ : Addr) = some (.slice x114A x114N x114C) ∧
  (0 ≤ vk_10 ∧ vk_10 < ((x114N : Nat) : Int)) ∧ someV x114A fun p_2 =>
  ∃ (x117 : Int), w19.cell? (p_2.add (vk_10.toNat * 1)) = some (.int .i64 x117) ∧
  (0 ≤ x117 ∧ x117 < ((n.toNat : Nat) : Int)) ∧
  ∃ (x119 : Bool), w19.cell? ((⟨w2.heap.size, 0, none⟩ : Addr).add (x117.toNat * 1)) = some (.bool x119) ∧
  ∃ vk_8 : Nat, vk_8 < vk_7 ∧ vI_2 x119 (IntKind.i64.wrap (vk_10 + 1)) vk_8 w19) ∧
  (all = false →
  ∃ vk_8 : Nat, vk_8 < vk_7 ∧ vI_2 false (IntKind.i64.wrap (vk_10 + 1)) vk_8 w19)) ∧
  (x66 = false →
  J_4 all w19)) ∧
  (decide (vk_10 < ((x102N : Nat) : Int)) = false →
  J_4 all w19)) ∧
  ∀ (jk : Nat → Value) (all_1 : Bool), ∀ w20 : World, J_4 all_1 w20 →
  ∃ (x123A : Option Addr), ∃ (x123N : Nat), ∃ (x123C : Nat), w20.cell? (⟨w4.heap.size, 1, none⟩ : Addr) = some (.slice x123A x123N x123C) ∧
  Calls Try.prog 32 #[(.pointer x23), (.slice x123A x123N x123C)] w20 (Ret fun v_5 w21 => ∃ (x124 : Bool), v_5 = (.bool x124) ∧
  ((!(x124 == all_1)) = true →
  R (.bool false) w21) ∧
  ((!(x124 == all_1)) = false →
  ∃ vk_1 : Nat, vk_1 < vk ∧ vI (IntKind.i64.wrap (i + 1)) vk_1 w21))))) ∧
  (decide (i < (40 : Int)) = false →
  J w4)) ∧
  (decide (i < ((actsN : Nat) : Int)) = false →
  J w4)) ∧
  ∀ (jk : Nat → Value), ∀ w22 : World, J w22 →
  Calls Try.prog 33 #[(.pointer x23)] w22 (Ret fun v_6 w23 => ∃ (x128A : Option Addr), ∃ (x128N : Nat), ∃ (x128C : Nat), v_6 = (.slice x128A x128N x128C) ∧
  ∃ vI_3 : Int → Int → Nat → World → Prop, (∃ vk_13 : Nat, vI_3 (-1) (IntKind.i64.wrap (n - 1)) vk_13 w23) ∧
  ∀ (jk : Nat → Value) (first : Int) (i_1 : Int), ∀ (vk_11 : Nat) (w24 : World), vI_3 first i_1 vk_11 w24 →
  (decide (i_1 ≥ (0 : Int)) = true →
  (0 ≤ i_1 ∧ i_1 < ((n.toNat : Nat) : Int)) ∧
  ∃ (x138 : Bool), w24.cell? ((⟨w2.heap.size, 0, none⟩ : Addr).add (i_1.toNat * 1)) = some (.bool x138) ∧
  ((!x138) = true →
  ∃ vk_12 : Nat, vk_12 < vk_11 ∧ vI_3 i_1 (IntKind.i64.wrap (i_1 - 1)) vk_12 w24) ∧
  ((!x138) = false →
  ∃ vk_12 : Nat, vk_12 < vk_11 ∧ vI_3 first (IntKind.i64.wrap (i_1 - 1)) vk_12 w24)) ∧
  (decide (i_1 ≥ (0 : Int)) = false →
  ∃ vI_4 : Int → Int → Nat → World → Prop, (∃ vk_16 : Nat, vI_4 0 0 vk_16 w24) ∧
  ∀ (jk : Nat → Value) (count : Int) (i_2 : Int), ∀ (vk_14 : Nat) (w25 : World), vI_4 count i_2 vk_14 w25 →
  (decide (i_2 < n) = true →
  (0 ≤ i_2 ∧ i_2 < ((n.toNat : Nat) : Int)) ∧
  ∃ (x149 : Bool), w25.cell? ((⟨w2.heap.size, 0, none⟩ : Addr).add (i_2.toNat * 1)) = some (.bool x149) ∧
  (x149 = true →
  (decide (count ≥ ((x128N : Nat) : Int)) = true →
  R (.bool false) w25) ∧
  (decide (count ≥ ((x128N : Nat) : Int)) = false →
  (0 ≤ count ∧ count < ((x128N : Nat) : Int)) ∧ someV x128A fun p_3 =>
  ∃ (x158 : Int), w25.cell? (p_3.add (count.toNat * 1)) = some (.int .i64 x158) ∧
  ((x158 != i_2) = true →
  R (.bool false) w25) ∧
  ((x158 != i_2) = false →
  ∃ vk_15 : Nat, vk_15 < vk_14 ∧ vI_4 (IntKind.i64.wrap (count + 1)) (IntKind.i64.wrap (i_2 + 1)) vk_15 w25))) ∧
  (x149 = false →
  ∃ vk_15 : Nat, vk_15 < vk_14 ∧ vI_4 count (IntKind.i64.wrap (i_2 + 1)) vk_15 w25)) ∧
  (decide (i_2 < n) = false →
  ((((x128N : Nat) : Int) == count) = true →
  Calls Try.prog 30 #[(.pointer x23)] w25 (Ret fun v_7 w26 => ∃ (x170 : Int), v_7 = (.int .i64 x170) ∧
  ((x170 == count) = true →
  Calls Try.prog 36 #[(.pointer x23)] w26 (Ret fun v_8 w27 => ∃ (x176 : Int), v_8 = (.int .i64 x176) ∧
  ((x176 == n) = true →
  Calls Try.prog 31 #[(.pointer x23)] w27 (Ret fun v_9 w28 => ∃ (x182 : Int), v_9 = (.int .i64 x182) ∧
  ((x182 == first) = true →
  Calls Try.prog 37 #[(.pointer x23)] w28 (Ret fun v_10 w29 => ∃ (x188 : ByteArray), v_10 = (.string x188) ∧
  Calls Try.prog 38 #[(.slice (some (⟨w2.heap.size, 0, none⟩ : Addr)) n.toNat n.toNat)] w29 (Ret fun v_11 w30 => ∃ (x190 : ByteArray), v_11 = (.string x190) ∧
  ((x188.toList == x190.toList) = true →
  ∀ w31 : World, w31 = w30.alloc (.cells #[(.int .i64 1)] 3 (0, 0)) →
  Calls Try.prog 29 #[(.pointer none), (.slice (some (⟨w30.heap.size, 0, none⟩ : Addr)) 1 1)] w31 (Ret fun v_12 w32 => ∃ (x196 : Int), v_12 = (.int .i64 x196) ∧
  ((x196 == (2 : Int)) = true →
  Calls Try.prog 34 #[(.pointer none), (.slice none 0 0)] w32 (Ret fun v_13 w33 => ∃ (x201 : Int), v_13 = (.int .i64 x201) ∧
  ((x201 == (2 : Int)) = true →
  Calls Try.prog 32 #[(.pointer none), (.slice none 0 0)] w33 (Ret fun v_14 w34 => ∃ (x206 : Bool), v_14 = (.bool x206) ∧
  ((!x206) = true →
  Calls Try.prog 30 #[(.pointer none)] w34 (Ret fun v_15 w35 => ∃ (x211 : Int), v_15 = (.int .i64 x211) ∧
  Calls Try.prog 36 #[(.pointer none)] w35 (Ret fun v_16 w36 => ∃ (x213 : Int), v_16 = (.int .i64 x213) ∧
  Calls Try.prog 33 #[(.pointer none)] w36 (Ret fun v_17 w37 => ∃ (x216A : Option Addr), ∃ (x216N : Nat), ∃ (x216C : Nat), v_17 = (.slice x216A x216N x216C) ∧
  (((IntKind.i64.wrap ((IntKind.i64.wrap (x211 + x213)) + ((x216N : Nat) : Int))) == (0 : Int)) = true →
  Calls Try.prog 31 #[(.pointer none)] w37 (Ret fun v_18 w38 => ∃ (x223 : Int), v_18 = (.int .i64 x223) ∧
  ((x223 == (-1 : Int)) = true →
  Calls Try.prog 37 #[(.pointer none)] w38 (Ret fun v_19 w39 => ∃ (x228 : ByteArray), v_19 = (.string x228) ∧
  R (.bool (x228.toList == (ByteArray.mk #[]).toList)) w39)) ∧
  ((x223 == (-1 : Int)) = false →
  R (.bool false) w38))) ∧
  (((IntKind.i64.wrap ((IntKind.i64.wrap (x211 + x213)) + ((x216N : Nat) : Int))) == (0 : Int)) = false →
  R (.bool false) w37))))) ∧
  ((!x206) = false →
  R (.bool false) w34))) ∧
  ((x201 == (2 : Int)) = false →
  R (.bool false) w33))) ∧
  ((x196 == (2 : Int)) = false →
  R (.bool false) w32))) ∧
  ((x188.toList == x190.toList) = false →
  R (.bool false) w30)))) ∧
  ((x182 == first) = false →
  R (.bool false) w28))) ∧
  ((x176 == n) = false →
  R (.bool false) w27))) ∧
  ((x170 == count) = false →
  R (.bool false) w26))) ∧
  ((((x128N : Nat) : Int) == count) = false →
  R (.bool false) w25)))))))))
theorem coadjutorlaw08_BitsExact.vc_eq (n : Int) (actsA : Option Addr) (actsN : Nat) (actsC : Nat) (w : World) (R : Value → World → Prop) : fnV Try.prog Try.f8 (.c .nil (.at_ 4 2 (.k .nil) (.c .nil (.cut 1 [(4, none), (7, none), (8, none), (9, none), (10, none), (11, none), (12, none), (13, none), (34, none), (35, none), (36, none), (37, none), (38, none), (39, none), (40, none), (41, none), (42, none), (43, none), (44, none), (45, none), (46, none), (47, none), (48, none), (49, none), (50, none), (51, none), (52, none), (53, none), (54, none), (55, none), (56, none), (57, none), (58, none), (59, none), (60, none), (61, none), (62, none), (63, none), (64, none), (65, none), (66, none), (67, none), (68, none), (69, none), (70, none), (71, none), (72, none), (73, none), (74, none), (75, none), (76, none), (77, none), (78, none), (79, none), (80, none), (81, none), (82, none), (83, none), (84, none), (85, none), (86, none), (87, none), (88, none), (89, none), (90, none), (91, none), (92, none), (93, none), (94, none), (95, none), (96, none), (97, none), (98, none), (99, none), (100, none), (101, none), (102, none), (103, none), (104, none), (105, none), (106, none), (107, none), (108, none), (109, none), (110, none), (111, none), (112, none), (113, none), (114, none), (115, none), (116, none), (117, none), (118, none), (119, none), (120, none), (121, none), (122, none), (123, none), (124, none), (125, none), (126, none)] (.lp [(4, none), (7, some (.int .i64)), (8, none), (9, none), (10, none), (11, none), (12, none), (13, none), (34, none), (35, none), (36, none), (37, none), (38, none), (39, none), (40, none), (41, none), (42, none), (43, none), (44, none), (45, none), (46, none), (47, none), (48, none), (49, none), (50, none), (51, none), (52, none), (53, none), (54, none), (55, none), (56, none), (57, none), (58, none), (59, none), (60, none), (61, none), (62, none), (63, none), (64, none), (65, none), (66, none), (67, none), (68, none), (69, none), (70, none), (71, none), (72, none), (73, none), (74, none), (75, none), (76, none), (77, none), (78, none), (79, none), (80, none), (81, none), (82, none), (83, none), (84, none), (85, none), (86, none), (87, none), (88, none), (89, none), (90, none), (91, none), (92, none), (93, none), (94, none), (95, none), (96, none), (97, none), (98, none), (99, none), (100, none), (101, none), (102, none), (103, none), (104, none), (105, none), (106, none), (107, none), (108, none), (109, none), (110, none), (111, none), (112, none), (113, none), (114, none), (115, none), (116, none), (117, none), (118, none), (119, none), (120, none), (121, none), (122, none), (123, none), (124, none), (125, none), (126, none)] (.at_ 8 4 (.c (.c .nil (.cut 1 [(9, some (.int .i64)), (52, none), (53, none), (54, none), (55, none), (56, none), (57, none), (58, none), (59, none), (60, none), (61, none), (62, none)] (.c .nil .nil) (.cut 1 [(4, none), (67, none), (68, none), (69, none), (70, none), (71, none), (72, none), (73, none), (74, none), (75, none), (76, none), (77, none), (78, none)] (.at_ 18 4 (.k .nil) (.at_ 18 7 (.c .nil .nil) (.k .nil))) (.cut 1 [(12, none), (80, none), (81, none), (82, none), (83, none), (84, none), (85, none), (86, none), (87, none), (88, none), (89, none), (90, none), (91, none), (92, none), (93, none), (94, none), (95, none), (96, none), (97, none), (98, none), (99, none)] (.lp [(12, some (.int .i64)), (80, none), (81, none), (82, none), (83, none), (84, none), (85, none), (86, none), (87, none), (88, none), (89, none), (90, none), (91, none), (92, none), (93, none), (94, none), (95, none), (96, none), (97, none), (98, none), (99, none)] (.at_ 22 5 (.c (.tk 0 (.tk 1 (.tk 2 (.tk 3 (.tk 4 (.tk 5 (.tk 6 (.tk 7 (.tk 8 (.tk 9 (.alt 10 (.fin .nil) .nil))))))))))) .nil) (.k .nil))) (.cut 0 [(11, some (.bool)), (13, none), (100, none), (101, none), (102, none), (103, none), (104, none), (105, none), (106, none), (107, none), (108, none), (109, none), (110, none), (111, none), (112, none), (113, none), (114, none), (115, none), (116, none), (117, none), (118, none), (119, none), (120, none)] (.lp [(11, some (.bool)), (13, some (.int .i64)), (100, none), (101, none), (102, none), (103, none), (104, none), (105, none), (106, none), (107, none), (108, none), (109, none), (110, none), (111, none), (112, none), (113, none), (114, none), (115, none), (116, none), (117, none), (118, none), (119, none), (120, none)] (.at_ 26 5 (.c (.at_ 28 1 .nil .nil) .nil) (.k .nil))) (.c .nil .nil)))))) .nil) (.k .nil))) (.lp [(16, some (.int .i64)), (17, some (.int .i64)), (131, none), (132, none), (133, none), (134, none), (135, none), (136, none), (137, none), (138, none), (139, none), (140, none)] (.c (.c .nil .nil) (.lp [(4, none), (15, some (.int .i64)), (18, some (.int .i64)), (141, none), (142, none), (143, none), (144, none), (145, none), (146, none), (147, none), (148, none), (149, none), (150, none), (151, none), (152, none), (153, none), (154, none), (155, none), (156, none), (157, none), (158, none), (159, none), (160, none), (161, none), (162, none), (163, none)] (.c (.c (.at_ 43 4 (.k .nil) (.c .nil .nil)) .nil) (.at_ 47 4 (.at_ 47 10 (.at_ 47 16 (.at_ 47 22 (.at_ 47 29 (.at_ 47 35 (.at_ 47 40 (.at_ 47 45 (.at_ 47 57 (.at_ 47 62 .nil .nil) .nil) .nil) .nil) .nil) .nil) .nil) .nil) .nil) .nil))))))))) [(.int .i64 n), (.slice actsA actsN actsC)] w R = coadjutorlaw08_BitsExact.vc n actsA actsN actsC w R := by kernel_rfl
theorem coadjutorlaw08_BitsExact.calls (n : Int) (actsA : Option Addr) (actsN : Nat) (actsC : Nat) {w : World} {R : Value → World → Prop} (h : coadjutorlaw08_BitsExact.vc n actsA actsN actsC w R) : Calls Try.prog 8 #[(.int .i64 n), (.slice actsA actsN actsC)] w (Ret R) :=
  calls_V fit Try.func8 (.c .nil (.at_ 4 2 (.k .nil) (.c .nil (.cut 1 [(4, none), (7, none), (8, none), (9, none), (10, none), (11, none), (12, none), (13, none), (34, none), (35, none), (36, none), (37, none), (38, none), (39, none), (40, none), (41, none), (42, none), (43, none), (44, none), (45, none), (46, none), (47, none), (48, none), (49, none), (50, none), (51, none), (52, none), (53, none), (54, none), (55, none), (56, none), (57, none), (58, none), (59, none), (60, none), (61, none), (62, none), (63, none), (64, none), (65, none), (66, none), (67, none), (68, none), (69, none), (70, none), (71, none), (72, none), (73, none), (74, none), (75, none), (76, none), (77, none), (78, none), (79, none), (80, none), (81, none), (82, none), (83, none), (84, none), (85, none), (86, none), (87, none), (88, none), (89, none), (90, none), (91, none), (92, none), (93, none), (94, none), (95, none), (96, none), (97, none), (98, none), (99, none), (100, none), (101, none), (102, none), (103, none), (104, none), (105, none), (106, none), (107, none), (108, none), (109, none), (110, none), (111, none), (112, none), (113, none), (114, none), (115, none), (116, none), (117, none), (118, none), (119, none), (120, none), (121, none), (122, none), (123, none), (124, none), (125, none), (126, none)] (.lp [(4, none), (7, some (.int .i64)), (8, none), (9, none), (10, none), (11, none), (12, none), (13, none), (34, none), (35, none), (36, none), (37, none), (38, none), (39, none), (40, none), (41, none), (42, none), (43, none), (44, none), (45, none), (46, none), (47, none), (48, none), (49, none), (50, none), (51, none), (52, none), (53, none), (54, none), (55, none), (56, none), (57, none), (58, none), (59, none), (60, none), (61, none), (62, none), (63, none), (64, none), (65, none), (66, none), (67, none), (68, none), (69, none), (70, none), (71, none), (72, none), (73, none), (74, none), (75, none), (76, none), (77, none), (78, none), (79, none), (80, none), (81, none), (82, none), (83, none), (84, none), (85, none), (86, none), (87, none), (88, none), (89, none), (90, none), (91, none), (92, none), (93, none), (94, none), (95, none), (96, none), (97, none), (98, none), (99, none), (100, none), (101, none), (102, none), (103, none), (104, none), (105, none), (106, none), (107, none), (108, none), (109, none), (110, none), (111, none), (112, none), (113, none), (114, none), (115, none), (116, none), (117, none), (118, none), (119, none), (120, none), (121, none), (122, none), (123, none), (124, none), (125, none), (126, none)] (.at_ 8 4 (.c (.c .nil (.cut 1 [(9, some (.int .i64)), (52, none), (53, none), (54, none), (55, none), (56, none), (57, none), (58, none), (59, none), (60, none), (61, none), (62, none)] (.c .nil .nil) (.cut 1 [(4, none), (67, none), (68, none), (69, none), (70, none), (71, none), (72, none), (73, none), (74, none), (75, none), (76, none), (77, none), (78, none)] (.at_ 18 4 (.k .nil) (.at_ 18 7 (.c .nil .nil) (.k .nil))) (.cut 1 [(12, none), (80, none), (81, none), (82, none), (83, none), (84, none), (85, none), (86, none), (87, none), (88, none), (89, none), (90, none), (91, none), (92, none), (93, none), (94, none), (95, none), (96, none), (97, none), (98, none), (99, none)] (.lp [(12, some (.int .i64)), (80, none), (81, none), (82, none), (83, none), (84, none), (85, none), (86, none), (87, none), (88, none), (89, none), (90, none), (91, none), (92, none), (93, none), (94, none), (95, none), (96, none), (97, none), (98, none), (99, none)] (.at_ 22 5 (.c (.tk 0 (.tk 1 (.tk 2 (.tk 3 (.tk 4 (.tk 5 (.tk 6 (.tk 7 (.tk 8 (.tk 9 (.alt 10 (.fin .nil) .nil))))))))))) .nil) (.k .nil))) (.cut 0 [(11, some (.bool)), (13, none), (100, none), (101, none), (102, none), (103, none), (104, none), (105, none), (106, none), (107, none), (108, none), (109, none), (110, none), (111, none), (112, none), (113, none), (114, none), (115, none), (116, none), (117, none), (118, none), (119, none), (120, none)] (.lp [(11, some (.bool)), (13, some (.int .i64)), (100, none), (101, none), (102, none), (103, none), (104, none), (105, none), (106, none), (107, none), (108, none), (109, none), (110, none), (111, none), (112, none), (113, none), (114, none), (115, none), (116, none), (117, none), (118, none), (119, none), (120, none)] (.at_ 26 5 (.c (.at_ 28 1 .nil .nil) .nil) (.k .nil))) (.c .nil .nil)))))) .nil) (.k .nil))) (.lp [(16, some (.int .i64)), (17, some (.int .i64)), (131, none), (132, none), (133, none), (134, none), (135, none), (136, none), (137, none), (138, none), (139, none), (140, none)] (.c (.c .nil .nil) (.lp [(4, none), (15, some (.int .i64)), (18, some (.int .i64)), (141, none), (142, none), (143, none), (144, none), (145, none), (146, none), (147, none), (148, none), (149, none), (150, none), (151, none), (152, none), (153, none), (154, none), (155, none), (156, none), (157, none), (158, none), (159, none), (160, none), (161, none), (162, none), (163, none)] (.c (.c (.at_ 43 4 (.k .nil) (.c .nil .nil)) .nil) (.at_ 47 4 (.at_ 47 10 (.at_ 47 16 (.at_ 47 22 (.at_ 47 29 (.at_ 47 35 (.at_ 47 40 (.at_ 47 45 (.at_ 47 57 (.at_ 47 62 .nil .nil) .nil) .nil) .nil) .nil) .nil) .nil) .nil) .nil) .nil))))))))) (by rw [show (#[(.int .i64 n), (.slice actsA actsN actsC)] : Array Value).toList = [(.int .i64 n), (.slice actsA actsN actsC)] from rfl, coadjutorlaw08_BitsExact.vc_eq]; exact h)
end Go.Proofs.Ytefidalhijpmdaa.Vc
