import Derived.Test.YtpefegcdcojokaaVc
import Derived.Test.YtpefegcdcojokaaH
import Derived.Test.YtpefegcdcojokaaProg
import Derived.KernelRfl
set_option linter.unusedVariables false
set_option maxRecDepth 100000
namespace Go.Proofs.Ytpefegcdcojokaa.Vc
open Go Go.Proofs Go.Proofs.Ytpefegcdcojokaa.V
/-- function 3 -/
def coadjutorlaw04_DiskSynced.vc (listA : Option Addr) (listN : Nat) (listC : Nat) (sync : Int) (keepA : Option Addr) (keepN : Nat) (keepC : Nat) (w : World) (R : Value → World → Prop) : Prop :=
  Calls Try.prog 8 #[] w (Ret fun v w1 => ∃ (x16 : Bool), v = (.bool x16) ∧
  ((!x16) = true →
  R (.bool false) w1) ∧
  ((!x16) = false →
  (decide (((listN : Nat) : Int) > (30 : Int)) = true →
  R (.bool true) w1) ∧
  (decide (((listN : Nat) : Int) > (30 : Int)) = false →
  (decide (((keepN : Nat) : Int) > (100 : Int)) = true →
  R (.bool true) w1) ∧
  (decide (((keepN : Nat) : Int) > (100 : Int)) = false →
  Calls Try.prog 9 #[(.int .i64 8)] w1 (Ret fun v_1 w2 => ∃ (x26 : Option Addr), v_1 = (.pointer x26) ∧
  ∃ J : Int → World → Prop, ((decide (((listN : Nat) : Int) > (0 : Int)) = true →
  (IntKind.u64.wrap (IntKind.i64.wrap (((listN : Nat) : Int) + 1))) ≠ 0 ∧
  J (IntKind.i64.wrap (Int.tmod (IntKind.u64.wrap sync) (IntKind.u64.wrap (IntKind.i64.wrap (((listN : Nat) : Int) + 1))))) w2) ∧
  (decide (((listN : Nat) : Int) > (0 : Int)) = false →
  J 0 w2)) ∧
  ∀ (jk : Nat → Value) (n : Int), ∀ w3 : World, J n w3 →
  ∀ w4 : World, w4 = w3.alloc (.cells #[(.int .u8 0), (.int .u8 0), (.int .u8 0), (.int .u8 0), (.int .u8 0), (.int .u8 0), (.int .u8 0), (.int .u8 0)] 28 (0, 0)) →
  (((∃ u, w4.cell? (⟨w3.heap.size, 0, none⟩ : Addr) = some u) ∧ w4.frozen? (⟨w3.heap.size, 0, none⟩ : Addr) = false) ∧ ((∃ u, w4.cell? (⟨w3.heap.size, 1, none⟩ : Addr) = some u) ∧ w4.frozen? (⟨w3.heap.size, 1, none⟩ : Addr) = false) ∧ ((∃ u, w4.cell? (⟨w3.heap.size, 2, none⟩ : Addr) = some u) ∧ w4.frozen? (⟨w3.heap.size, 2, none⟩ : Addr) = false) ∧ ((∃ u, w4.cell? (⟨w3.heap.size, 3, none⟩ : Addr) = some u) ∧ w4.frozen? (⟨w3.heap.size, 3, none⟩ : Addr) = false) ∧ ((∃ u, w4.cell? (⟨w3.heap.size, 4, none⟩ : Addr) = some u) ∧ w4.frozen? (⟨w3.heap.size, 4, none⟩ : Addr) = false) ∧ ((∃ u, w4.cell? (⟨w3.heap.size, 5, none⟩ : Addr) = some u) ∧ w4.frozen? (⟨w3.heap.size, 5, none⟩ : Addr) = false) ∧ ((∃ u, w4.cell? (⟨w3.heap.size, 6, none⟩ : Addr) = some u) ∧ w4.frozen? (⟨w3.heap.size, 6, none⟩ : Addr) = false) ∧ ((∃ u, w4.cell? (⟨w3.heap.size, 7, none⟩ : Addr) = some u) ∧ w4.frozen? (⟨w3.heap.size, 7, none⟩ : Addr) = false)) ∧ ∀ w5 : World, w5 = ((((((((w4.setCell (⟨w3.heap.size, 0, none⟩ : Addr) (.int .u8 0)).setCell (⟨w3.heap.size, 1, none⟩ : Addr) (.int .u8 0)).setCell (⟨w3.heap.size, 2, none⟩ : Addr) (.int .u8 0)).setCell (⟨w3.heap.size, 3, none⟩ : Addr) (.int .u8 0)).setCell (⟨w3.heap.size, 4, none⟩ : Addr) (.int .u8 0)).setCell (⟨w3.heap.size, 5, none⟩ : Addr) (.int .u8 0)).setCell (⟨w3.heap.size, 6, none⟩ : Addr) (.int .u8 0)).setCell (⟨w3.heap.size, 7, none⟩ : Addr) (.int .u8 0)) →
  ∃ vI : Int → Nat → World → Prop, (∃ vk_2 : Nat, vI 0 vk_2 w5) ∧
  ∀ (jk : Nat → Value) (i : Int), ∀ (vk : Nat) (w6 : World), vI i vk w6 →
  (decide (i < ((listN : Nat) : Int)) = true →
  ∃ J_1 : World → Prop, (∃ J_2 : World → Prop, (((i == n) = true →
  Calls Try.prog 10 #[(.pointer x26)] w6 (Ret fun v_2 w7 => ∃ (x50 : Int), v_2 = (.int .i64 x50) ∧
  ((x50 != (0 : Int)) = true →
  R (.bool false) w7) ∧
  ((x50 != (0 : Int)) = false →
  J_2 w7))) ∧
  ((i == n) = false →
  J_2 w6)) ∧
  ∀ (jk : Nat → Value), ∀ w8 : World, J_2 w8 →
  ∃ vS : World → Prop, ∀ w9 : World, w9 = w8.drew → vS w9 ∧
  (0 ≤ i ∧ i < ((listN : Nat) : Int)) ∧ someV listA fun p =>
  ∃ (x57 : Int), (∀ w10, vS w10 → w10.cell? (p.add (i.toNat * 1)) = some (.int .u8 x57)) ∧
  (8 : Int) ≠ 0 ∧
  (0 ≤ i ∧ i < ((listN : Nat) : Int)) ∧ someV listA fun p_1 =>
  ∃ (x63 : Int), (∀ w11, vS w11 → w11.cell? (p_1.add (i.toNat * 1)) = some (.int .u8 x63)) ∧
  Calls Try.prog 12 #[(.int .u8 x63)] w9 (Ret fun v_3 w12 => ∃ (x64 : ByteArray), v_3 = (.string x64) ∧
  vS w12 ∧
  Calls Try.prog 11 #[(.pointer x26), (.int .i64 (IntKind.i64.wrap (Int.tmod x57 8))), (.string x64)] w12 (Ret fun v_4 w13 => ∃ (x65 : Int), v_4 = (.int .i64 x65) ∧
  vS w13 ∧
  ((x65 != (0 : Int)) = true →
  R (.bool false) w13) ∧
  ((x65 != (0 : Int)) = false →
  (decide (i < n) = true →
  ∃ vS_1 : World → Prop, ∀ w14 : World, w14 = w13.drew → vS_1 w14 ∧
  (0 ≤ i ∧ i < ((listN : Nat) : Int)) ∧ someV listA fun p_2 =>
  ∃ (x73 : Int), (∀ w15, vS_1 w15 → w15.cell? (p_2.add (i.toNat * 1)) = some (.int .u8 x73)) ∧
  (8 : Int) ≠ 0 ∧
  (0 ≤ i ∧ i < ((listN : Nat) : Int)) ∧ someV listA fun p_3 =>
  ∃ (x78 : Int), (∀ w16, vS_1 w16 → w16.cell? (p_3.add (i.toNat * 1)) = some (.int .u8 x78)) ∧
  (0 ≤ (Int.tmod x73 8) ∧ (Int.tmod x73 8) < (8 : Int)) ∧
  (((∃ u, w14.cell? ((⟨w3.heap.size, 0, none⟩ : Addr).add ((Int.tmod x73 8).toNat * 1)) = some u) ∧ w14.frozen? ((⟨w3.heap.size, 0, none⟩ : Addr).add ((Int.tmod x73 8).toNat * 1)) = false)) ∧ ∀ w17 : World, w17 = (w14.setCell ((⟨w3.heap.size, 0, none⟩ : Addr).add ((Int.tmod x73 8).toNat * 1)) (.int .u8 x78)) →
  vS_1 w17 ∧
  J_1 w17) ∧
  (decide (i < n) = false →
  J_1 w13))))) ∧
  ∀ (jk : Nat → Value), ∀ w18 : World, J_1 w18 →
  ∃ vk_1 : Nat, vk_1 < vk ∧ vI (IntKind.i64.wrap (i + 1)) vk_1 w18) ∧
  (decide (i < ((listN : Nat) : Int)) = false →
  ∃ J_3 : World → Prop, (((n == ((listN : Nat) : Int)) = true →
  Calls Try.prog 10 #[(.pointer x26)] w6 (Ret fun v_5 w19 => ∃ (x86 : Int), v_5 = (.int .i64 x86) ∧
  ((x86 != (0 : Int)) = true →
  R (.bool false) w19) ∧
  ((x86 != (0 : Int)) = false →
  J_3 w19))) ∧
  ((n == ((listN : Nat) : Int)) = false →
  J_3 w6)) ∧
  ∀ (jk : Nat → Value), ∀ w20 : World, J_3 w20 →
  Calls Try.prog 13 #[(.pointer x26), (.slice keepA keepN keepC)] w20 (Ret fun v_6 w21 => v_6 = .tuple #[] ∧
  Calls Try.prog 10 #[(.pointer x26)] w21 (Ret fun v_7 w22 => ∃ (x93 : Int), v_7 = (.int .i64 x93) ∧
  ((x93 != (4 : Int)) = true →
  R (.bool false) w22) ∧
  ((x93 != (4 : Int)) = false →
  Calls Try.prog 14 #[(.pointer x26)] w22 (Ret fun v_8 w23 => v_8 = .tuple #[] ∧
  ∃ vI_1 : Int → Nat → World → Prop, (∃ vk_5 : Nat, vI_1 0 vk_5 w23) ∧
  ∀ (jk : Nat → Value) (vk_6 : Int), ∀ (vk_3 : Nat) (w24 : World), vI_1 vk_6 vk_3 w24 →
  (decide (vk_6 < (8 : Int)) = true →
  Calls Try.prog 15 #[(.pointer x26), (.int .i64 vk_6)] w24 (Ret fun v_9 w25 => ∃ (x104_0 : ByteArray), ∃ (x104_1 : Int), v_9 = (.tuple #[(.string x104_0), (.int .i64 x104_1)]) ∧
  ((x104_1 != (0 : Int)) = true →
  R (.bool false) w25) ∧
  ((x104_1 != (0 : Int)) = false →
  (0 ≤ vk_6 ∧ vk_6 < (8 : Int)) ∧
  ∃ (x112 : Int), w25.cell? ((⟨w3.heap.size, 0, none⟩ : Addr).add (vk_6.toNat * 1)) = some (.int .u8 x112) ∧
  Calls Try.prog 12 #[(.int .u8 x112)] w25 (Ret fun v_10 w26 => ∃ (x113 : ByteArray), v_10 = (.string x113) ∧
  ∃ vI_2 : Bool → Int → Nat → World → Prop, (∃ vk_9 : Nat, vI_2 (x104_0.toList == x113.toList) n vk_9 w26) ∧
  ∀ (jk : Nat → Value) (found : Bool) (i_1 : Int), ∀ (vk_7 : Nat) (w27 : World), vI_2 found i_1 vk_7 w27 →
  (decide (i_1 < ((listN : Nat) : Int)) = true →
  (found = true →
  ∃ vk_8 : Nat, vk_8 < vk_7 ∧ vI_2 true (IntKind.i64.wrap (i_1 + 1)) vk_8 w27) ∧
  (found = false →
  (0 ≤ i_1 ∧ i_1 < ((listN : Nat) : Int)) ∧ someV listA fun p_4 =>
  ∃ (x127 : Int), w27.cell? (p_4.add (i_1.toNat * 1)) = some (.int .u8 x127) ∧
  (8 : Int) ≠ 0 ∧
  (((IntKind.i64.wrap (Int.tmod x127 8)) == vk_6) = true →
  (0 ≤ i_1 ∧ i_1 < ((listN : Nat) : Int)) ∧ someV listA fun p_5 =>
  ∃ (x137 : Int), w27.cell? (p_5.add (i_1.toNat * 1)) = some (.int .u8 x137) ∧
  Calls Try.prog 12 #[(.int .u8 x137)] w27 (Ret fun v_11 w28 => ∃ (x138 : ByteArray), v_11 = (.string x138) ∧
  ∃ vk_8 : Nat, vk_8 < vk_7 ∧ vI_2 (x104_0.toList == x138.toList) (IntKind.i64.wrap (i_1 + 1)) vk_8 w28)) ∧
  (((IntKind.i64.wrap (Int.tmod x127 8)) == vk_6) = false →
  ∃ vk_8 : Nat, vk_8 < vk_7 ∧ vI_2 false (IntKind.i64.wrap (i_1 + 1)) vk_8 w27))) ∧
  (decide (i_1 < ((listN : Nat) : Int)) = false →
  ((!found) = true →
  R (.bool false) w27) ∧
  ((!found) = false →
  ∃ vk_4 : Nat, vk_4 < vk_3 ∧ vI_1 (IntKind.i64.wrap (vk_6 + 1)) vk_4 w27)))))) ∧
  (decide (vk_6 < (8 : Int)) = false →
  Calls Try.prog 16 #[(.pointer x26)] w24 (Ret fun v_12 w29 => ∃ (x145 : Int), v_12 = (.int .i64 x145) ∧
  R (.bool (x145 == (0 : Int))) w29))))))))))))
theorem coadjutorlaw04_DiskSynced.vc_eq (listA : Option Addr) (listN : Nat) (listC : Nat) (sync : Int) (keepA : Option Addr) (keepN : Nat) (keepC : Nat) (w : World) (R : Value → World → Prop) : fnV Try.prog Try.f3 (.c .nil (.at_ 3 3 (.k .nil) (.c .nil (.cut 2 [(8, some (.int .i64)), (27, none), (28, none), (29, none), (30, none), (31, none), (32, none), (33, none), (34, none), (35, none), (36, none), (37, none)] (.c .nil .nil) (.lp [(6, none), (10, some (.int .i64)), (39, none), (40, none), (41, none), (42, none), (43, none), (44, none), (45, none), (46, none), (47, none), (48, none), (49, none), (50, none), (51, none), (52, none), (53, none), (54, none), (55, none), (56, none), (57, none), (58, none), (59, none), (60, none), (61, none), (62, none), (63, none), (64, none), (65, none), (66, none), (67, none), (68, none), (69, none), (70, none), (71, none), (72, none), (73, none), (74, none), (75, none), (76, none), (77, none), (78, none), (79, none)] (.c (.cut 0 [(6, none), (45, none), (46, none), (47, none), (48, none), (49, none), (50, none), (51, none), (52, none), (53, none), (54, none), (55, none), (56, none), (57, none), (58, none), (59, none), (60, none), (61, none), (62, none), (63, none), (64, none), (65, none), (66, none), (67, none), (68, none), (69, none), (70, none), (71, none), (72, none), (73, none), (74, none), (75, none), (76, none), (77, none), (78, none), (79, none)] (.cut 0 [(6, none), (45, none), (46, none), (47, none), (48, none), (49, none), (50, none), (51, none), (52, none)] (.at_ 13 3 (.c .nil .nil) (.k .nil)) (.tk 0 (.tk 1 (.tk 2 (.tk 3 (.tk 4 (.tk 5 (.tk 6 (.tk 7 (.tk 8 (.tk 9 (.tk 10 (.alt 11 (.alt 12 (.tk 13 (.fin (.c .nil (.c (.tk 0 (.tk 1 (.tk 2 (.tk 3 (.tk 4 (.tk 5 (.tk 6 (.tk 7 (.tk 8 (.tk 9 (.alt 10 (.fin .nil) .nil))))))))))) .nil)))) .nil) .nil))))))))))))) .nil) (.cut 0 [(6, none), (80, none), (81, none), (82, none), (83, none), (84, none), (85, none), (86, none), (87, none), (88, none)] (.at_ 19 4 (.c .nil .nil) (.k .nil)) (.c .nil (.lp [(6, none), (11, some (.int .i64)), (12, none), (13, none), (14, none), (15, none), (97, none), (98, none), (99, none), (100, none), (101, none), (102, none), (103, none), (104, none), (105, none), (106, none), (107, none), (108, none), (109, none), (110, none), (111, none), (112, none), (113, none), (114, none), (115, none), (116, none), (117, none), (118, none), (119, none), (120, none), (121, none), (122, none), (123, none), (124, none), (125, none), (126, none), (127, none), (128, none), (129, none), (130, none), (131, none), (132, none), (133, none), (134, none), (135, none), (136, none), (137, none), (138, none), (139, none), (140, none), (141, none), (142, none), (143, none)] (.c (.c .nil (.lp [(14, some (.bool)), (15, some (.int .i64)), (116, none), (117, none), (118, none), (119, none), (120, none), (121, none), (122, none), (123, none), (124, none), (125, none), (126, none), (127, none), (128, none), (129, none), (130, none), (131, none), (132, none), (133, none), (134, none), (135, none), (136, none), (137, none), (138, none), (139, none), (140, none), (141, none)] (.c (.at_ 35 1 .nil (.at_ 35 10 .nil .nil)) (.c .nil .nil)))) .nil)))))))))) [(.slice listA listN listC), (.int .i64 sync), (.slice keepA keepN keepC)] w R = coadjutorlaw04_DiskSynced.vc listA listN listC sync keepA keepN keepC w R := by kernel_rfl
theorem coadjutorlaw04_DiskSynced.calls (listA : Option Addr) (listN : Nat) (listC : Nat) (sync : Int) (keepA : Option Addr) (keepN : Nat) (keepC : Nat) {w : World} {R : Value → World → Prop} (h : coadjutorlaw04_DiskSynced.vc listA listN listC sync keepA keepN keepC w R) : Calls Try.prog 3 #[(.slice listA listN listC), (.int .i64 sync), (.slice keepA keepN keepC)] w (Ret R) :=
  calls_V fit Try.func3 (.c .nil (.at_ 3 3 (.k .nil) (.c .nil (.cut 2 [(8, some (.int .i64)), (27, none), (28, none), (29, none), (30, none), (31, none), (32, none), (33, none), (34, none), (35, none), (36, none), (37, none)] (.c .nil .nil) (.lp [(6, none), (10, some (.int .i64)), (39, none), (40, none), (41, none), (42, none), (43, none), (44, none), (45, none), (46, none), (47, none), (48, none), (49, none), (50, none), (51, none), (52, none), (53, none), (54, none), (55, none), (56, none), (57, none), (58, none), (59, none), (60, none), (61, none), (62, none), (63, none), (64, none), (65, none), (66, none), (67, none), (68, none), (69, none), (70, none), (71, none), (72, none), (73, none), (74, none), (75, none), (76, none), (77, none), (78, none), (79, none)] (.c (.cut 0 [(6, none), (45, none), (46, none), (47, none), (48, none), (49, none), (50, none), (51, none), (52, none), (53, none), (54, none), (55, none), (56, none), (57, none), (58, none), (59, none), (60, none), (61, none), (62, none), (63, none), (64, none), (65, none), (66, none), (67, none), (68, none), (69, none), (70, none), (71, none), (72, none), (73, none), (74, none), (75, none), (76, none), (77, none), (78, none), (79, none)] (.cut 0 [(6, none), (45, none), (46, none), (47, none), (48, none), (49, none), (50, none), (51, none), (52, none)] (.at_ 13 3 (.c .nil .nil) (.k .nil)) (.tk 0 (.tk 1 (.tk 2 (.tk 3 (.tk 4 (.tk 5 (.tk 6 (.tk 7 (.tk 8 (.tk 9 (.tk 10 (.alt 11 (.alt 12 (.tk 13 (.fin (.c .nil (.c (.tk 0 (.tk 1 (.tk 2 (.tk 3 (.tk 4 (.tk 5 (.tk 6 (.tk 7 (.tk 8 (.tk 9 (.alt 10 (.fin .nil) .nil))))))))))) .nil)))) .nil) .nil))))))))))))) .nil) (.cut 0 [(6, none), (80, none), (81, none), (82, none), (83, none), (84, none), (85, none), (86, none), (87, none), (88, none)] (.at_ 19 4 (.c .nil .nil) (.k .nil)) (.c .nil (.lp [(6, none), (11, some (.int .i64)), (12, none), (13, none), (14, none), (15, none), (97, none), (98, none), (99, none), (100, none), (101, none), (102, none), (103, none), (104, none), (105, none), (106, none), (107, none), (108, none), (109, none), (110, none), (111, none), (112, none), (113, none), (114, none), (115, none), (116, none), (117, none), (118, none), (119, none), (120, none), (121, none), (122, none), (123, none), (124, none), (125, none), (126, none), (127, none), (128, none), (129, none), (130, none), (131, none), (132, none), (133, none), (134, none), (135, none), (136, none), (137, none), (138, none), (139, none), (140, none), (141, none), (142, none), (143, none)] (.c (.c .nil (.lp [(14, some (.bool)), (15, some (.int .i64)), (116, none), (117, none), (118, none), (119, none), (120, none), (121, none), (122, none), (123, none), (124, none), (125, none), (126, none), (127, none), (128, none), (129, none), (130, none), (131, none), (132, none), (133, none), (134, none), (135, none), (136, none), (137, none), (138, none), (139, none), (140, none), (141, none)] (.c (.at_ 35 1 .nil (.at_ 35 10 .nil .nil)) (.c .nil .nil)))) .nil)))))))))) (by rw [show (#[(.slice listA listN listC), (.int .i64 sync), (.slice keepA keepN keepC)] : Array Value).toList = [(.slice listA listN listC), (.int .i64 sync), (.slice keepA keepN keepC)] from rfl, coadjutorlaw04_DiskSynced.vc_eq]; exact h)
end Go.Proofs.Ytpefegcdcojokaa.Vc
