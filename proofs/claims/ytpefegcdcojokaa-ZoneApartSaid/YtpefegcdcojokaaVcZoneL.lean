import Derived.Test.YtpefegcdcojokaaVc
import Derived.Test.YtpefegcdcojokaaH
import Derived.Test.YtpefegcdcojokaaProg
import Derived.KernelRfl
set_option linter.unusedVariables false
set_option maxRecDepth 100000
namespace Go.Proofs.Ytpefegcdcojokaa.Vc
open Go Go.Proofs Go.Proofs.Ytpefegcdcojokaa.V
/-- function 6 -/
def coadjutorlaw05_ZoneFill.vc (image : ByteArray) (b : Int) (w : World) (R : Value → World → Prop) : Prop :=
  Calls Try.prog 23 #[] w (Ret fun v w1 => ∃ (x12 : Bool), v = (.bool x12) ∧
  ((!x12) = true →
  R (.bool false) w1) ∧
  ((!x12) = false →
  (decide (((image.size : Nat) : Int) > (320 : Int)) = true →
  R (.bool true) w1) ∧
  (decide (((image.size : Nat) : Int) > (320 : Int)) = false →
  (decide (((image.size : Nat) : Int) < (32 : Int)) = true →
  R (.bool true) w1) ∧
  (decide (((image.size : Nat) : Int) < (32 : Int)) = false →
  Calls Try.prog 17 #[(.string image)] w1 (Ret fun v_1 w2 => ∃ (x23 : Option Addr), v_1 = (.pointer x23) ∧
  Calls Try.prog 19 #[(.pointer x23)] w2 (Ret fun v_2 w3 => ∃ (x27 : Int), v_2 = (.int .i64 x27) ∧
  Calls Try.prog 24 #[(.pointer x23), (.int .i64 0), (.int .i64 x27)] w3 (Ret fun v_3 w4 => ∃ (x28_0 : Option Addr), ∃ (x28_1 : Int), v_3 = (.tuple #[(.pointer x28_0), (.int .i64 x28_1)]) ∧
  ((x28_1 != (0 : Int)) = true →
  R (.bool false) w4) ∧
  ((x28_1 != (0 : Int)) = false →
  Calls Try.prog 25 #[(.pointer x28_0), (.int .u8 b)] w4 (Ret fun v_4 w5 => ∃ (x36 : Int), v_4 = (.int .i64 x36) ∧
  ((x36 != (0 : Int)) = true →
  R (.bool false) w5) ∧
  ((x36 != (0 : Int)) = false →
  someV x28_0 fun p =>
  ∃ (x42 : Option Addr), w5.cell? p = some (.pointer x42) ∧
  Calls Try.prog 22 #[(.pointer x42)] w5 (Ret fun v_5 w6 => ∃ (x43 : Int), v_5 = (.int .i64 x43) ∧
  Calls Try.prog 26 #[(.pointer x28_0)] w6 (Ret fun v_6 w7 => ∃ (x46_0 : ByteArray), ∃ (x46_1 : Int), v_6 = (.tuple #[(.string x46_0), (.int .i64 x46_1)]) ∧
  ∃ vI : Int → Nat → World → Prop, (∃ vk_2 : Nat, vI 0 vk_2 w7) ∧
  ∀ (jk : Nat → Value) (i : Int), ∀ (vk : Nat) (w8 : World), vI i vk w8 →
  (decide (i < ((x46_0.size : Nat) : Int)) = true →
  (0 ≤ i ∧ i < ((x46_0.size : Nat) : Int)) ∧
  (((bt x46_0 i) != b) = true →
  R (.bool false) w8) ∧
  (((bt x46_0 i) != b) = false →
  ∃ vk_1 : Nat, vk_1 < vk ∧ vI (IntKind.i64.wrap (i + 1)) vk_1 w8)) ∧
  (decide (i < ((x46_0.size : Nat) : Int)) = false →
  ((x46_1 == (0 : Int)) = true →
  Calls Try.prog 27 #[(.pointer x28_0)] w8 (Ret fun v_7 w9 => ∃ (x66 : Int), v_7 = (.int .i64 x66) ∧
  ((((x46_0.size : Nat) : Int) == (IntKind.i64.wrap (x66 * 32))) = true →
  Calls Try.prog 27 #[(.pointer x28_0)] w9 (Ret fun v_8 w10 => ∃ (x73 : Int), v_8 = (.int .i64 x73) ∧
  (decide (x43 ≤ x73) = true →
  Calls Try.prog 25 #[(.pointer x28_0), (.int .u8 b)] w10 (Ret fun v_9 w11 => ∃ (x79 : Int), v_9 = (.int .i64 x79) ∧
  ((x79 == (0 : Int)) = true →
  someV x28_0 fun p_1 =>
  ∃ (x86 : Option Addr), w11.cell? p_1 = some (.pointer x86) ∧
  Calls Try.prog 22 #[(.pointer x86)] w11 (Ret fun v_10 w12 => ∃ (x87 : Int), v_10 = (.int .i64 x87) ∧
  R (.bool (x87 == x43)) w12)) ∧
  ((x79 == (0 : Int)) = false →
  R (.bool false) w11))) ∧
  (decide (x43 ≤ x73) = false →
  R (.bool false) w10))) ∧
  ((((x46_0.size : Nat) : Int) == (IntKind.i64.wrap (x66 * 32))) = false →
  R (.bool false) w9))) ∧
  ((x46_1 == (0 : Int)) = false →
  R (.bool false) w8))))))))))))))
theorem coadjutorlaw05_ZoneFill.vc_eq (image : ByteArray) (b : Int) (w : World) (R : Value → World → Prop) : fnV Try.prog Try.f6 (.c .nil (.at_ 3 3 (.k .nil) (.c .nil (.at_ 7 2 (.k .nil) (.c .nil (.lp [(4, none), (11, some (.int .i64)), (49, none), (50, none), (51, none), (52, none), (53, none), (54, none), (55, none), (56, none), (57, none), (58, none), (59, none)] (.c (.c .nil .nil) (.at_ 16 2 (.at_ 16 10 (.at_ 16 16 (.at_ 16 22 .nil .nil) .nil) .nil) .nil)))))))) [(.string image), (.int .u8 b)] w R = coadjutorlaw05_ZoneFill.vc image b w R := by kernel_rfl
theorem coadjutorlaw05_ZoneFill.calls (image : ByteArray) (b : Int) {w : World} {R : Value → World → Prop} (h : coadjutorlaw05_ZoneFill.vc image b w R) : Calls Try.prog 6 #[(.string image), (.int .u8 b)] w (Ret R) :=
  calls_V fit Try.func6 (.c .nil (.at_ 3 3 (.k .nil) (.c .nil (.at_ 7 2 (.k .nil) (.c .nil (.lp [(4, none), (11, some (.int .i64)), (49, none), (50, none), (51, none), (52, none), (53, none), (54, none), (55, none), (56, none), (57, none), (58, none), (59, none)] (.c (.c .nil .nil) (.at_ 16 2 (.at_ 16 10 (.at_ 16 16 (.at_ 16 22 .nil .nil) .nil) .nil) .nil)))))))) (by rw [show (#[(.string image), (.int .u8 b)] : Array Value).toList = [(.string image), (.int .u8 b)] from rfl, coadjutorlaw05_ZoneFill.vc_eq]; exact h)
/-- function 7 -/
def coadjutorlaw05_ZoneApart.vc (listA : Option Addr) (listN : Nat) (listC : Nat) (fill : Int) (w : World) (R : Value → World → Prop) : Prop :=
  Calls Try.prog 23 #[] w (Ret fun v w1 => ∃ (x24 : Bool), v = (.bool x24) ∧
  ((!x24) = true →
  R (.bool false) w1) ∧
  ((!x24) = false →
  Calls Try.prog 9 #[(.int .i64 10)] w1 (Ret fun v_1 w2 => ∃ (x26 : Option Addr), v_1 = (.pointer x26) ∧
  Calls Try.prog 24 #[(.pointer x26), (.int .i64 1), (.int .i64 4)] w2 (Ret fun v_2 w3 => ∃ (x29_0 : Option Addr), ∃ (x29_1 : Int), v_2 = (.tuple #[(.pointer x29_0), (.int .i64 x29_1)]) ∧
  Calls Try.prog 24 #[(.pointer x26), (.int .i64 5), (.int .i64 4)] w3 (Ret fun v_3 w4 => ∃ (x34_0 : Option Addr), ∃ (x34_1 : Int), v_3 = (.tuple #[(.pointer x34_0), (.int .i64 x34_1)]) ∧
  ((x29_1 != (0 : Int)) = true →
  R (.bool false) w4) ∧
  ((x29_1 != (0 : Int)) = false →
  ((x34_1 != (0 : Int)) = true →
  R (.bool false) w4) ∧
  ((x34_1 != (0 : Int)) = false →
  ∃ J : World → Prop, (∃ vI : Int → Nat → World → Prop, (∃ vk_2 : Nat, vI 0 vk_2 w4) ∧
  ∀ (jk : Nat → Value) (i : Int), ∀ (vk : Nat) (w5 : World), vI i vk w5 →
  (decide (i < ((listN : Nat) : Int)) = true →
  (decide (i < (30 : Int)) = true →
  ∃ vS : World → Prop, ∀ w6 : World, w6 = w5.drew → vS w6 ∧
  (0 ≤ i ∧ i < ((listN : Nat) : Int)) ∧ someV listA fun p =>
  ∃ (x57 : Int), (∀ w7, vS w7 → w7.cell? (p.add (i.toNat * 1)) = some (.int .u8 x57)) ∧
  (4 : Int) ≠ 0 ∧
  (0 ≤ i ∧ i < ((listN : Nat) : Int)) ∧ someV listA fun p_1 =>
  ∃ (x63 : Int), (∀ w8, vS w8 → w8.cell? (p_1.add (i.toNat * 1)) = some (.int .u8 x63)) ∧
  Calls Try.prog 29 #[(.int .u8 x63)] w6 (Ret fun v_4 w9 => ∃ (x64 : ByteArray), v_4 = (.string x64) ∧
  vS w9 ∧
  Calls Try.prog 28 #[(.pointer x29_0), (.int .i64 (IntKind.i64.wrap (Int.tmod x57 4))), (.string x64)] w9 (Ret fun v_5 w10 => ∃ (x65 : Int), v_5 = (.int .i64 x65) ∧
  vS w10 ∧
  ((x65 != (0 : Int)) = true →
  R (.bool false) w10) ∧
  ((x65 != (0 : Int)) = false →
  ∃ vk_1 : Nat, vk_1 < vk ∧ vI (IntKind.i64.wrap (i + 1)) vk_1 w10)))) ∧
  (decide (i < (30 : Int)) = false →
  J w5)) ∧
  (decide (i < ((listN : Nat) : Int)) = false →
  J w5)) ∧
  ∀ (jk : Nat → Value), ∀ w11 : World, J w11 →
  Calls Try.prog 26 #[(.pointer x29_0)] w11 (Ret fun v_6 w12 => ∃ (x69_0 : ByteArray), ∃ (x69_1 : Int), v_6 = (.tuple #[(.string x69_0), (.int .i64 x69_1)]) ∧
  ((x69_1 != (0 : Int)) = true →
  R (.bool false) w12) ∧
  ((x69_1 != (0 : Int)) = false →
  Calls Try.prog 25 #[(.pointer x34_0), (.int .u8 fill)] w12 (Ret fun v_7 w13 => ∃ (x77 : Int), v_7 = (.int .i64 x77) ∧
  ((x77 != (0 : Int)) = true →
  R (.bool false) w13) ∧
  ((x77 != (0 : Int)) = false →
  Calls Try.prog 26 #[(.pointer x29_0)] w13 (Ret fun v_8 w14 => ∃ (x82_0 : ByteArray), ∃ (x82_1 : Int), v_8 = (.tuple #[(.string x82_0), (.int .i64 x82_1)]) ∧
  ((x82_1 != (0 : Int)) = true →
  R (.bool false) w14) ∧
  ((x82_1 != (0 : Int)) = false →
  ((!(x82_0.toList == x69_0.toList)) = true →
  R (.bool false) w14) ∧
  ((!(x82_0.toList == x69_0.toList)) = false →
  ∃ vI_1 : Int → Nat → World → Prop, (∃ vk_5 : Nat, vI_1 0 vk_5 w14) ∧
  ∀ (jk : Nat → Value) (i_1 : Int), ∀ (vk_3 : Nat) (w15 : World), vI_1 i_1 vk_3 w15 →
  (decide (i_1 < (10 : Int)) = true →
  ∃ J_1 : World → Prop, (Calls Try.prog 15 #[(.pointer x26), (.int .i64 i_1)] w15 (Ret fun v_9 w16 => ∃ (x99_0 : ByteArray), ∃ (x99_1 : Int), v_9 = (.tuple #[(.string x99_0), (.int .i64 x99_1)]) ∧
  ((x99_1 != (0 : Int)) = true →
  R (.bool false) w16) ∧
  ((x99_1 != (0 : Int)) = false →
  ((i_1 == (0 : Int)) = true →
  Calls Try.prog 29 #[(.int .u8 0)] w16 (Ret fun v_10 w17 => ∃ (x113 : ByteArray), v_10 = (.string x113) ∧
  ((!(x99_0.toList == x113.toList)) = true →
  R (.bool false) w17) ∧
  ((!(x99_0.toList == x113.toList)) = false →
  (decide (i_1 ≥ (5 : Int)) = true →
  (decide (i_1 < (9 : Int)) = true →
  Calls Try.prog 29 #[(.int .u8 fill)] w17 (Ret fun v_11 w18 => ∃ (x127 : ByteArray), v_11 = (.string x127) ∧
  ((!(x99_0.toList == x127.toList)) = true →
  R (.bool false) w18) ∧
  ((!(x99_0.toList == x127.toList)) = false →
  J_1 w18))) ∧
  (decide (i_1 < (9 : Int)) = false →
  J_1 w17)) ∧
  (decide (i_1 ≥ (5 : Int)) = false →
  J_1 w17)))) ∧
  ((i_1 == (0 : Int)) = false →
  ((i_1 == (9 : Int)) = true →
  Calls Try.prog 29 #[(.int .u8 0)] w16 (Ret fun v_12 w19 => ∃ (x113_1 : ByteArray), v_12 = (.string x113_1) ∧
  ((!(x99_0.toList == x113_1.toList)) = true →
  R (.bool false) w19) ∧
  ((!(x99_0.toList == x113_1.toList)) = false →
  (decide (i_1 ≥ (5 : Int)) = true →
  (decide (i_1 < (9 : Int)) = true →
  Calls Try.prog 29 #[(.int .u8 fill)] w19 (Ret fun v_13 w20 => ∃ (x127_1 : ByteArray), v_13 = (.string x127_1) ∧
  ((!(x99_0.toList == x127_1.toList)) = true →
  R (.bool false) w20) ∧
  ((!(x99_0.toList == x127_1.toList)) = false →
  J_1 w20))) ∧
  (decide (i_1 < (9 : Int)) = false →
  J_1 w19)) ∧
  (decide (i_1 ≥ (5 : Int)) = false →
  J_1 w19)))) ∧
  ((i_1 == (9 : Int)) = false →
  (decide (i_1 ≥ (5 : Int)) = true →
  (decide (i_1 < (9 : Int)) = true →
  Calls Try.prog 29 #[(.int .u8 fill)] w16 (Ret fun v_14 w21 => ∃ (x127_2 : ByteArray), v_14 = (.string x127_2) ∧
  ((!(x99_0.toList == x127_2.toList)) = true →
  R (.bool false) w21) ∧
  ((!(x99_0.toList == x127_2.toList)) = false →
  J_1 w21))) ∧
  (decide (i_1 < (9 : Int)) = false →
  J_1 w16)) ∧
  (decide (i_1 ≥ (5 : Int)) = false →
  J_1 w16)))))) ∧
  ∀ (jk : Nat → Value), ∀ w22 : World, J_1 w22 →
  ∃ vk_4 : Nat, vk_4 < vk_3 ∧ vI_1 (IntKind.i64.wrap (i_1 + 1)) vk_4 w22) ∧
  (decide (i_1 < (10 : Int)) = false →
  Calls Try.prog 30 #[(.pointer x29_0), (.int .i64 2), (.int .i64 2)] w15 (Ret fun v_15 w23 => ∃ (x133_0 : Option Addr), ∃ (x133_1 : Int), v_15 = (.tuple #[(.pointer x133_0), (.int .i64 x133_1)]) ∧
  ((x133_1 != (0 : Int)) = true →
  R (.bool false) w23) ∧
  ((x133_1 != (0 : Int)) = false →
  Calls Try.prog 26 #[(.pointer x133_0)] w23 (Ret fun v_16 w24 => ∃ (x140_0 : ByteArray), ∃ (x140_1 : Int), v_16 = (.tuple #[(.string x140_0), (.int .i64 x140_1)]) ∧
  Calls Try.prog 30 #[(.pointer x29_0), (.int .i64 3), (.int .i64 2)] w24 (Ret fun v_17 w25 => ∃ (x145_0 : Option Addr), ∃ (x145_1 : Int), v_17 = (.tuple #[(.pointer x145_0), (.int .i64 x145_1)]) ∧
  ((x140_1 == (0 : Int)) = true →
  (0 ≤ (64 : Int) ∧ (64 : Int) ≤ ((x69_0.size : Nat) : Int)) ∧
  ((x140_0.toList == (x69_0.extract (64 : Int).toNat x69_0.size).toList) = true →
  ((x145_1 == (1 : Int)) = true →
  someV x133_0 fun p_2 =>
  ∃ (x164 : Option Addr), w25.cell? p_2 = some (.pointer x164) ∧
  Calls Try.prog 16 #[(.pointer x164)] w25 (Ret fun v_18 w26 => ∃ (x165 : Int), v_18 = (.int .i64 x165) ∧
  Calls Try.prog 16 #[(.pointer x26)] w26 (Ret fun v_19 w27 => ∃ (x167 : Int), v_19 = (.int .i64 x167) ∧
  R (.bool (x165 == x167)) w27))) ∧
  ((x145_1 == (1 : Int)) = false →
  R (.bool false) w25)) ∧
  ((x140_0.toList == (x69_0.extract (64 : Int).toNat x69_0.size).toList) = false →
  R (.bool false) w25)) ∧
  ((x140_1 == (0 : Int)) = false →
  R (.bool false) w25))))))))))))))))))))
theorem coadjutorlaw05_ZoneApart.vc_eq (listA : Option Addr) (listN : Nat) (listC : Nat) (fill : Int) (w : World) (R : Value → World → Prop) : fnV Try.prog Try.f7 (.c .nil (.at_ 6 2 (.k .nil) (.c .nil (.cut 0 [(4, none), (10, none), (43, none), (44, none), (45, none), (46, none), (47, none), (48, none), (49, none), (50, none), (51, none), (52, none), (53, none), (54, none), (55, none), (56, none), (57, none), (58, none), (59, none), (60, none), (61, none), (62, none), (63, none), (64, none), (65, none), (66, none)] (.lp [(4, none), (10, some (.int .i64)), (43, none), (44, none), (45, none), (46, none), (47, none), (48, none), (49, none), (50, none), (51, none), (52, none), (53, none), (54, none), (55, none), (56, none), (57, none), (58, none), (59, none), (60, none), (61, none), (62, none), (63, none), (64, none), (65, none), (66, none)] (.at_ 9 4 (.c (.tk 0 (.tk 1 (.tk 2 (.tk 3 (.tk 4 (.tk 5 (.tk 6 (.tk 7 (.tk 8 (.tk 9 (.tk 10 (.alt 11 (.alt 12 (.tk 13 (.fin (.c .nil .nil))) .nil) .nil)))))))))))) .nil) (.k .nil))) (.at_ 14 2 (.k .nil) (.c .nil (.at_ 17 2 (.k .nil) (.c .nil (.lp [(4, none), (15, some (.int .i64)), (16, none), (17, none), (92, none), (93, none), (94, none), (95, none), (96, none), (97, none), (98, none), (99, none), (100, none), (101, none), (102, none), (103, none), (104, none), (105, none), (106, none), (107, none), (108, none), (109, none), (110, none), (111, none), (112, none), (113, none), (114, none), (115, none), (116, none), (117, none), (118, none), (119, none), (120, none), (121, none), (122, none), (123, none), (124, none), (125, none), (126, none), (127, none), (128, none), (129, none), (130, none)] (.c (.cut 0 [(4, none), (16, none), (17, none), (96, none), (97, none), (98, none), (99, none), (100, none), (101, none), (102, none), (103, none), (104, none), (105, none), (106, none), (107, none), (108, none), (109, none), (110, none), (111, none), (112, none), (113, none), (114, none), (115, none), (116, none), (117, none), (118, none), (119, none), (120, none), (121, none), (122, none), (123, none), (124, none), (125, none), (126, none), (127, none), (128, none), (129, none), (130, none)] (.at_ 23 2 (.k .nil) (.at_ 23 5 (.at_ 23 15 (.k .nil) (.at_ 23 18 (.at_ 23 22 (.c .nil .nil) (.k .nil)) (.k .nil))) (.at_ 23 9 (.at_ 23 15 (.k .nil) (.at_ 23 18 (.at_ 23 22 (.c .nil .nil) (.k .nil)) (.k .nil))) (.at_ 23 18 (.at_ 23 22 (.c .nil .nil) (.k .nil)) (.k .nil))))) .nil) (.c .nil (.at_ 30 2 (.at_ 30 8 (.at_ 30 12 .nil .nil) .nil) .nil)))))))))))) [(.slice listA listN listC), (.int .u8 fill)] w R = coadjutorlaw05_ZoneApart.vc listA listN listC fill w R := by kernel_rfl
theorem coadjutorlaw05_ZoneApart.calls (listA : Option Addr) (listN : Nat) (listC : Nat) (fill : Int) {w : World} {R : Value → World → Prop} (h : coadjutorlaw05_ZoneApart.vc listA listN listC fill w R) : Calls Try.prog 7 #[(.slice listA listN listC), (.int .u8 fill)] w (Ret R) :=
  calls_V fit Try.func7 (.c .nil (.at_ 6 2 (.k .nil) (.c .nil (.cut 0 [(4, none), (10, none), (43, none), (44, none), (45, none), (46, none), (47, none), (48, none), (49, none), (50, none), (51, none), (52, none), (53, none), (54, none), (55, none), (56, none), (57, none), (58, none), (59, none), (60, none), (61, none), (62, none), (63, none), (64, none), (65, none), (66, none)] (.lp [(4, none), (10, some (.int .i64)), (43, none), (44, none), (45, none), (46, none), (47, none), (48, none), (49, none), (50, none), (51, none), (52, none), (53, none), (54, none), (55, none), (56, none), (57, none), (58, none), (59, none), (60, none), (61, none), (62, none), (63, none), (64, none), (65, none), (66, none)] (.at_ 9 4 (.c (.tk 0 (.tk 1 (.tk 2 (.tk 3 (.tk 4 (.tk 5 (.tk 6 (.tk 7 (.tk 8 (.tk 9 (.tk 10 (.alt 11 (.alt 12 (.tk 13 (.fin (.c .nil .nil))) .nil) .nil)))))))))))) .nil) (.k .nil))) (.at_ 14 2 (.k .nil) (.c .nil (.at_ 17 2 (.k .nil) (.c .nil (.lp [(4, none), (15, some (.int .i64)), (16, none), (17, none), (92, none), (93, none), (94, none), (95, none), (96, none), (97, none), (98, none), (99, none), (100, none), (101, none), (102, none), (103, none), (104, none), (105, none), (106, none), (107, none), (108, none), (109, none), (110, none), (111, none), (112, none), (113, none), (114, none), (115, none), (116, none), (117, none), (118, none), (119, none), (120, none), (121, none), (122, none), (123, none), (124, none), (125, none), (126, none), (127, none), (128, none), (129, none), (130, none)] (.c (.cut 0 [(4, none), (16, none), (17, none), (96, none), (97, none), (98, none), (99, none), (100, none), (101, none), (102, none), (103, none), (104, none), (105, none), (106, none), (107, none), (108, none), (109, none), (110, none), (111, none), (112, none), (113, none), (114, none), (115, none), (116, none), (117, none), (118, none), (119, none), (120, none), (121, none), (122, none), (123, none), (124, none), (125, none), (126, none), (127, none), (128, none), (129, none), (130, none)] (.at_ 23 2 (.k .nil) (.at_ 23 5 (.at_ 23 15 (.k .nil) (.at_ 23 18 (.at_ 23 22 (.c .nil .nil) (.k .nil)) (.k .nil))) (.at_ 23 9 (.at_ 23 15 (.k .nil) (.at_ 23 18 (.at_ 23 22 (.c .nil .nil) (.k .nil)) (.k .nil))) (.at_ 23 18 (.at_ 23 22 (.c .nil .nil) (.k .nil)) (.k .nil))))) .nil) (.c .nil (.at_ 30 2 (.at_ 30 8 (.at_ 30 12 .nil .nil) .nil) .nil)))))))))))) (by rw [show (#[(.slice listA listN listC), (.int .u8 fill)] : Array Value).toList = [(.slice listA listN listC), (.int .u8 fill)] from rfl, coadjutorlaw05_ZoneApart.vc_eq]; exact h)
end Go.Proofs.Ytpefegcdcojokaa.Vc
