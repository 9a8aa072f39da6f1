import Derived.Test.YtefidalhijpmdaaVc
import Derived.Test.YtefidalhijpmdaaH
import Derived.Test.YtefidalhijpmdaaProg
import Derived.KernelRfl
set_option linter.unusedVariables false
set_option maxRecDepth 100000
namespace Go.Proofs.Ytefidalhijpmdaa.Vc
open Go Go.Proofs Go.Proofs.Ytefidalhijpmdaa.V
/-- function 7 -/
def coadjutorlaw08_BitsFill.vc (n : Int) (listA : Option Addr) (listN : Nat) (listC : Nat) (w : World) (R : Value → World → Prop) : Prop :=
  Calls Try.prog 27 #[] w (Ret fun v w1 => ∃ (x11 : Bool), v = (.bool x11) ∧
  ((!x11) = true →
  R (.bool false) w1) ∧
  ((!x11) = false →
  (200 : Int) ≠ 0 ∧
  Calls Try.prog 28 #[(.int .i64 (IntKind.i64.wrap (1 + (IntKind.i64.wrap (Int.tmod (IntKind.u64.wrap n) 200)))))] w1 (Ret fun v_1 w2 => ∃ (x19 : Option Addr), v_1 = (.pointer x19) ∧
  ∃ vI : Int → Nat → World → Prop, (∃ vk_2 : Nat, vI 0 vk_2 w2) ∧
  ∀ (jk : Nat → Value) (i : Int), ∀ (vk : Nat) (w3 : World), vI i vk w3 →
  (decide (i < ((listN : Nat) : Int)) = true →
  (decide (i < (40 : Int)) = true →
  (0 ≤ i ∧ i < ((listN : Nat) : Int)) ∧ someV listA fun p =>
  ∃ (x34 : Int), w3.cell? (p.add (i.toNat * 1)) = some (.int .i64 x34) ∧
  (IntKind.u64.wrap (IntKind.i64.wrap (1 + (IntKind.i64.wrap (Int.tmod (IntKind.u64.wrap n) 200))))) ≠ 0 ∧
  ∀ w4 : World, w4 = w3.alloc (.cells #[(.int .i64 (IntKind.i64.wrap (Int.tmod (IntKind.u64.wrap x34) (IntKind.u64.wrap (IntKind.i64.wrap (1 + (IntKind.i64.wrap (Int.tmod (IntKind.u64.wrap n) 200))))))))] 3 (0, 0)) →
  Calls Try.prog 29 #[(.pointer x19), (.slice (some (⟨w3.heap.size, 0, none⟩ : Addr)) 1 1)] w4 (Ret fun v_2 w5 => ∃ (x41 : Int), v_2 = (.int .i64 x41) ∧
  ∃ vk_1 : Nat, vk_1 < vk ∧ vI (IntKind.i64.wrap (i + 1)) vk_1 w5)) ∧
  (decide (i < (40 : Int)) = false →
  Calls Try.prog 30 #[(.pointer x19)] w3 (Ret fun v_3 w6 => ∃ (x44 : Int), v_3 = (.int .i64 x44) ∧
  ∃ vI_1 : Int → Int → Nat → World → Prop, (∃ vk_5 : Nat, vI_1 (IntKind.i64.wrap ((IntKind.i64.wrap (1 + (IntKind.i64.wrap (Int.tmod (IntKind.u64.wrap n) 200)))) - x44)) (-1) vk_5 w6) ∧
  ∀ (jk : Nat → Value) (left : Int) (last : Int), ∀ (vk_3 : Nat) (w7 : World), vI_1 left last vk_3 w7 →
  Calls Try.prog 31 #[(.pointer x19)] w7 (Ret fun v_4 w8 => ∃ (x47 : Int), v_4 = (.int .i64 x47) ∧
  (decide (x47 ≥ (0 : Int)) = true →
  Calls Try.prog 31 #[(.pointer x19)] w8 (Ret fun v_5 w9 => ∃ (x50 : Int), v_5 = (.int .i64 x50) ∧
  (decide (x50 ≤ last) = true →
  R (.bool false) w9) ∧
  (decide (x50 ≤ last) = false →
  ((left == (0 : Int)) = true →
  R (.bool false) w9) ∧
  ((left == (0 : Int)) = false →
  ∀ w10 : World, w10 = w9.alloc (.cells #[(.int .i64 x50)] 3 (0, 0)) →
  Calls Try.prog 32 #[(.pointer x19), (.slice (some (⟨w9.heap.size, 0, none⟩ : Addr)) 1 1)] w10 (Ret fun v_6 w11 => ∃ (x62 : Bool), v_6 = (.bool x62) ∧
  (x62 = true →
  R (.bool false) w11) ∧
  (x62 = false →
  ∀ w12 : World, w12 = w11.alloc (.cells #[(.int .i64 x50)] 3 (0, 0)) →
  Calls Try.prog 29 #[(.pointer x19), (.slice (some (⟨w11.heap.size, 0, none⟩ : Addr)) 1 1)] w12 (Ret fun v_7 w13 => ∃ (x68 : Int), v_7 = (.int .i64 x68) ∧
  ((x68 != (0 : Int)) = true →
  R (.bool false) w13) ∧
  ((x68 != (0 : Int)) = false →
  ∃ vk_4 : Nat, vk_4 < vk_3 ∧ vI_1 (IntKind.i64.wrap (left - 1)) x50 vk_4 w13)))))))) ∧
  (decide (x47 ≥ (0 : Int)) = false →
  ((left == (0 : Int)) = true →
  Calls Try.prog 30 #[(.pointer x19)] w8 (Ret fun v_8 w14 => ∃ (x78 : Int), v_8 = (.int .i64 x78) ∧
  ((x78 == (IntKind.i64.wrap (1 + (IntKind.i64.wrap (Int.tmod (IntKind.u64.wrap n) 200))))) = true →
  Calls Try.prog 33 #[(.pointer x19)] w14 (Ret fun v_9 w15 => ∃ (x84A : Option Addr), ∃ (x84N : Nat), ∃ (x84C : Nat), v_9 = (.slice x84A x84N x84C) ∧
  R (.bool (((x84N : Nat) : Int) == (IntKind.i64.wrap (1 + (IntKind.i64.wrap (Int.tmod (IntKind.u64.wrap n) 200)))))) w15)) ∧
  ((x78 == (IntKind.i64.wrap (1 + (IntKind.i64.wrap (Int.tmod (IntKind.u64.wrap n) 200))))) = false →
  R (.bool false) w14))) ∧
  ((left == (0 : Int)) = false →
  R (.bool false) w8)))))) ∧
  (decide (i < ((listN : Nat) : Int)) = false →
  Calls Try.prog 30 #[(.pointer x19)] w3 (Ret fun v_10 w16 => ∃ (x44_1 : Int), v_10 = (.int .i64 x44_1) ∧
  ∃ vI_2 : Int → Int → Nat → World → Prop, (∃ vk_8 : Nat, vI_2 (IntKind.i64.wrap ((IntKind.i64.wrap (1 + (IntKind.i64.wrap (Int.tmod (IntKind.u64.wrap n) 200)))) - x44_1)) (-1) vk_8 w16) ∧
  ∀ (jk : Nat → Value) (left_1 : Int) (last_1 : Int), ∀ (vk_6 : Nat) (w17 : World), vI_2 left_1 last_1 vk_6 w17 →
  Calls Try.prog 31 #[(.pointer x19)] w17 (Ret fun v_11 w18 => ∃ (x47_1 : Int), v_11 = (.int .i64 x47_1) ∧
  (decide (x47_1 ≥ (0 : Int)) = true →
  Calls Try.prog 31 #[(.pointer x19)] w18 (Ret fun v_12 w19 => ∃ (x50_1 : Int), v_12 = (.int .i64 x50_1) ∧
  (decide (x50_1 ≤ last_1) = true →
  R (.bool false) w19) ∧
  (decide (x50_1 ≤ last_1) = false →
  ((left_1 == (0 : Int)) = true →
  R (.bool false) w19) ∧
  ((left_1 == (0 : Int)) = false →
  ∀ w20 : World, w20 = w19.alloc (.cells #[(.int .i64 x50_1)] 3 (0, 0)) →
  Calls Try.prog 32 #[(.pointer x19), (.slice (some (⟨w19.heap.size, 0, none⟩ : Addr)) 1 1)] w20 (Ret fun v_13 w21 => ∃ (x62_1 : Bool), v_13 = (.bool x62_1) ∧
  (x62_1 = true →
  R (.bool false) w21) ∧
  (x62_1 = false →
  ∀ w22 : World, w22 = w21.alloc (.cells #[(.int .i64 x50_1)] 3 (0, 0)) →
  Calls Try.prog 29 #[(.pointer x19), (.slice (some (⟨w21.heap.size, 0, none⟩ : Addr)) 1 1)] w22 (Ret fun v_14 w23 => ∃ (x68_1 : Int), v_14 = (.int .i64 x68_1) ∧
  ((x68_1 != (0 : Int)) = true →
  R (.bool false) w23) ∧
  ((x68_1 != (0 : Int)) = false →
  ∃ vk_7 : Nat, vk_7 < vk_6 ∧ vI_2 (IntKind.i64.wrap (left_1 - 1)) x50_1 vk_7 w23)))))))) ∧
  (decide (x47_1 ≥ (0 : Int)) = false →
  ((left_1 == (0 : Int)) = true →
  Calls Try.prog 30 #[(.pointer x19)] w18 (Ret fun v_15 w24 => ∃ (x78_1 : Int), v_15 = (.int .i64 x78_1) ∧
  ((x78_1 == (IntKind.i64.wrap (1 + (IntKind.i64.wrap (Int.tmod (IntKind.u64.wrap n) 200))))) = true →
  Calls Try.prog 33 #[(.pointer x19)] w24 (Ret fun v_16 w25 => ∃ (x84A_1 : Option Addr), ∃ (x84N_1 : Nat), ∃ (x84C_1 : Nat), v_16 = (.slice x84A_1 x84N_1 x84C_1) ∧
  R (.bool (((x84N_1 : Nat) : Int) == (IntKind.i64.wrap (1 + (IntKind.i64.wrap (Int.tmod (IntKind.u64.wrap n) 200)))))) w25)) ∧
  ((x78_1 == (IntKind.i64.wrap (1 + (IntKind.i64.wrap (Int.tmod (IntKind.u64.wrap n) 200))))) = false →
  R (.bool false) w24))) ∧
  ((left_1 == (0 : Int)) = false →
  R (.bool false) w18))))))))
theorem coadjutorlaw08_BitsFill.vc_eq (n : Int) (listA : Option Addr) (listN : Nat) (listC : Nat) (w : World) (R : Value → World → Prop) : fnV Try.prog Try.f7 (.c .nil (.lp [(7, some (.int .i64)), (20, none), (21, none), (22, none), (23, none), (24, none), (25, none), (26, none), (27, none), (28, none), (29, none), (30, none), (31, none), (32, none), (33, none), (34, none), (35, none), (36, none), (37, none), (38, none), (39, none), (40, none), (41, none)] (.at_ 6 4 (.c .nil (.lp [(4, none), (8, some (.int .i64)), (9, some (.int .i64)), (10, none), (46, none), (47, none), (48, none), (49, none), (50, none), (51, none), (52, none), (53, none), (54, none), (55, none), (56, none), (57, none), (58, none), (59, none), (60, none), (61, none), (62, none), (63, none), (64, none), (65, none), (66, none), (67, none), (68, none), (69, none), (70, none), (71, none), (72, none), (73, none)] (.c (.at_ 13 3 (.k .nil) (.at_ 13 7 (.k .nil) (.at_ 13 13 (.k .nil) (.c .nil .nil)))) (.at_ 17 2 (.at_ 17 8 .nil .nil) .nil)))) (.k (.lp [(4, none), (8, some (.int .i64)), (9, some (.int .i64)), (10, none), (46, none), (47, none), (48, none), (49, none), (50, none), (51, none), (52, none), (53, none), (54, none), (55, none), (56, none), (57, none), (58, none), (59, none), (60, none), (61, none), (62, none), (63, none), (64, none), (65, none), (66, none), (67, none), (68, none), (69, none), (70, none), (71, none), (72, none), (73, none)] (.c (.at_ 13 3 (.k .nil) (.at_ 13 7 (.k .nil) (.at_ 13 13 (.k .nil) (.c .nil .nil)))) (.at_ 17 2 (.at_ 17 8 .nil .nil) .nil))))))) [(.int .i64 n), (.slice listA listN listC)] w R = coadjutorlaw08_BitsFill.vc n listA listN listC w R := by kernel_rfl
theorem coadjutorlaw08_BitsFill.calls (n : Int) (listA : Option Addr) (listN : Nat) (listC : Nat) {w : World} {R : Value → World → Prop} (h : coadjutorlaw08_BitsFill.vc n listA listN listC w R) : Calls Try.prog 7 #[(.int .i64 n), (.slice listA listN listC)] w (Ret R) :=
  calls_V fit Try.func7 (.c .nil (.lp [(7, some (.int .i64)), (20, none), (21, none), (22, none), (23, none), (24, none), (25, none), (26, none), (27, none), (28, none), (29, none), (30, none), (31, none), (32, none), (33, none), (34, none), (35, none), (36, none), (37, none), (38, none), (39, none), (40, none), (41, none)] (.at_ 6 4 (.c .nil (.lp [(4, none), (8, some (.int .i64)), (9, some (.int .i64)), (10, none), (46, none), (47, none), (48, none), (49, none), (50, none), (51, none), (52, none), (53, none), (54, none), (55, none), (56, none), (57, none), (58, none), (59, none), (60, none), (61, none), (62, none), (63, none), (64, none), (65, none), (66, none), (67, none), (68, none), (69, none), (70, none), (71, none), (72, none), (73, none)] (.c (.at_ 13 3 (.k .nil) (.at_ 13 7 (.k .nil) (.at_ 13 13 (.k .nil) (.c .nil .nil)))) (.at_ 17 2 (.at_ 17 8 .nil .nil) .nil)))) (.k (.lp [(4, none), (8, some (.int .i64)), (9, some (.int .i64)), (10, none), (46, none), (47, none), (48, none), (49, none), (50, none), (51, none), (52, none), (53, none), (54, none), (55, none), (56, none), (57, none), (58, none), (59, none), (60, none), (61, none), (62, none), (63, none), (64, none), (65, none), (66, none), (67, none), (68, none), (69, none), (70, none), (71, none), (72, none), (73, none)] (.c (.at_ 13 3 (.k .nil) (.at_ 13 7 (.k .nil) (.at_ 13 13 (.k .nil) (.c .nil .nil)))) (.at_ 17 2 (.at_ 17 8 .nil .nil) .nil))))))) (by rw [show (#[(.int .i64 n), (.slice listA listN listC)] : Array Value).toList = [(.int .i64 n), (.slice listA listN listC)] from rfl, coadjutorlaw08_BitsFill.vc_eq]; exact h)
/-- function 9 -/
def coadjutorlaw08_BitsParse.vc (n : Int) (t : ByteArray) (w : World) (R : Value → World → Prop) : Prop :=
  Calls Try.prog 27 #[] w (Ret fun v w1 => ∃ (x10 : Bool), v = (.bool x10) ∧
  ((!x10) = true →
  R (.bool false) w1) ∧
  ((!x10) = false →
  (decide (((t.size : Nat) : Int) > (140 : Int)) = true →
  R (.bool true) w1) ∧
  (decide (((t.size : Nat) : Int) > (140 : Int)) = false →
  Calls Try.prog 39 #[(.int .i64 n), (.string t)] w1 (Ret fun v_1 w2 => ∃ (x18_0 : Option Addr), ∃ (x18_1 : Int), v_1 = (.tuple #[(.pointer x18_0), (.int .i64 x18_1)]) ∧
  (decide (n < (1 : Int)) = true →
  (x18_0.isNone = true →
  R (.bool (x18_1 == (1 : Int))) w2) ∧
  (x18_0.isNone = false →
  R (.bool false) w2)) ∧
  (decide (n < (1 : Int)) = false →
  (decide (n > (1024 : Int)) = true →
  (x18_0.isNone = true →
  R (.bool (x18_1 == (1 : Int))) w2) ∧
  (x18_0.isNone = false →
  R (.bool false) w2)) ∧
  (decide (n > (1024 : Int)) = false →
  Calls Try.prog 40 #[(.int .i64 n), (.string t)] w2 (Ret fun v_2 w3 => ∃ (x36_0A : Option Addr), ∃ (x36_0N : Nat), ∃ (x36_0C : Nat), ∃ (x36_1 : Bool), v_2 = (.tuple #[(.slice x36_0A x36_0N x36_0C), (.bool x36_1)]) ∧
  ((!x36_1) = true →
  (x18_0.isNone = true →
  R (.bool (x18_1 == (5 : Int))) w3) ∧
  (x18_0.isNone = false →
  R (.bool false) w3)) ∧
  ((!x36_1) = false →
  ((x18_1 != (0 : Int)) = true →
  R (.bool false) w3) ∧
  ((x18_1 != (0 : Int)) = false →
  (x18_0.isNone = true →
  R (.bool false) w3) ∧
  (x18_0.isNone = false →
  Calls Try.prog 37 #[(.pointer x18_0)] w3 (Ret fun v_3 w4 => ∃ (x55 : ByteArray), v_3 = (.string x55) ∧
  ((!(x55.toList == t.toList)) = true →
  R (.bool false) w4) ∧
  ((!(x55.toList == t.toList)) = false →
  Calls Try.prog 36 #[(.pointer x18_0)] w4 (Ret fun v_4 w5 => ∃ (x61 : Int), v_4 = (.int .i64 x61) ∧
  ((x61 != n) = true →
  R (.bool false) w5) ∧
  ((x61 != n) = false →
  ∃ vI : Int → Nat → World → Prop, (∃ vk_2 : Nat, vI 0 vk_2 w5) ∧
  ∀ (jk : Nat → Value) (i : Int), ∀ (vk : Nat) (w6 : World), vI i vk w6 →
  (decide (i < n) = true →
  ∃ vS : World → Prop, ∀ w7 : World, w7 = w6.drew → vS w7 ∧
  (0 ≤ i ∧ i < ((x36_0N : Nat) : Int)) ∧ someV x36_0A fun p =>
  ∃ (x77 : Bool), (∀ w8, vS w8 → w8.cell? (p.add (i.toNat * 1)) = some (.bool x77)) ∧
  ∀ w9 : World, w9 = w7.alloc (.cells #[(.int .i64 i)] 3 (0, 0)) →
  vS w9 ∧
  Calls Try.prog 32 #[(.pointer x18_0), (.slice (some (⟨w7.heap.size, 0, none⟩ : Addr)) 1 1)] w9 (Ret fun v_5 w10 => ∃ (x73 : Bool), v_5 = (.bool x73) ∧
  vS w10 ∧
  ((!(x73 == x77)) = true →
  R (.bool false) w10) ∧
  ((!(x73 == x77)) = false →
  ∃ vk_1 : Nat, vk_1 < vk ∧ vI (IntKind.i64.wrap (i + 1)) vk_1 w10))) ∧
  (decide (i < n) = false →
  R (.bool true) w6)))))))))))))))
theorem coadjutorlaw08_BitsParse.vc_eq (n : Int) (t : ByteArray) (w : World) (R : Value → World → Prop) : fnV Try.prog Try.f9 (.c .nil (.c .nil (.at_ 6 2 (.k (.at_ 7 2 .nil .nil)) (.c (.at_ 7 2 .nil .nil) (.c (.at_ 10 2 .nil .nil) (.at_ 11 2 (.k .nil) (.at_ 11 6 (.k .nil) (.at_ 11 12 (.k .nil) (.c .nil (.lp [(4, none), (9, some (.int .i64)), (65, none), (66, none), (67, none), (68, none), (69, none), (70, none), (71, none), (72, none), (73, none), (74, none), (75, none), (76, none), (77, none), (78, none)] (.c (.tk 0 (.tk 1 (.tk 4 (.tk 5 (.tk 6 (.tk 7 (.alt 2 (.alt 3 (.tk 8 (.fin (.c .nil .nil))) .nil) .nil))))))) .nil))))))))))) [(.int .i64 n), (.string t)] w R = coadjutorlaw08_BitsParse.vc n t w R := by kernel_rfl
theorem coadjutorlaw08_BitsParse.calls (n : Int) (t : ByteArray) {w : World} {R : Value → World → Prop} (h : coadjutorlaw08_BitsParse.vc n t w R) : Calls Try.prog 9 #[(.int .i64 n), (.string t)] w (Ret R) :=
  calls_V fit Try.func9 (.c .nil (.c .nil (.at_ 6 2 (.k (.at_ 7 2 .nil .nil)) (.c (.at_ 7 2 .nil .nil) (.c (.at_ 10 2 .nil .nil) (.at_ 11 2 (.k .nil) (.at_ 11 6 (.k .nil) (.at_ 11 12 (.k .nil) (.c .nil (.lp [(4, none), (9, some (.int .i64)), (65, none), (66, none), (67, none), (68, none), (69, none), (70, none), (71, none), (72, none), (73, none), (74, none), (75, none), (76, none), (77, none), (78, none)] (.c (.tk 0 (.tk 1 (.tk 4 (.tk 5 (.tk 6 (.tk 7 (.alt 2 (.alt 3 (.tk 8 (.fin (.c .nil .nil))) .nil) .nil))))))) .nil))))))))))) (by rw [show (#[(.int .i64 n), (.string t)] : Array Value).toList = [(.int .i64 n), (.string t)] from rfl, coadjutorlaw08_BitsParse.vc_eq]; exact h)
/-- function 10 -/
def coadjutorlaw08_BitsBack.vc (n : Int) (listA : Option Addr) (listN : Nat) (listC : Nat) (more : Int) (w : World) (R : Value → World → Prop) : Prop :=
  Calls Try.prog 27 #[] w (Ret fun v w1 => ∃ (x15 : Bool), v = (.bool x15) ∧
  ((!x15) = true →
  R (.bool false) w1) ∧
  ((!x15) = false →
  (1024 : Int) ≠ 0 ∧
  (decide (((listN : Nat) : Int) > (40 : Int)) = true →
  R (.bool true) w1) ∧
  (decide (((listN : Nat) : Int) > (40 : Int)) = false →
  Calls Try.prog 28 #[(.int .i64 (IntKind.i64.wrap (1 + (IntKind.i64.wrap (Int.tmod (IntKind.u64.wrap n) 1024)))))] w1 (Ret fun v_1 w2 => ∃ (x26 : Option Addr), v_1 = (.pointer x26) ∧
  ∃ vI : Int → Nat → World → Prop, (∃ vk_2 : Nat, vI 0 vk_2 w2) ∧
  ∀ (jk : Nat → Value) (i : Int), ∀ (vk : Nat) (w3 : World), vI i vk w3 →
  (decide (i < ((listN : Nat) : Int)) = true →
  (0 ≤ i ∧ i < ((listN : Nat) : Int)) ∧ someV listA fun p =>
  ∃ (x37 : Int), w3.cell? (p.add (i.toNat * 1)) = some (.int .i64 x37) ∧
  (IntKind.u64.wrap (IntKind.i64.wrap (1 + (IntKind.i64.wrap (Int.tmod (IntKind.u64.wrap n) 1024))))) ≠ 0 ∧
  ∀ w4 : World, w4 = w3.alloc (.cells #[(.int .i64 (IntKind.i64.wrap (Int.tmod (IntKind.u64.wrap x37) (IntKind.u64.wrap (IntKind.i64.wrap (1 + (IntKind.i64.wrap (Int.tmod (IntKind.u64.wrap n) 1024))))))))] 3 (0, 0)) →
  Calls Try.prog 29 #[(.pointer x26), (.slice (some (⟨w3.heap.size, 0, none⟩ : Addr)) 1 1)] w4 (Ret fun v_2 w5 => ∃ (x44 : Int), v_2 = (.int .i64 x44) ∧
  ((x44 != (0 : Int)) = true →
  R (.bool false) w5) ∧
  ((x44 != (0 : Int)) = false →
  ∃ vk_1 : Nat, vk_1 < vk ∧ vI (IntKind.i64.wrap (i + 1)) vk_1 w5))) ∧
  (decide (i < ((listN : Nat) : Int)) = false →
  Calls Try.prog 37 #[(.pointer x26)] w3 (Ret fun v_3 w6 => ∃ (x49 : ByteArray), v_3 = (.string x49) ∧
  Calls Try.prog 39 #[(.int .i64 (IntKind.i64.wrap (1 + (IntKind.i64.wrap (Int.tmod (IntKind.u64.wrap n) 1024))))), (.string x49)] w6 (Ret fun v_4 w7 => ∃ (x50_0 : Option Addr), ∃ (x50_1 : Int), v_4 = (.tuple #[(.pointer x50_0), (.int .i64 x50_1)]) ∧
  ((x50_1 != (0 : Int)) = true →
  R (.bool false) w7) ∧
  ((x50_1 != (0 : Int)) = false →
  Calls Try.prog 41 #[(.pointer x26), (.pointer x50_0)] w7 (Ret fun v_5 w8 => ∃ (x58 : Bool), v_5 = (.bool x58) ∧
  ((!x58) = true →
  R (.bool false) w8) ∧
  ((!x58) = false →
  Calls Try.prog 41 #[(.pointer x50_0), (.pointer x26)] w8 (Ret fun v_6 w9 => ∃ (x64 : Bool), v_6 = (.bool x64) ∧
  ((!x64) = true →
  R (.bool false) w9) ∧
  ((!x64) = false →
  (IntKind.u64.wrap (IntKind.i64.wrap (1 + (IntKind.i64.wrap (Int.tmod (IntKind.u64.wrap n) 1024))))) ≠ 0 ∧
  ∀ w10 : World, w10 = w9.alloc (.cells #[(.int .i64 (IntKind.i64.wrap (Int.tmod (IntKind.u64.wrap more) (IntKind.u64.wrap (IntKind.i64.wrap (1 + (IntKind.i64.wrap (Int.tmod (IntKind.u64.wrap n) 1024))))))))] 3 (0, 0)) →
  Calls Try.prog 32 #[(.pointer x26), (.slice (some (⟨w9.heap.size, 0, none⟩ : Addr)) 1 1)] w10 (Ret fun v_7 w11 => ∃ (x76 : Bool), v_7 = (.bool x76) ∧
  Calls Try.prog 30 #[(.pointer x26)] w11 (Ret fun v_8 w12 => ∃ (x78 : Int), v_8 = (.int .i64 x78) ∧
  ∀ w13 : World, w13 = w12.alloc (.cells #[(.int .i64 (IntKind.i64.wrap (Int.tmod (IntKind.u64.wrap more) (IntKind.u64.wrap (IntKind.i64.wrap (1 + (IntKind.i64.wrap (Int.tmod (IntKind.u64.wrap n) 1024))))))))] 3 (0, 0)) →
  Calls Try.prog 29 #[(.pointer x50_0), (.slice (some (⟨w12.heap.size, 0, none⟩ : Addr)) 1 1)] w13 (Ret fun v_9 w14 => ∃ (x82 : Int), v_9 = (.int .i64 x82) ∧
  ((x82 != (0 : Int)) = true →
  R (.bool false) w14) ∧
  ((x82 != (0 : Int)) = false →
  Calls Try.prog 41 #[(.pointer x26), (.pointer x50_0)] w14 (Ret fun v_10 w15 => ∃ (x87 : Bool), v_10 = (.bool x87) ∧
  ((!(x87 == x76)) = true →
  R (.bool false) w15) ∧
  ((!(x87 == x76)) = false →
  Calls Try.prog 37 #[(.pointer x26)] w15 (Ret fun v_11 w16 => ∃ (x93 : ByteArray), v_11 = (.string x93) ∧
  Calls Try.prog 37 #[(.pointer x50_0)] w16 (Ret fun v_12 w17 => ∃ (x95 : ByteArray), v_12 = (.string x95) ∧
  ((!((x93.toList == x95.toList) == x76)) = true →
  R (.bool false) w17) ∧
  ((!((x93.toList == x95.toList) == x76)) = false →
  ∀ w18 : World, w18 = w17.alloc (.cells #[(.int .i64 (IntKind.i64.wrap (Int.tmod (IntKind.u64.wrap more) (IntKind.u64.wrap (IntKind.i64.wrap (1 + (IntKind.i64.wrap (Int.tmod (IntKind.u64.wrap n) 1024))))))))] 3 (0, 0)) →
  Calls Try.prog 34 #[(.pointer x50_0), (.slice (some (⟨w17.heap.size, 0, none⟩ : Addr)) 1 1)] w18 (Ret fun v_13 w19 => ∃ (x103 : Int), v_13 = (.int .i64 x103) ∧
  ((x103 != (0 : Int)) = true →
  R (.bool false) w19) ∧
  ((x103 != (0 : Int)) = false →
  ∀ w20 : World, w20 = w19.alloc (.cells #[(.int .i64 (IntKind.i64.wrap (Int.tmod (IntKind.u64.wrap more) (IntKind.u64.wrap (IntKind.i64.wrap (1 + (IntKind.i64.wrap (Int.tmod (IntKind.u64.wrap n) 1024))))))))] 3 (0, 0)) →
  Calls Try.prog 32 #[(.pointer x50_0), (.slice (some (⟨w19.heap.size, 0, none⟩ : Addr)) 1 1)] w20 (Ret fun v_14 w21 => ∃ (x109 : Bool), v_14 = (.bool x109) ∧
  (x109 = true →
  R (.bool false) w21) ∧
  (x109 = false →
  Calls Try.prog 30 #[(.pointer x50_0)] w21 (Ret fun v_15 w22 => ∃ (x113 : Int), v_15 = (.int .i64 x113) ∧
  Calls Try.prog 30 #[(.pointer x26)] w22 (Ret fun v_16 w23 => ∃ (x115 : Int), v_16 = (.int .i64 x115) ∧
  ((x113 != x115) = true →
  ((!x76) = true →
  R (.bool false) w23) ∧
  ((!x76) = false →
  Calls Try.prog 30 #[(.pointer x26)] w23 (Ret fun v_17 w24 => ∃ (x123 : Int), v_17 = (.int .i64 x123) ∧
  ((x123 == x78) = true →
  Calls Try.prog 41 #[(.pointer none), (.pointer none)] w24 (Ret fun v_18 w25 => ∃ (x127 : Bool), v_18 = (.bool x127) ∧
  (x127 = true →
  Calls Try.prog 41 #[(.pointer x26), (.pointer none)] w25 (Ret fun v_19 w26 => ∃ (x131 : Bool), v_19 = (.bool x131) ∧
  ((!x131) = true →
  (1024 : Int) ≠ 0 ∧
  Calls Try.prog 28 #[(.int .i64 (IntKind.i64.wrap ((Int.tmod (IntKind.i64.wrap (1 + (IntKind.i64.wrap (Int.tmod (IntKind.u64.wrap n) 1024)))) 1024) + 1)))] w26 (Ret fun v_20 w27 => ∃ (x139 : Option Addr), v_20 = (.pointer x139) ∧
  Calls Try.prog 41 #[(.pointer x26), (.pointer x139)] w27 (Ret fun v_21 w28 => ∃ (x140 : Bool), v_21 = (.bool x140) ∧
  R (.bool (!x140)) w28))) ∧
  ((!x131) = false →
  R (.bool false) w26))) ∧
  (x127 = false →
  R (.bool false) w25))) ∧
  ((x123 == x78) = false →
  R (.bool false) w24)))) ∧
  ((x113 != x115) = false →
  Calls Try.prog 30 #[(.pointer x26)] w23 (Ret fun v_22 w29 => ∃ (x123_1 : Int), v_22 = (.int .i64 x123_1) ∧
  ((x123_1 == x78) = true →
  Calls Try.prog 41 #[(.pointer none), (.pointer none)] w29 (Ret fun v_23 w30 => ∃ (x127_1 : Bool), v_23 = (.bool x127_1) ∧
  (x127_1 = true →
  Calls Try.prog 41 #[(.pointer x26), (.pointer none)] w30 (Ret fun v_24 w31 => ∃ (x131_1 : Bool), v_24 = (.bool x131_1) ∧
  ((!x131_1) = true →
  (1024 : Int) ≠ 0 ∧
  Calls Try.prog 28 #[(.int .i64 (IntKind.i64.wrap ((Int.tmod (IntKind.i64.wrap (1 + (IntKind.i64.wrap (Int.tmod (IntKind.u64.wrap n) 1024)))) 1024) + 1)))] w31 (Ret fun v_25 w32 => ∃ (x139_1 : Option Addr), v_25 = (.pointer x139_1) ∧
  Calls Try.prog 41 #[(.pointer x26), (.pointer x139_1)] w32 (Ret fun v_26 w33 => ∃ (x140_1 : Bool), v_26 = (.bool x140_1) ∧
  R (.bool (!x140_1)) w33))) ∧
  ((!x131_1) = false →
  R (.bool false) w31))) ∧
  (x127_1 = false →
  R (.bool false) w30))) ∧
  ((x123_1 == x78) = false →
  R (.bool false) w29))))))))))))))))))))))))))))))
theorem coadjutorlaw08_BitsBack.vc_eq (n : Int) (listA : Option Addr) (listN : Nat) (listC : Nat) (more : Int) (w : World) (R : Value → World → Prop) : fnV Try.prog Try.f10 (.c .nil (.c .nil (.lp [(6, none), (9, some (.int .i64)), (27, none), (28, none), (29, none), (30, none), (31, none), (32, none), (33, none), (34, none), (35, none), (36, none), (37, none), (38, none), (39, none), (40, none), (41, none), (42, none), (43, none), (44, none), (45, none)] (.c (.c .nil .nil) (.at_ 13 2 (.k .nil) (.at_ 13 8 (.k .nil) (.c .nil (.at_ 18 5 (.k .nil) (.at_ 18 12 (.k .nil) (.c .nil (.at_ 20 5 (.k .nil) (.at_ 20 11 (.k .nil) (.at_ 20 17 (.c .nil (.at_ 22 4 (.at_ 22 7 (.at_ 22 12 .nil .nil) .nil) .nil)) (.k (.at_ 22 4 (.at_ 22 7 (.at_ 22 12 .nil .nil) .nil) .nil))))))))))))))) [(.int .i64 n), (.slice listA listN listC), (.int .i64 more)] w R = coadjutorlaw08_BitsBack.vc n listA listN listC more w R := by kernel_rfl
theorem coadjutorlaw08_BitsBack.calls (n : Int) (listA : Option Addr) (listN : Nat) (listC : Nat) (more : Int) {w : World} {R : Value → World → Prop} (h : coadjutorlaw08_BitsBack.vc n listA listN listC more w R) : Calls Try.prog 10 #[(.int .i64 n), (.slice listA listN listC), (.int .i64 more)] w (Ret R) :=
  calls_V fit Try.func10 (.c .nil (.c .nil (.lp [(6, none), (9, some (.int .i64)), (27, none), (28, none), (29, none), (30, none), (31, none), (32, none), (33, none), (34, none), (35, none), (36, none), (37, none), (38, none), (39, none), (40, none), (41, none), (42, none), (43, none), (44, none), (45, none)] (.c (.c .nil .nil) (.at_ 13 2 (.k .nil) (.at_ 13 8 (.k .nil) (.c .nil (.at_ 18 5 (.k .nil) (.at_ 18 12 (.k .nil) (.c .nil (.at_ 20 5 (.k .nil) (.at_ 20 11 (.k .nil) (.at_ 20 17 (.c .nil (.at_ 22 4 (.at_ 22 7 (.at_ 22 12 .nil .nil) .nil) .nil)) (.k (.at_ 22 4 (.at_ 22 7 (.at_ 22 12 .nil .nil) .nil) .nil))))))))))))))) (by rw [show (#[(.int .i64 n), (.slice listA listN listC), (.int .i64 more)] : Array Value).toList = [(.int .i64 n), (.slice listA listN listC), (.int .i64 more)] from rfl, coadjutorlaw08_BitsBack.vc_eq]; exact h)
end Go.Proofs.Ytefidalhijpmdaa.Vc
