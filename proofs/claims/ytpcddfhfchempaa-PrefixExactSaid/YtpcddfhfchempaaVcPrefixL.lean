import Derived.Test.YtpcddfhfchempaaVc
import Derived.Test.YtpcddfhfchempaaH
import Derived.Test.YtpcddfhfchempaaProg
import Derived.KernelRfl
set_option linter.unusedVariables false
set_option maxRecDepth 100000
namespace Go.Proofs.Ytpcddfhfchempaa.Vc
open Go Go.Proofs Go.Proofs.Ytpcddfhfchempaa.V
/-- function 38 -/
def coadjutorlaw23_ints.vc (aA : Option Addr) (aN : Nat) (aC : Nat) (bA : Option Addr) (bN : Nat) (bC : Nat) (w : World) (R : Value → World → Prop) : Prop :=
  ((((aN : Nat) : Int) != ((bN : Nat) : Int)) = true →
  R (.bool false) w) ∧
  ((((aN : Nat) : Int) != ((bN : Nat) : Int)) = false →
  ∃ vI : Int → Nat → World → Prop, (∃ vk_2 : Nat, vI 0 vk_2 w) ∧
  ∀ (jk : Nat → Value) (i : Int), ∀ (vk : Nat) (w1 : World), vI i vk w1 →
  (decide (i < ((aN : Nat) : Int)) = true →
  ∃ vS : World → Prop, ∀ w2 : World, w2 = w1.drew → vS w2 ∧
  (0 ≤ i ∧ i < ((aN : Nat) : Int)) ∧ someV aA fun p =>
  ∃ (x20 : Int), (∀ w3, vS w3 → w3.cell? (p.add (i.toNat * 1)) = some (.int .i64 x20)) ∧
  (0 ≤ i ∧ i < ((bN : Nat) : Int)) ∧ someV bA fun p_1 =>
  ∃ (x24 : Int), (∀ w4, vS w4 → w4.cell? (p_1.add (i.toNat * 1)) = some (.int .i64 x24)) ∧
  ((x20 != x24) = true →
  R (.bool false) w2) ∧
  ((x20 != x24) = false →
  ∃ vk_1 : Nat, vk_1 < vk ∧ vI (IntKind.i64.wrap (i + 1)) vk_1 w2)) ∧
  (decide (i < ((aN : Nat) : Int)) = false →
  R (.bool true) w1))
theorem coadjutorlaw23_ints.vc_eq (aA : Option Addr) (aN : Nat) (aC : Nat) (bA : Option Addr) (bN : Nat) (bC : Nat) (w : World) (R : Value → World → Prop) : fnV Try.prog Try.f38 (.c .nil (.lp [(4, none), (5, some (.int .i64)), (11, none), (12, none), (13, none), (14, none), (15, none), (16, none), (17, none), (18, none), (19, none), (20, none), (21, none), (22, none), (23, none), (24, none), (25, none)] (.c (.tk 0 (.tk 1 (.tk 2 (.tk 3 (.tk 4 (.tk 5 (.tk 6 (.tk 7 (.tk 8 (.fin (.c .nil .nil))))))))))) .nil))) [(.slice aA aN aC), (.slice bA bN bC)] w R = coadjutorlaw23_ints.vc aA aN aC bA bN bC w R := by kernel_rfl
theorem coadjutorlaw23_ints.calls (aA : Option Addr) (aN : Nat) (aC : Nat) (bA : Option Addr) (bN : Nat) (bC : Nat) {w : World} {R : Value → World → Prop} (h : coadjutorlaw23_ints.vc aA aN aC bA bN bC w R) : Calls Try.prog 38 #[(.slice aA aN aC), (.slice bA bN bC)] w (Ret R) :=
  calls_V fit Try.func38 (.c .nil (.lp [(4, none), (5, some (.int .i64)), (11, none), (12, none), (13, none), (14, none), (15, none), (16, none), (17, none), (18, none), (19, none), (20, none), (21, none), (22, none), (23, none), (24, none), (25, none)] (.c (.tk 0 (.tk 1 (.tk 2 (.tk 3 (.tk 4 (.tk 5 (.tk 6 (.tk 7 (.tk 8 (.fin (.c .nil .nil))))))))))) .nil))) (by rw [show (#[(.slice aA aN aC), (.slice bA bN bC)] : Array Value).toList = [(.slice aA aN aC), (.slice bA bN bC)] from rfl, coadjutorlaw23_ints.vc_eq]; exact h)
/-- function 34 -/
def coadjutorlaw23_full.vc (n : Int) (w : World) (R : Value → World → Prop) : Prop :=
  Calls Try.prog 12 #[(.int .i64 n)] w (Ret fun v w1 => ∃ (x9 : Option Addr), v = (.pointer x9) ∧
  Calls Try.prog 23 #[(.int .i64 n)] w1 (Ret fun v_1 w2 => ∃ (x11 : Option Addr), v_1 = (.pointer x11) ∧
  ∃ vI : Int → Nat → World → Prop, (∃ vk_2 : Nat, vI 0 vk_2 w2) ∧
  ∀ (jk : Nat → Value) (i : Int), ∀ (vk : Nat) (w3 : World), vI i vk w3 →
  (decide (i < n) = true →
  (2 : Int) ≠ 0 ∧
  Calls Try.prog 17 #[(.pointer x9), (.int .i64 (IntKind.i64.wrap (1 + (Int.tmod i 2))))] w3 (Ret fun v_2 w4 => ∃ (x21_0 : Int), ∃ (x21_1 : Int), v_2 = (.tuple #[(.int .i64 x21_0), (.int .i64 x21_1)]) ∧
  (2 : Int) ≠ 0 ∧
  Calls Try.prog 26 #[(.pointer x11), (.int .i64 (IntKind.i64.wrap (1 + (Int.tmod i 2))))] w4 (Ret fun v_3 w5 => ∃ (x26_0 : Int), ∃ (x26_1 : Int), v_3 = (.tuple #[(.int .i64 x26_0), (.int .i64 x26_1)]) ∧
  ∃ vI_1 : Int → Nat → World → Prop, (∃ vk_5 : Nat, vI_1 0 vk_5 w5) ∧
  ∀ (jk : Nat → Value) (vk_6 : Int), ∀ (vk_3 : Nat) (w6 : World), vI_1 vk_6 vk_3 w6 →
  (decide (vk_6 < (4 : Int)) = true →
  ∀ w7 : World, w7 = w6.alloc (.cells #[(.int .i64 i)] 3 (0, 0)) →
  ∀ w8 : World, w8 = w7.alloc (.cells #[(.slice (some (⟨w6.heap.size, 0, none⟩ : Addr)) 1 1)] 27 (0, 0)) →
  Calls Try.prog 15 #[(.pointer x9), (.int .i64 i), (.agg #[(.slice (some (⟨w7.heap.size, 0, none⟩ : Addr)) 1 1), (.slice none 0 0)])] w8 (Ret fun v_4 w9 => ∃ (x37 : Int), v_4 = (.int .i64 x37) ∧
  ∀ w10 : World, w10 = w9.alloc (.cells #[(.int .i64 i)] 3 (0, 0)) →
  ∀ w11 : World, w11 = w10.alloc (.cells #[(.slice (some (⟨w9.heap.size, 0, none⟩ : Addr)) 1 1)] 27 (0, 0)) →
  Calls Try.prog 25 #[(.pointer x11), (.int .i64 i), (.agg #[(.slice (some (⟨w10.heap.size, 0, none⟩ : Addr)) 1 1), (.slice none 0 0)])] w11 (Ret fun v_5 w12 => ∃ (x44 : Int), v_5 = (.int .i64 x44) ∧
  ∃ vk_4 : Nat, vk_4 < vk_3 ∧ vI_1 (IntKind.i64.wrap (vk_6 + 1)) vk_4 w12))) ∧
  (decide (vk_6 < (4 : Int)) = false →
  ∃ vk_1 : Nat, vk_1 < vk ∧ vI (IntKind.i64.wrap (i + 1)) vk_1 w6)))) ∧
  (decide (i < n) = false →
  R (.tuple #[(.pointer x9), (.pointer x11)]) w3)))
theorem coadjutorlaw23_full.vc_eq (n : Int) (w : World) (R : Value → World → Prop) : fnV Try.prog Try.f34 (.lp [(6, some (.int .i64)), (7, none), (12, none), (13, none), (14, none), (15, none), (16, none), (17, none), (18, none), (19, none), (20, none), (21, none), (22, none), (23, none), (24, none), (25, none), (26, none), (27, none), (28, none), (29, none), (30, none), (31, none), (32, none), (33, none), (34, none), (35, none), (36, none), (37, none), (38, none), (39, none), (40, none), (41, none), (42, none), (43, none), (44, none)] (.c (.lp [(7, some (.int .i64)), (27, none), (28, none), (29, none), (30, none), (31, none), (32, none), (33, none), (34, none), (35, none), (36, none), (37, none), (38, none), (39, none), (40, none), (41, none), (42, none), (43, none), (44, none)] (.c .nil .nil)) .nil)) [(.int .i64 n)] w R = coadjutorlaw23_full.vc n w R := by kernel_rfl
theorem coadjutorlaw23_full.calls (n : Int) {w : World} {R : Value → World → Prop} (h : coadjutorlaw23_full.vc n w R) : Calls Try.prog 34 #[(.int .i64 n)] w (Ret R) :=
  calls_V fit Try.func34 (.lp [(6, some (.int .i64)), (7, none), (12, none), (13, none), (14, none), (15, none), (16, none), (17, none), (18, none), (19, none), (20, none), (21, none), (22, none), (23, none), (24, none), (25, none), (26, none), (27, none), (28, none), (29, none), (30, none), (31, none), (32, none), (33, none), (34, none), (35, none), (36, none), (37, none), (38, none), (39, none), (40, none), (41, none), (42, none), (43, none), (44, none)] (.c (.lp [(7, some (.int .i64)), (27, none), (28, none), (29, none), (30, none), (31, none), (32, none), (33, none), (34, none), (35, none), (36, none), (37, none), (38, none), (39, none), (40, none), (41, none), (42, none), (43, none), (44, none)] (.c .nil .nil)) .nil)) (by rw [show (#[(.int .i64 n)] : Array Value).toList = [(.int .i64 n)] from rfl, coadjutorlaw23_full.vc_eq]; exact h)
/-- function 33 -/
def coadjutorlaw23_awake.vc (w : World) (R : Value → World → Prop) : Prop :=
  Calls Try.prog 34 #[(.int .i64 3)] w (Ret fun v w1 => ∃ (x9_0 : Option Addr), ∃ (x9_1 : Option Addr), v = (.tuple #[(.pointer x9_0), (.pointer x9_1)]) ∧
  Calls Try.prog 35 #[(.pointer x9_0)] w1 (Ret fun v_1 w2 => ∃ (x13 : Option Addr), v_1 = (.pointer x13) ∧
  (x9_0.isNone = true →
  R (.bool false) w2) ∧
  (x9_0.isNone = false →
  (x13.isNone = true →
  R (.bool false) w2) ∧
  (x13.isNone = false →
  Calls Try.prog 35 #[(.pointer none)] w2 (Ret fun v_2 w3 => ∃ (x21 : Option Addr), v_2 = (.pointer x21) ∧
  ((!x21.isNone) = true →
  R (.bool false) w3) ∧
  ((!x21.isNone) = false →
  ∀ w4 : World, w4 = w3.alloc (.cells #[(.int .i64 1), (.int .i64 2), (.int .i64 3), (.int .i64 4)] 3 (0, 0)) →
  Calls Try.prog 36 #[(.pointer x13), (.int .i64 0), (.int .i64 1), (.slice (some (⟨w3.heap.size, 0, none⟩ : Addr)) 4 4)] w4 (Ret fun v_3 w5 => ∃ (x26 : Int), v_3 = (.int .i64 x26) ∧
  ∀ w6 : World, w6 = w5.alloc (.cells #[(.int .i64 1), (.int .i64 2), (.int .i64 3), (.int .i64 4), (.int .i64 5), (.int .i64 6), (.int .i64 7), (.int .i64 8)] 3 (0, 0)) →
  Calls Try.prog 36 #[(.pointer x13), (.int .i64 2), (.int .i64 1), (.slice (some (⟨w5.heap.size, 0, none⟩ : Addr)) 8 8)] w6 (Ret fun v_4 w7 => ∃ (x29 : Int), v_4 = (.int .i64 x29) ∧
  ∀ w8 : World, w8 = w7.alloc (.cells #[(.int .i64 1), (.int .i64 2), (.int .i64 3), (.int .i64 4), (.int .i64 5), (.int .i64 6), (.int .i64 7), (.int .i64 8)] 3 (0, 0)) →
  Calls Try.prog 37 #[(.pointer x13), (.int .i64 1), (.slice (some (⟨w7.heap.size, 0, none⟩ : Addr)) 8 8)] w8 (Ret fun v_5 w9 => ∃ (x32A : Option Addr), ∃ (x32N : Nat), ∃ (x32C : Nat), v_5 = (.slice x32A x32N x32C) ∧
  ∀ w10 : World, w10 = w9.alloc (.cells #[(.int .i64 1), (.int .i64 2), (.int .i64 3), (.int .i64 4), (.int .i64 5), (.int .i64 6), (.int .i64 7), (.int .i64 8), (.int .i64 9)] 3 (0, 0)) →
  Calls Try.prog 37 #[(.pointer x13), (.int .i64 1), (.slice (some (⟨w9.heap.size, 0, none⟩ : Addr)) 9 9)] w10 (Ret fun v_6 w11 => ∃ (x35A : Option Addr), ∃ (x35N : Nat), ∃ (x35C : Nat), v_6 = (.slice x35A x35N x35C) ∧
  ((x26 == (0 : Int)) = true →
  ((x29 == (0 : Int)) = true →
  ∀ w12 : World, w12 = w11.alloc (.cells #[(.int .i64 0)] 3 (0, 0)) →
  Calls Try.prog 38 #[(.slice x32A x32N x32C), (.slice (some (⟨w11.heap.size, 0, none⟩ : Addr)) 1 1)] w12 (Ret fun v_7 w13 => ∃ (x45 : Bool), v_7 = (.bool x45) ∧
  (x45 = true →
  ∀ w14 : World, w14 = w13.alloc (.cells #[(.int .i64 0), (.int .i64 2)] 3 (0, 0)) →
  Calls Try.prog 38 #[(.slice x35A x35N x35C), (.slice (some (⟨w13.heap.size, 0, none⟩ : Addr)) 2 2)] w14 (Ret fun v_8 w15 => ∃ (x50 : Bool), v_8 = (.bool x50) ∧
  (x50 = true →
  Calls Try.prog 20 #[(.pointer x9_0), (.int .i64 0)] w15 (Ret fun v_9 w16 => ∃ (x54 : Int), v_9 = (.int .i64 x54) ∧
  ((x54 == (4 : Int)) = true →
  Calls Try.prog 39 #[(.pointer x13)] w16 (Ret fun v_10 w17 => ∃ (x59 : Int), v_10 = (.int .i64 x59) ∧
  ((x59 == (2 : Int)) = true →
  Calls Try.prog 42 #[(.pointer x13)] w17 (Ret fun v_11 w18 => ∃ (x64 : Bool), v_11 = (.bool x64) ∧
  ((!x64) = true →
  ∀ w19 : World, w19 = w18.alloc (.cells #[(.int .i64 9), (.int .i64 9), (.int .i64 9), (.int .i64 9)] 3 (0, 0)) →
  Calls Try.prog 36 #[(.pointer x13), (.int .i64 1), (.int .i64 1), (.slice (some (⟨w18.heap.size, 0, none⟩ : Addr)) 4 4)] w19 (Ret fun v_12 w20 => ∃ (x70 : Int), v_12 = (.int .i64 x70) ∧
  ((x70 == (8 : Int)) = true →
  ∀ w21 : World, w21 = w20.alloc (.cells #[(.int .i64 1)] 3 (0, 0)) →
  Calls Try.prog 36 #[(.pointer x13), (.int .i64 0), (.int .i64 1), (.slice (some (⟨w20.heap.size, 0, none⟩ : Addr)) 1 1)] w21 (Ret fun v_13 w22 => ∃ (x76 : Int), v_13 = (.int .i64 x76) ∧
  R (.bool (x76 == (1 : Int))) w22)) ∧
  ((x70 == (8 : Int)) = false →
  R (.bool false) w20))) ∧
  ((!x64) = false →
  R (.bool false) w18))) ∧
  ((x59 == (2 : Int)) = false →
  R (.bool false) w17))) ∧
  ((x54 == (4 : Int)) = false →
  R (.bool false) w16))) ∧
  (x50 = false →
  R (.bool false) w15))) ∧
  (x45 = false →
  R (.bool false) w13))) ∧
  ((x29 == (0 : Int)) = false →
  R (.bool false) w11)) ∧
  ((x26 == (0 : Int)) = false →
  R (.bool false) w11)))))))))))
theorem coadjutorlaw23_awake.vc_eq (w : World) (R : Value → World → Prop) : fnV Try.prog Try.f33 (.at_ 3 2 (.k .nil) (.at_ 3 6 (.k .nil) (.c .nil (.at_ 9 2 (.at_ 9 6 (.at_ 9 11 (.at_ 9 16 (.at_ 9 21 (.at_ 9 26 (.at_ 9 31 (.at_ 9 37 .nil .nil) .nil) .nil) .nil) .nil) .nil) .nil) .nil)))) [] w R = coadjutorlaw23_awake.vc  w R := by kernel_rfl
theorem coadjutorlaw23_awake.calls {w : World} {R : Value → World → Prop} (h : coadjutorlaw23_awake.vc  w R) : Calls Try.prog 33 #[] w (Ret R) :=
  calls_V fit Try.func33 (.at_ 3 2 (.k .nil) (.at_ 3 6 (.k .nil) (.c .nil (.at_ 9 2 (.at_ 9 6 (.at_ 9 11 (.at_ 9 16 (.at_ 9 21 (.at_ 9 26 (.at_ 9 31 (.at_ 9 37 .nil .nil) .nil) .nil) .nil) .nil) .nil) .nil) .nil)))) (by rw [show (#[] : Array Value).toList = [] from rfl, coadjutorlaw23_awake.vc_eq]; exact h)
end Go.Proofs.Ytpcddfhfchempaa.Vc
