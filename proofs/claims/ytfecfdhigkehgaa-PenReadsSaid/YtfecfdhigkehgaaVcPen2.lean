import Derived.Test.YtfecfdhigkehgaaVc
import Derived.Test.YtfecfdhigkehgaaH
import Derived.Test.YtfecfdhigkehgaaProg
import Derived.KernelRfl
set_option linter.unusedVariables false
set_option maxRecDepth 100000
namespace Go.Proofs.Ytfecfdhigkehgaa.Vc
open Go Go.Proofs Go.Proofs.Ytfecfdhigkehgaa.V
/-- function 26 -/
def pen_Pen_Bad.vc (pB : Nat) (w : World) (R : Value → World → Prop) : Prop :=
  ∃ (x9 : Bool), w.cell? (⟨pB, 2, none⟩ : Addr) = some (.bool x9) ∧
  R (.bool x9) w
theorem pen_Pen_Bad.vc_eq (pB : Nat) (w : World) (R : Value → World → Prop) : fnV Try.prog Try.f26 .nil [(.pointer (some (⟨pB, 0, none⟩ : Addr)))] w R = pen_Pen_Bad.vc pB w R := by kernel_rfl
theorem pen_Pen_Bad.calls (pB : Nat) {w : World} {R : Value → World → Prop} (h : pen_Pen_Bad.vc pB w R) : Calls Try.prog 26 #[(.pointer (some (⟨pB, 0, none⟩ : Addr)))] w (Ret R) :=
  calls_V fit Try.func26 .nil (by rw [show (#[(.pointer (some (⟨pB, 0, none⟩ : Addr)))] : Array Value).toList = [(.pointer (some (⟨pB, 0, none⟩ : Addr)))] from rfl, pen_Pen_Bad.vc_eq]; exact h)
/-- function 23 -/
def coadjutorlaw03_awake.vc (w : World) (R : Value → World → Prop) : Prop :=
  ∀ w1 : World, w1 = w.alloc (.cells #[(.pointer none), (.slice none 0 0), (.bool false)] 45 (0, 0)) →
  ∀ w2 : World, w2 = w1.alloc (.cells #[(.int .i64 258), (.int .i64 (-1))] 3 (0, 0)) →
  Calls Try.prog 24 #[(.pointer (some (⟨w.heap.size, 0, none⟩ : Addr))), (.slice (some (⟨w1.heap.size, 0, none⟩ : Addr)) 2 2)] w2 (Ret fun v w3 => v = .tuple #[] ∧
  ∀ w4 : World, w4 = w3.alloc (.cells #[(.string (ByteArray.mk #[97, 98])), (.string (ByteArray.mk #[]))] 9 (0, 0)) →
  Calls Try.prog 27 #[(.pointer (some (⟨w.heap.size, 0, none⟩ : Addr))), (.slice (some (⟨w3.heap.size, 0, none⟩ : Addr)) 2 2)] w4 (Ret fun v_1 w5 => v_1 = .tuple #[] ∧
  ∀ w6 : World, w6 = w5.alloc (.cells #[(.int .u8 7)] 5 (0, 0)) →
  Calls Try.prog 33 #[(.pointer (some (⟨w.heap.size, 0, none⟩ : Addr))), (.slice (some (⟨w5.heap.size, 0, none⟩ : Addr)) 1 1)] w6 (Ret fun v_2 w7 => v_2 = .tuple #[] ∧
  Calls Try.prog 28 #[(.string (ByteArray.mk #[2, 1, 0, 0, 2, 0, 0, 0, 97, 98, 33]))] w7 (Ret fun v_3 w8 => ∃ (x14 : Option Addr), v_3 = (.pointer x14) ∧
  (x14.isNone = true →
  R (.bool false) w8) ∧
  (x14.isNone = false →
  Calls Try.prog 26 #[(.pointer (some (⟨w.heap.size, 0, none⟩ : Addr)))] w8 (Ret fun v_4 w9 => ∃ (x18 : Bool), v_4 = (.bool x18) ∧
  (x18 = true →
  Calls Try.prog 25 #[(.pointer (some (⟨w.heap.size, 0, none⟩ : Addr)))] w9 (Ret fun v_5 w10 => ∃ (x21 : ByteArray), v_5 = (.string x21) ∧
  ((x21.toList == (ByteArray.mk #[2, 1, 0, 0, 0, 0, 0, 0, 2, 0, 0, 0, 97, 98, 0, 0, 0, 0, 7]).toList) = true →
  Calls Try.prog 29 #[(.pointer x14), (.int .i64 300)] w10 (Ret fun v_6 w11 => ∃ (x26 : Int), v_6 = (.int .i64 x26) ∧
  ((x26 == (258 : Int)) = true →
  Calls Try.prog 30 #[(.pointer x14), (.int .i64 2)] w11 (Ret fun v_7 w12 => ∃ (x31 : ByteArray), v_7 = (.string x31) ∧
  ((x31.toList == (ByteArray.mk #[97, 98]).toList) = true →
  Calls Try.prog 32 #[(.pointer x14)] w12 (Ret fun v_8 w13 => ∃ (x36 : Int), v_8 = (.int .i64 x36) ∧
  ((x36 == (1 : Int)) = true →
  Calls Try.prog 31 #[(.pointer x14)] w13 (Ret fun v_9 w14 => ∃ (x41 : Int), v_9 = (.int .i64 x41) ∧
  ((x41 == (5 : Int)) = true →
  Calls Try.prog 38 #[(.pointer x14)] w14 (Ret fun v_10 w15 => ∃ (x46 : Int), v_10 = (.int .u8 x46) ∧
  ((x46 == (33 : Int)) = true →
  Calls Try.prog 31 #[(.pointer x14)] w15 (Ret fun v_11 w16 => ∃ (x51 : Int), v_11 = (.int .i64 x51) ∧
  R (.bool (x51 == (0 : Int))) w16)) ∧
  ((x46 == (33 : Int)) = false →
  R (.bool false) w15))) ∧
  ((x41 == (5 : Int)) = false →
  R (.bool false) w14))) ∧
  ((x36 == (1 : Int)) = false →
  R (.bool false) w13))) ∧
  ((x31.toList == (ByteArray.mk #[97, 98]).toList) = false →
  R (.bool false) w12))) ∧
  ((x26 == (258 : Int)) = false →
  R (.bool false) w11))) ∧
  ((x21.toList == (ByteArray.mk #[2, 1, 0, 0, 0, 0, 0, 0, 2, 0, 0, 0, 97, 98, 0, 0, 0, 0, 7]).toList) = false →
  R (.bool false) w10))) ∧
  (x18 = false →
  R (.bool false) w9)))))))
theorem coadjutorlaw03_awake.vc_eq (w : World) (R : Value → World → Prop) : fnV Try.prog Try.f23 (.c .nil (.at_ 8 2 (.at_ 8 7 (.at_ 8 12 (.at_ 8 17 (.at_ 8 22 (.at_ 8 27 (.at_ 8 32 .nil .nil) .nil) .nil) .nil) .nil) .nil) .nil)) [] w R = coadjutorlaw03_awake.vc  w R := by kernel_rfl
theorem coadjutorlaw03_awake.calls {w : World} {R : Value → World → Prop} (h : coadjutorlaw03_awake.vc  w R) : Calls Try.prog 23 #[] w (Ret R) :=
  calls_V fit Try.func23 (.c .nil (.at_ 8 2 (.at_ 8 7 (.at_ 8 12 (.at_ 8 17 (.at_ 8 22 (.at_ 8 27 (.at_ 8 32 .nil .nil) .nil) .nil) .nil) .nil) .nil) .nil)) (by rw [show (#[] : Array Value).toList = [] from rfl, coadjutorlaw03_awake.vc_eq]; exact h)
/-- function 8 -/
def coadjutorlaw03_PenBack.vc (listA : Option Addr) (listN : Nat) (listC : Nat) (otherA : Option Addr) (otherN : Nat) (otherC : Nat) (textsA : Option Addr) (textsN : Nat) (textsC : Nat) (w : World) (R : Value → World → Prop) : Prop :=
  Calls Try.prog 23 #[] w (Ret fun v w1 => ∃ (x19 : Bool), v = (.bool x19) ∧
  ((!x19) = true →
  R (.bool false) w1) ∧
  ((!x19) = false →
  (decide (((listN : Nat) : Int) > (30 : Int)) = true →
  R (.bool true) w1) ∧
  (decide (((listN : Nat) : Int) > (30 : Int)) = false →
  (decide (((otherN : Nat) : Int) > (30 : Int)) = true →
  R (.bool true) w1) ∧
  (decide (((otherN : Nat) : Int) > (30 : Int)) = false →
  (decide (((textsN : Nat) : Int) > (30 : Int)) = true →
  R (.bool true) w1) ∧
  (decide (((textsN : Nat) : Int) > (30 : Int)) = false →
  ((((listN : Nat) : Int) == (0 : Int)) = true →
  R (.bool true) w1) ∧
  ((((listN : Nat) : Int) == (0 : Int)) = false →
  ∀ w2 : World, w2 = w1.alloc (.cells #[(.pointer none), (.slice none 0 0), (.bool false)] 45 (0, 0)) →
  ∀ w3 : World, w3 = w2.alloc (.cells #[(.pointer none), (.slice none 0 0), (.bool false)] 45 (0, 0)) →
  ∀ w4 : World, w4 = w3.alloc (.cells #[(.pointer none), (.slice none 0 0), (.bool false)] 45 (0, 0)) →
  ∀ w5 : World, w5 = w4.alloc (.cells #[] 3 (0, 0)) →
  ∀ w6 : World, w6 = w5.alloc (.cells #[] 3 (0, 0)) →
  ∃ vI : Option Addr → Nat → Nat → Int → Nat → World → Prop, (∃ vk_2 : Nat, vI (some (⟨w4.heap.size, 0, none⟩ : Addr)) 0 0 0 vk_2 w6) ∧
  ∀ (jk : Nat → Value) (aA : Option Addr) (aN : Nat) (aC : Nat) (i : Int), ∀ (vk : Nat) (w7 : World), vI aA aN aC i vk w7 →
  (decide (i < ((listN : Nat) : Int)) = true →
  (0 ≤ i ∧ i < ((listN : Nat) : Int)) ∧ someV listA fun p =>
  ∃ (x62 : Int), w7.cell? (p.add (i.toNat * 1)) = some (.int .i64 x62) ∧
  ∀ w8 : World, w8 = w7.alloc (.cells #[(.int .i64 (IntKind.i64.wrap (IntKind.u32.wrap x62)))] 3 (0, 0)) →
  ∃ (x66A : Option Addr), ∃ (x66N : Nat), ∃ (x66C : Nat), ∃ w9 : World, (Builtin.append_ #[22, 22] 22 #[(.slice aA aN aC), (.slice (some (⟨w7.heap.size, 0, none⟩ : Addr)) 1 1)]).run Try.prog w8 = .ok (.slice x66A x66N x66C) w9 ∧
  (0 ≤ i ∧ i < ((listN : Nat) : Int)) ∧ someV listA fun p_1 =>
  ∃ (x71 : Int), w9.cell? (p_1.add (i.toNat * 1)) = some (.int .i64 x71) ∧
  ∀ w10 : World, w10 = w9.alloc (.cells #[(.int .i64 (IntKind.i64.wrap (IntKind.u32.wrap x71)))] 3 (0, 0)) →
  Calls Try.prog 24 #[(.pointer (some (⟨w2.heap.size, 0, none⟩ : Addr))), (.slice (some (⟨w9.heap.size, 0, none⟩ : Addr)) 1 1)] w10 (Ret fun v_1 w11 => v_1 = .tuple #[] ∧
  ∃ vk_1 : Nat, vk_1 < vk ∧ vI x66A x66N x66C (IntKind.i64.wrap (i + 1)) vk_1 w11)) ∧
  (decide (i < ((listN : Nat) : Int)) = false →
  ∃ vI_1 : Bool → Option Addr → Nat → Nat → Int → Nat → World → Prop, (∃ vk_5 : Nat, vI_1 (((listN : Nat) : Int) == ((otherN : Nat) : Int)) (some (⟨w5.heap.size, 0, none⟩ : Addr)) 0 0 0 vk_5 w7) ∧
  ∀ (jk : Nat → Value) (same : Bool) (bA : Option Addr) (bN : Nat) (bC : Nat) (i_1 : Int), ∀ (vk_3 : Nat) (w12 : World), vI_1 same bA bN bC i_1 vk_3 w12 →
  (decide (i_1 < ((otherN : Nat) : Int)) = true →
  (0 ≤ i_1 ∧ i_1 < ((otherN : Nat) : Int)) ∧ someV otherA fun p_2 =>
  ∃ (x86 : Int), w12.cell? (p_2.add (i_1.toNat * 1)) = some (.int .i64 x86) ∧
  ∀ w13 : World, w13 = w12.alloc (.cells #[(.int .i64 (IntKind.i64.wrap (IntKind.u32.wrap x86)))] 3 (0, 0)) →
  ∃ (x90A : Option Addr), ∃ (x90N : Nat), ∃ (x90C : Nat), ∃ w14 : World, (Builtin.append_ #[22, 22] 22 #[(.slice bA bN bC), (.slice (some (⟨w12.heap.size, 0, none⟩ : Addr)) 1 1)]).run Try.prog w13 = .ok (.slice x90A x90N x90C) w14 ∧
  ∃ vS : World → Prop, ∀ w15 : World, w15 = w14.drew → vS w15 ∧
  (same = true →
  (0 ≤ (if (IntKind.i64.wrap (((aN : Nat) : Int) - 1)) < i_1 then (IntKind.i64.wrap (((aN : Nat) : Int) - 1)) else i_1) ∧ (if (IntKind.i64.wrap (((aN : Nat) : Int) - 1)) < i_1 then (IntKind.i64.wrap (((aN : Nat) : Int) - 1)) else i_1) < ((aN : Nat) : Int)) ∧ someV aA fun p_3 =>
  ∃ (x100 : Int), (∀ w16, vS w16 → w16.cell? (p_3.add ((if (IntKind.i64.wrap (((aN : Nat) : Int) - 1)) < i_1 then (IntKind.i64.wrap (((aN : Nat) : Int) - 1)) else i_1).toNat * 1)) = some (.int .i64 x100)) ∧
  (0 ≤ i_1 ∧ i_1 < ((x90N : Nat) : Int)) ∧ someV x90A fun p_4 =>
  ∃ (x104 : Int), (∀ w17, vS w17 → w17.cell? (p_4.add (i_1.toNat * 1)) = some (.int .i64 x104)) ∧
  ∃ vk_4 : Nat, vk_4 < vk_3 ∧ vI_1 (x100 == x104) x90A x90N x90C (IntKind.i64.wrap (i_1 + 1)) vk_4 w15) ∧
  (same = false →
  ∃ vk_4 : Nat, vk_4 < vk_3 ∧ vI_1 false x90A x90N x90C (IntKind.i64.wrap (i_1 + 1)) vk_4 w15)) ∧
  (decide (i_1 < ((otherN : Nat) : Int)) = false →
  Calls Try.prog 24 #[(.pointer (some (⟨w1.heap.size, 0, none⟩ : Addr))), (.slice aA aN aC)] w12 (Ret fun v_2 w18 => v_2 = .tuple #[] ∧
  Calls Try.prog 24 #[(.pointer (some (⟨w3.heap.size, 0, none⟩ : Addr))), (.slice bA bN bC)] w18 (Ret fun v_3 w19 => v_3 = .tuple #[] ∧
  Calls Try.prog 25 #[(.pointer (some (⟨w1.heap.size, 0, none⟩ : Addr)))] w19 (Ret fun v_4 w20 => ∃ (x114 : ByteArray), v_4 = (.string x114) ∧
  Calls Try.prog 25 #[(.pointer (some (⟨w2.heap.size, 0, none⟩ : Addr)))] w20 (Ret fun v_5 w21 => ∃ (x116 : ByteArray), v_5 = (.string x116) ∧
  ((!(x114.toList == x116.toList)) = true →
  R (.bool false) w21) ∧
  ((!(x114.toList == x116.toList)) = false →
  Calls Try.prog 26 #[(.pointer (some (⟨w1.heap.size, 0, none⟩ : Addr)))] w21 (Ret fun v_6 w22 => ∃ (x120 : Bool), v_6 = (.bool x120) ∧
  (x120 = true →
  R (.bool false) w22) ∧
  (x120 = false →
  Calls Try.prog 25 #[(.pointer (some (⟨w1.heap.size, 0, none⟩ : Addr)))] w22 (Ret fun v_7 w23 => ∃ (x124 : ByteArray), v_7 = (.string x124) ∧
  Calls Try.prog 25 #[(.pointer (some (⟨w3.heap.size, 0, none⟩ : Addr)))] w23 (Ret fun v_8 w24 => ∃ (x126 : ByteArray), v_8 = (.string x126) ∧
  ((!((x124.toList == x126.toList) == same)) = true →
  R (.bool false) w24) ∧
  ((!((x124.toList == x126.toList) == same)) = false →
  ∃ vI_2 : Int → Nat → World → Prop, (∃ vk_8 : Nat, vI_2 0 vk_8 w24) ∧
  ∀ (jk : Nat → Value) (i_2 : Int), ∀ (vk_6 : Nat) (w25 : World), vI_2 i_2 vk_6 w25 →
  (decide (i_2 < ((textsN : Nat) : Int)) = true →
  (0 ≤ i_2 ∧ i_2 < ((textsN : Nat) : Int)) ∧ someV textsA fun p_5 =>
  ∃ (x140 : ByteArray), w25.cell? (p_5.add (i_2.toNat * 1)) = some (.string x140) ∧
  (decide (((x140.size : Nat) : Int) > (200 : Int)) = true →
  R (.bool true) w25) ∧
  (decide (((x140.size : Nat) : Int) > (200 : Int)) = false →
  ∃ vk_7 : Nat, vk_7 < vk_6 ∧ vI_2 (IntKind.i64.wrap (i_2 + 1)) vk_7 w25)) ∧
  (decide (i_2 < ((textsN : Nat) : Int)) = false →
  Calls Try.prog 27 #[(.pointer (some (⟨w1.heap.size, 0, none⟩ : Addr))), (.slice textsA textsN textsC)] w25 (Ret fun v_9 w26 => v_9 = .tuple #[] ∧
  Calls Try.prog 25 #[(.pointer (some (⟨w1.heap.size, 0, none⟩ : Addr)))] w26 (Ret fun v_10 w27 => ∃ (x147 : ByteArray), v_10 = (.string x147) ∧
  Calls Try.prog 28 #[(.string x147)] w27 (Ret fun v_11 w28 => ∃ (x148 : Option Addr), v_11 = (.pointer x148) ∧
  ∃ vI_3 : Int → Nat → World → Prop, (∃ vk_11 : Nat, vI_3 0 vk_11 w28) ∧
  ∀ (jk : Nat → Value) (i_3 : Int), ∀ (vk_9 : Nat) (w29 : World), vI_3 i_3 vk_9 w29 →
  (decide (i_3 < ((aN : Nat) : Int)) = true →
  ∃ vS_1 : World → Prop, ∀ w30 : World, w30 = w29.drew → vS_1 w30 ∧
  (0 ≤ i_3 ∧ i_3 < ((aN : Nat) : Int)) ∧ someV aA fun p_6 =>
  ∃ (x160 : Int), (∀ w31, vS_1 w31 → w31.cell? (p_6.add (i_3.toNat * 1)) = some (.int .i64 x160)) ∧
  Calls Try.prog 29 #[(.pointer x148), (.int .i64 4294967296)] w30 (Ret fun v_12 w32 => ∃ (x156 : Int), v_12 = (.int .i64 x156) ∧
  vS_1 w32 ∧
  ((x156 != x160) = true →
  R (.bool false) w32) ∧
  ((x156 != x160) = false →
  ∃ vk_10 : Nat, vk_10 < vk_9 ∧ vI_3 (IntKind.i64.wrap (i_3 + 1)) vk_10 w32))) ∧
  (decide (i_3 < ((aN : Nat) : Int)) = false →
  ∃ vI_4 : Int → Nat → World → Prop, (∃ vk_14 : Nat, vI_4 0 vk_14 w29) ∧
  ∀ (jk : Nat → Value) (i_4 : Int), ∀ (vk_12 : Nat) (w33 : World), vI_4 i_4 vk_12 w33 →
  (decide (i_4 < ((textsN : Nat) : Int)) = true →
  ∃ vS_2 : World → Prop, ∀ w34 : World, w34 = w33.drew → vS_2 w34 ∧
  (0 ≤ i_4 ∧ i_4 < ((textsN : Nat) : Int)) ∧ someV textsA fun p_7 =>
  ∃ (x172 : ByteArray), (∀ w35, vS_2 w35 → w35.cell? (p_7.add (i_4.toNat * 1)) = some (.string x172)) ∧
  (0 ≤ i_4 ∧ i_4 < ((textsN : Nat) : Int)) ∧ someV textsA fun p_8 =>
  ∃ (x178 : ByteArray), (∀ w36, vS_2 w36 → w36.cell? (p_8.add (i_4.toNat * 1)) = some (.string x178)) ∧
  Calls Try.prog 30 #[(.pointer x148), (.int .i64 ((x172.size : Nat) : Int))] w34 (Ret fun v_13 w37 => ∃ (x174 : ByteArray), v_13 = (.string x174) ∧
  vS_2 w37 ∧
  ((!(x174.toList == x178.toList)) = true →
  R (.bool false) w37) ∧
  ((!(x174.toList == x178.toList)) = false →
  ∃ vk_13 : Nat, vk_13 < vk_12 ∧ vI_4 (IntKind.i64.wrap (i_4 + 1)) vk_13 w37))) ∧
  (decide (i_4 < ((textsN : Nat) : Int)) = false →
  Calls Try.prog 31 #[(.pointer x148)] w33 (Ret fun v_14 w38 => ∃ (x181 : Int), v_14 = (.int .i64 x181) ∧
  ((x181 == (0 : Int)) = true →
  Calls Try.prog 32 #[(.pointer x148)] w38 (Ret fun v_15 w39 => ∃ (x185 : Int), v_15 = (.int .i64 x185) ∧
  R (.bool (x185 == (0 : Int))) w39)) ∧
  ((x181 == (0 : Int)) = false →
  R (.bool false) w38))))))))))))))))))))))))))
theorem coadjutorlaw03_PenBack.vc_eq (listA : Option Addr) (listN : Nat) (listC : Nat) (otherA : Option Addr) (otherN : Nat) (otherC : Nat) (textsA : Option Addr) (textsN : Nat) (textsC : Nat) (w : World) (R : Value → World → Prop) : fnV Try.prog Try.f8 (.c .nil (.at_ 3 3 (.k .nil) (.at_ 3 8 (.k .nil) (.at_ 3 13 (.k .nil) (.c .nil (.lp [(11, some (.slice)), (13, some (.int .i64)), (52, none), (53, none), (54, none), (55, none), (56, none), (57, none), (58, none), (59, none), (60, none), (61, none), (62, none), (63, none), (64, none), (65, none), (66, none), (67, none), (68, none), (69, none), (70, none), (71, none), (72, none), (73, none), (74, none), (75, none)] (.c .nil (.lp [(10, some (.bool)), (12, some (.slice)), (14, some (.int .i64)), (76, none), (77, none), (78, none), (79, none), (80, none), (81, none), (82, none), (83, none), (84, none), (85, none), (86, none), (87, none), (88, none), (89, none), (90, none), (91, none), (92, none), (93, none), (94, none), (95, none), (96, none), (97, none), (98, none), (99, none), (100, none), (101, none), (102, none), (103, none), (104, none), (105, none), (106, none)] (.c (.tk 0 (.tks 1 (.tk 2 (.tk 3 (.tk 4 (.tk 5 (.tk 6 (.tk 7 (.tk 8 (.tk 9 (.tk 10 (.tk 11 (.tk 12 (.tk 13 (.tk 14 (.tk 15 (.tk 16 (.fin .nil)))))))))))))))) (.tk 2 (.tk 3 (.tk 4 (.tk 5 (.tk 6 (.tk 7 (.tk 8 (.tk 9 (.tk 10 (.tk 11 (.tk 12 (.tk 13 (.tk 14 (.tk 15 (.tk 16 (.fin .nil)))))))))))))))))) (.at_ 23 5 (.k .nil) (.at_ 23 9 (.k .nil) (.c .nil (.lp [(6, none), (15, some (.int .i64)), (131, none), (132, none), (133, none), (134, none), (135, none), (136, none), (137, none), (138, none), (139, none), (140, none), (141, none), (142, none)] (.c (.c .nil .nil) (.lp [(6, none), (17, some (.int .i64)), (149, none), (150, none), (151, none), (152, none), (153, none), (154, none), (155, none), (156, none), (157, none), (158, none), (159, none), (160, none), (161, none)] (.c (.tk 0 (.tk 2 (.tk 3 (.tk 4 (.tk 5 (.alt 1 (.tk 6 (.fin (.c .nil .nil))) .nil)))))) (.lp [(6, none), (18, some (.int .i64)), (162, none), (163, none), (164, none), (165, none), (166, none), (167, none), (168, none), (169, none), (170, none), (171, none), (172, none), (173, none), (174, none), (175, none), (176, none), (177, none), (178, none), (179, none)] (.c (.tk 0 (.tk 1 (.tk 2 (.tk 3 (.tk 4 (.tk 5 (.tk 7 (.tk 8 (.tk 9 (.tk 10 (.alt 6 (.tk 11 (.fin (.c .nil .nil))) .nil))))))))))) (.at_ 42 3 .nil .nil))))))))))))))))))) [(.slice listA listN listC), (.slice otherA otherN otherC), (.slice textsA textsN textsC)] w R = coadjutorlaw03_PenBack.vc listA listN listC otherA otherN otherC textsA textsN textsC w R := by kernel_rfl
theorem coadjutorlaw03_PenBack.calls (listA : Option Addr) (listN : Nat) (listC : Nat) (otherA : Option Addr) (otherN : Nat) (otherC : Nat) (textsA : Option Addr) (textsN : Nat) (textsC : Nat) {w : World} {R : Value → World → Prop} (h : coadjutorlaw03_PenBack.vc listA listN listC otherA otherN otherC textsA textsN textsC w R) : Calls Try.prog 8 #[(.slice listA listN listC), (.slice otherA otherN otherC), (.slice textsA textsN textsC)] w (Ret R) :=
  calls_V fit Try.func8 (.c .nil (.at_ 3 3 (.k .nil) (.at_ 3 8 (.k .nil) (.at_ 3 13 (.k .nil) (.c .nil (.lp [(11, some (.slice)), (13, some (.int .i64)), (52, none), (53, none), (54, none), (55, none), (56, none), (57, none), (58, none), (59, none), (60, none), (61, none), (62, none), (63, none), (64, none), (65, none), (66, none), (67, none), (68, none), (69, none), (70, none), (71, none), (72, none), (73, none), (74, none), (75, none)] (.c .nil (.lp [(10, some (.bool)), (12, some (.slice)), (14, some (.int .i64)), (76, none), (77, none), (78, none), (79, none), (80, none), (81, none), (82, none), (83, none), (84, none), (85, none), (86, none), (87, none), (88, none), (89, none), (90, none), (91, none), (92, none), (93, none), (94, none), (95, none), (96, none), (97, none), (98, none), (99, none), (100, none), (101, none), (102, none), (103, none), (104, none), (105, none), (106, none)] (.c (.tk 0 (.tks 1 (.tk 2 (.tk 3 (.tk 4 (.tk 5 (.tk 6 (.tk 7 (.tk 8 (.tk 9 (.tk 10 (.tk 11 (.tk 12 (.tk 13 (.tk 14 (.tk 15 (.tk 16 (.fin .nil)))))))))))))))) (.tk 2 (.tk 3 (.tk 4 (.tk 5 (.tk 6 (.tk 7 (.tk 8 (.tk 9 (.tk 10 (.tk 11 (.tk 12 (.tk 13 (.tk 14 (.tk 15 (.tk 16 (.fin .nil)))))))))))))))))) (.at_ 23 5 (.k .nil) (.at_ 23 9 (.k .nil) (.c .nil (.lp [(6, none), (15, some (.int .i64)), (131, none), (132, none), (133, none), (134, none), (135, none), (136, none), (137, none), (138, none), (139, none), (140, none), (141, none), (142, none)] (.c (.c .nil .nil) (.lp [(6, none), (17, some (.int .i64)), (149, none), (150, none), (151, none), (152, none), (153, none), (154, none), (155, none), (156, none), (157, none), (158, none), (159, none), (160, none), (161, none)] (.c (.tk 0 (.tk 2 (.tk 3 (.tk 4 (.tk 5 (.alt 1 (.tk 6 (.fin (.c .nil .nil))) .nil)))))) (.lp [(6, none), (18, some (.int .i64)), (162, none), (163, none), (164, none), (165, none), (166, none), (167, none), (168, none), (169, none), (170, none), (171, none), (172, none), (173, none), (174, none), (175, none), (176, none), (177, none), (178, none), (179, none)] (.c (.tk 0 (.tk 1 (.tk 2 (.tk 3 (.tk 4 (.tk 5 (.tk 7 (.tk 8 (.tk 9 (.tk 10 (.alt 6 (.tk 11 (.fin (.c .nil .nil))) .nil))))))))))) (.at_ 42 3 .nil .nil))))))))))))))))))) (by rw [show (#[(.slice listA listN listC), (.slice otherA otherN otherC), (.slice textsA textsN textsC)] : Array Value).toList = [(.slice listA listN listC), (.slice otherA otherN otherC), (.slice textsA textsN textsC)] from rfl, coadjutorlaw03_PenBack.vc_eq]; exact h)
end Go.Proofs.Ytfecfdhigkehgaa.Vc
