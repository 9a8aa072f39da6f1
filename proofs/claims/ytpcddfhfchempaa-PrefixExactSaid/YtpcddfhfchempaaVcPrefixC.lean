import Derived.Test.YtpcddfhfchempaaVc
import Derived.Test.YtpcddfhfchempaaH
import Derived.Test.YtpcddfhfchempaaProg
import Derived.KernelRfl
set_option linter.unusedVariables false
set_option maxRecDepth 100000
namespace Go.Proofs.Ytpcddfhfchempaa.Vc
open Go Go.Proofs Go.Proofs.Ytpcddfhfchempaa.V
/-- function 6 -/
def coadjutorlaw23_PrefixChain.vc (tokensA : Option Addr) (tokensN : Nat) (tokensC : Nat) (n : Int) (w : World) (R : Value → World → Prop) : Prop :=
  Calls Try.prog 33 #[] w (Ret fun v w1 => ∃ (x13 : Bool), v = (.bool x13) ∧
  ((!x13) = true →
  R (.bool false) w1) ∧
  ((!x13) = false →
  (decide (((tokensN : Nat) : Int) > (20 : Int)) = true →
  R (.bool true) w1) ∧
  (decide (((tokensN : Nat) : Int) > (20 : Int)) = false →
  Calls Try.prog 34 #[(.int .i64 8)] w1 (Ret fun v_1 w2 => ∃ (x19_0 : Option Addr), ∃ (x19_1 : Option Addr), v_1 = (.tuple #[(.pointer x19_0), (.pointer x19_1)]) ∧
  Calls Try.prog 35 #[(.pointer x19_0)] w2 (Ret fun v_2 w3 => ∃ (x23 : Option Addr), v_2 = (.pointer x23) ∧
  ∃ J : Int → World → Prop, (∃ vI : Int → Nat → World → Prop, (∃ vk_2 : Nat, vI 0 vk_2 w3) ∧
  ∀ (jk : Nat → Value) (vk_3 : Int), ∀ (vk : Nat) (w4 : World), vI vk_3 vk w4 →
  (decide ((IntKind.i64.wrap ((IntKind.i64.wrap (4 * vk_3)) + 4)) ≤ ((tokensN : Nat) : Int)) = true →
  (decide (vk_3 < (4 : Int)) = true →
  (0 ≤ (IntKind.i64.wrap ((IntKind.i64.wrap (4 * vk_3)) + 4)) ∧ (IntKind.i64.wrap ((IntKind.i64.wrap (4 * vk_3)) + 4)) ≤ ((tokensC : Nat) : Int)) ∧
  Calls Try.prog 36 #[(.pointer x23), (.int .i64 (IntKind.i64.wrap (2 * vk_3))), (.int .i64 1), (.slice (if tokensC = 0 then tokensA else tokensA.map (·.add (0 * 1))) ((IntKind.i64.wrap ((IntKind.i64.wrap (4 * vk_3)) + 4)).toNat - 0) (tokensC - 0))] w4 (Ret fun v_3 w5 => ∃ (x42 : Int), v_3 = (.int .i64 x42) ∧
  ((x42 != (0 : Int)) = true →
  R (.bool false) w5) ∧
  ((x42 != (0 : Int)) = false →
  ∃ vk_1 : Nat, vk_1 < vk ∧ vI (IntKind.i64.wrap (vk_3 + 1)) vk_1 w5))) ∧
  (decide (vk_3 < (4 : Int)) = false →
  J vk_3 w4)) ∧
  (decide ((IntKind.i64.wrap ((IntKind.i64.wrap (4 * vk_3)) + 4)) ≤ ((tokensN : Nat) : Int)) = false →
  J vk_3 w4)) ∧
  ∀ (jk : Nat → Value) (vk_4 : Int), ∀ w6 : World, J vk_4 w6 →
  (IntKind.u64.wrap (IntKind.i64.wrap (((tokensN : Nat) : Int) + 1))) ≠ 0 ∧
  (0 ≤ (IntKind.i64.wrap (Int.tmod (IntKind.u64.wrap n) (IntKind.u64.wrap (IntKind.i64.wrap (((tokensN : Nat) : Int) + 1))))) ∧ (IntKind.i64.wrap (Int.tmod (IntKind.u64.wrap n) (IntKind.u64.wrap (IntKind.i64.wrap (((tokensN : Nat) : Int) + 1))))) ≤ ((tokensC : Nat) : Int)) ∧
  Calls Try.prog 37 #[(.pointer x23), (.int .i64 1), (.slice (if tokensC = 0 then tokensA else tokensA.map (·.add (0 * 1))) ((IntKind.i64.wrap (Int.tmod (IntKind.u64.wrap n) (IntKind.u64.wrap (IntKind.i64.wrap (((tokensN : Nat) : Int) + 1))))).toNat - 0) (tokensC - 0))] w6 (Ret fun v_4 w7 => ∃ (x58A : Option Addr), ∃ (x58N : Nat), ∃ (x58C : Nat), v_4 = (.slice x58A x58N x58C) ∧
  ∀ w8 : World, w8 = w7.alloc (.cells #[] 3 (0, 0)) →
  ∃ J_1 : Option Addr → Nat → Nat → World → Prop, (∃ vI_1 : Option Addr → Nat → Nat → Int → Nat → World → Prop, (∃ vk_7 : Nat, vI_1 (some (⟨w7.heap.size, 0, none⟩ : Addr)) 0 0 0 vk_7 w8) ∧
  ∀ (jk : Nat → Value) (wantA : Option Addr) (wantN : Nat) (wantC : Nat) (i : Int), ∀ (vk_5 : Nat) (w9 : World), vI_1 wantA wantN wantC i vk_5 w9 →
  (decide ((IntKind.i64.wrap ((IntKind.i64.wrap (4 * i)) + 4)) < (IntKind.i64.wrap (Int.tmod (IntKind.u64.wrap n) (IntKind.u64.wrap (IntKind.i64.wrap (((tokensN : Nat) : Int) + 1)))))) = true →
  (decide (i < vk_4) = true →
  ∀ w10 : World, w10 = w9.alloc (.cells #[(.int .i64 (IntKind.i64.wrap (2 * i)))] 3 (0, 0)) →
  ∃ (x76A : Option Addr), ∃ (x76N : Nat), ∃ (x76C : Nat), ∃ w11 : World, (Builtin.append_ #[27, 27] 27 #[(.slice wantA wantN wantC), (.slice (some (⟨w9.heap.size, 0, none⟩ : Addr)) 1 1)]).run Try.prog w10 = .ok (.slice x76A x76N x76C) w11 ∧
  ∃ vk_6 : Nat, vk_6 < vk_5 ∧ vI_1 x76A x76N x76C (IntKind.i64.wrap (i + 1)) vk_6 w11) ∧
  (decide (i < vk_4) = false →
  J_1 wantA wantN wantC w9)) ∧
  (decide ((IntKind.i64.wrap ((IntKind.i64.wrap (4 * i)) + 4)) < (IntKind.i64.wrap (Int.tmod (IntKind.u64.wrap n) (IntKind.u64.wrap (IntKind.i64.wrap (((tokensN : Nat) : Int) + 1)))))) = false →
  J_1 wantA wantN wantC w9)) ∧
  ∀ (jk : Nat → Value) (wantA_1 : Option Addr) (wantN_1 : Nat) (wantC_1 : Nat), ∀ w12 : World, J_1 wantA_1 wantN_1 wantC_1 w12 →
  Calls Try.prog 38 #[(.slice x58A x58N x58C), (.slice wantA_1 wantN_1 wantC_1)] w12 (Ret fun v_5 w13 => ∃ (x79 : Bool), v_5 = (.bool x79) ∧
  (x79 = true →
  Calls Try.prog 37 #[(.pointer x23), (.int .i64 2), (.slice tokensA tokensN tokensC)] w13 (Ret fun v_6 w14 => ∃ (x83A : Option Addr), ∃ (x83N : Nat), ∃ (x83C : Nat), v_6 = (.slice x83A x83N x83C) ∧
  ((((x83N : Nat) : Int) == (0 : Int)) = true →
  Calls Try.prog 39 #[(.pointer x23)] w14 (Ret fun v_7 w15 => ∃ (x89 : Int), v_7 = (.int .i64 x89) ∧
  ((x89 == vk_4) = true →
  Calls Try.prog 40 #[(.pointer x23), (.int .i64 2)] w15 (Ret fun v_8 w16 => ∃ (x95 : Int), v_8 = (.int .i64 x95) ∧
  ((x95 == (0 : Int)) = true →
  Calls Try.prog 40 #[(.pointer x23), (.int .i64 1)] w16 (Ret fun v_9 w17 => ∃ (x100 : Int), v_9 = (.int .i64 x100) ∧
  R (.bool (x100 == vk_4)) w17)) ∧
  ((x95 == (0 : Int)) = false →
  R (.bool false) w16))) ∧
  ((x89 == vk_4) = false →
  R (.bool false) w15))) ∧
  ((((x83N : Nat) : Int) == (0 : Int)) = false →
  R (.bool false) w14))) ∧
  (x79 = false →
  R (.bool false) w13))))))))
theorem coadjutorlaw23_PrefixChain.vc_eq (tokensA : Option Addr) (tokensN : Nat) (tokensC : Nat) (n : Int) (w : World) (R : Value → World → Prop) : fnV Try.prog Try.f6 (.c .nil (.c .nil (.cut 3 [(4, none), (8, some (.int .i64)), (24, none), (25, none), (26, none), (27, none), (28, none), (29, none), (30, none), (31, none), (32, none), (33, none), (34, none), (35, none), (36, none), (37, none), (38, none), (39, none), (40, none), (41, none), (42, none), (43, none), (44, none), (45, none)] (.lp [(4, none), (8, some (.int .i64)), (24, none), (25, none), (26, none), (27, none), (28, none), (29, none), (30, none), (31, none), (32, none), (33, none), (34, none), (35, none), (36, none), (37, none), (38, none), (39, none), (40, none), (41, none), (42, none), (43, none), (44, none), (45, none)] (.at_ 8 6 (.c (.c .nil .nil) .nil) (.k .nil))) (.cut 3 [(11, some (.slice)), (12, none), (60, none), (61, none), (62, none), (63, none), (64, none), (65, none), (66, none), (67, none), (68, none), (69, none), (70, none), (71, none), (72, none), (73, none), (74, none), (75, none), (76, none)] (.lp [(11, some (.slice)), (12, some (.int .i64)), (60, none), (61, none), (62, none), (63, none), (64, none), (65, none), (66, none), (67, none), (68, none), (69, none), (70, none), (71, none), (72, none), (73, none), (74, none), (75, none), (76, none)] (.at_ 16 5 (.c .nil .nil) (.k .nil))) (.at_ 19 3 (.at_ 19 10 (.at_ 19 16 (.at_ 19 21 .nil .nil) .nil) .nil) .nil))))) [(.slice tokensA tokensN tokensC), (.int .i64 n)] w R = coadjutorlaw23_PrefixChain.vc tokensA tokensN tokensC n w R := by kernel_rfl
theorem coadjutorlaw23_PrefixChain.calls (tokensA : Option Addr) (tokensN : Nat) (tokensC : Nat) (n : Int) {w : World} {R : Value → World → Prop} (h : coadjutorlaw23_PrefixChain.vc tokensA tokensN tokensC n w R) : Calls Try.prog 6 #[(.slice tokensA tokensN tokensC), (.int .i64 n)] w (Ret R) :=
  calls_V fit Try.func6 (.c .nil (.c .nil (.cut 3 [(4, none), (8, some (.int .i64)), (24, none), (25, none), (26, none), (27, none), (28, none), (29, none), (30, none), (31, none), (32, none), (33, none), (34, none), (35, none), (36, none), (37, none), (38, none), (39, none), (40, none), (41, none), (42, none), (43, none), (44, none), (45, none)] (.lp [(4, none), (8, some (.int .i64)), (24, none), (25, none), (26, none), (27, none), (28, none), (29, none), (30, none), (31, none), (32, none), (33, none), (34, none), (35, none), (36, none), (37, none), (38, none), (39, none), (40, none), (41, none), (42, none), (43, none), (44, none), (45, none)] (.at_ 8 6 (.c (.c .nil .nil) .nil) (.k .nil))) (.cut 3 [(11, some (.slice)), (12, none), (60, none), (61, none), (62, none), (63, none), (64, none), (65, none), (66, none), (67, none), (68, none), (69, none), (70, none), (71, none), (72, none), (73, none), (74, none), (75, none), (76, none)] (.lp [(11, some (.slice)), (12, some (.int .i64)), (60, none), (61, none), (62, none), (63, none), (64, none), (65, none), (66, none), (67, none), (68, none), (69, none), (70, none), (71, none), (72, none), (73, none), (74, none), (75, none), (76, none)] (.at_ 16 5 (.c .nil .nil) (.k .nil))) (.at_ 19 3 (.at_ 19 10 (.at_ 19 16 (.at_ 19 21 .nil .nil) .nil) .nil) .nil))))) (by rw [show (#[(.slice tokensA tokensN tokensC), (.int .i64 n)] : Array Value).toList = [(.slice tokensA tokensN tokensC), (.int .i64 n)] from rfl, coadjutorlaw23_PrefixChain.vc_eq]; exact h)
/-- function 8 -/
def coadjutorlaw23_PrefixFree.vc (actsA : Option Addr) (actsN : Nat) (actsC : Nat) (w : World) (R : Value → World → Prop) : Prop :=
  Calls Try.prog 33 #[] w (Ret fun v w1 => ∃ (x14 : Bool), v = (.bool x14) ∧
  ((!x14) = true →
  R (.bool false) w1) ∧
  ((!x14) = false →
  Calls Try.prog 34 #[(.int .i64 8)] w1 (Ret fun v_1 w2 => ∃ (x17_0 : Option Addr), ∃ (x17_1 : Option Addr), v_1 = (.tuple #[(.pointer x17_0), (.pointer x17_1)]) ∧
  Calls Try.prog 35 #[(.pointer x17_0)] w2 (Ret fun v_2 w3 => ∃ (x21 : Option Addr), v_2 = (.pointer x21) ∧
  ∃ J : World → Prop, (∃ vI : Int → Nat → World → Prop, (∃ vk_2 : Nat, vI 0 vk_2 w3) ∧
  ∀ (jk : Nat → Value) (i : Int), ∀ (vk : Nat) (w4 : World), vI i vk w4 →
  (decide (i < ((actsN : Nat) : Int)) = true →
  (decide (i < (40 : Int)) = true →
  ∃ J_1 : World → Prop, ((0 ≤ i ∧ i < ((actsN : Nat) : Int)) ∧ someV actsA fun p =>
  ∃ (x350 : Int), ∃ (x351 : Int), ∃ (x352 : Int), ∃ (x353A : Option Addr), ∃ (x353N : Nat), ∃ (x353C : Nat), (w4.cell? (p.add (i.toNat * 4)) = some (.int .i64 x350) ∧ w4.cell? ((p.add (i.toNat * 4)).add 1) = some (.int .i64 x351) ∧ w4.cell? ((p.add (i.toNat * 4)).add 2) = some (.int .i64 x352) ∧ w4.cell? ((p.add (i.toNat * 4)).add 3) = some (.slice x353A x353N x353C)) ∧
  ∀ w5 : World, w5 = w4.alloc (.cells #[(.int .i64 0), (.int .i64 0), (.int .i64 0), (.slice none 0 0)] 78 (0, 0)) →
  (((∃ u, w5.cell? (⟨w4.heap.size, 0, none⟩ : Addr) = some u) ∧ w5.frozen? (⟨w4.heap.size, 0, none⟩ : Addr) = false) ∧ ((∃ u, w5.cell? (⟨w4.heap.size, 1, none⟩ : Addr) = some u) ∧ w5.frozen? (⟨w4.heap.size, 1, none⟩ : Addr) = false) ∧ ((∃ u, w5.cell? (⟨w4.heap.size, 2, none⟩ : Addr) = some u) ∧ w5.frozen? (⟨w4.heap.size, 2, none⟩ : Addr) = false) ∧ ((∃ u, w5.cell? (⟨w4.heap.size, 3, none⟩ : Addr) = some u) ∧ w5.frozen? (⟨w4.heap.size, 3, none⟩ : Addr) = false)) ∧ ∀ w6 : World, w6 = ((((w5.setCell (⟨w4.heap.size, 0, none⟩ : Addr) (.int .i64 x350)).setCell (⟨w4.heap.size, 1, none⟩ : Addr) (.int .i64 x351)).setCell (⟨w4.heap.size, 2, none⟩ : Addr) (.int .i64 x352)).setCell (⟨w4.heap.size, 3, none⟩ : Addr) (.slice x353A x353N x353C)) →
  ∃ (x37A : Option Addr), ∃ (x37N : Nat), ∃ (x37C : Nat), w6.cell? (⟨w4.heap.size, 3, none⟩ : Addr) = some (.slice x37A x37N x37C) ∧
  (decide (((x37N : Nat) : Int) > (40 : Int)) = true →
  R (.bool true) w6) ∧
  (decide (((x37N : Nat) : Int) > (40 : Int)) = false →
  ∃ (x41 : Int), w6.cell? (⟨w4.heap.size, 0, none⟩ : Addr) = some (.int .i64 x41) ∧
  ((x41 == (4 : Int)) = true →
  ∃ (x50 : Int), w6.cell? (⟨w4.heap.size, 2, none⟩ : Addr) = some (.int .i64 x50) ∧
  ∃ (x52A : Option Addr), ∃ (x52N : Nat), ∃ (x52C : Nat), w6.cell? (⟨w4.heap.size, 3, none⟩ : Addr) = some (.slice x52A x52N x52C) ∧
  Calls Try.prog 37 #[(.pointer x21), (.int .i64 x50), (.slice x52A x52N x52C)] w6 (Ret fun v_3 w7 => ∃ (x53A : Option Addr), ∃ (x53N : Nat), ∃ (x53C : Nat), v_3 = (.slice x53A x53N x53C) ∧
  ∃ J_2 : World → Prop, (∃ vS : World → Prop, ∀ w8 : World, w8 = w7.drew → vS w8 ∧
  (decide (((x53N : Nat) : Int) > (0 : Int)) = true →
  ∃ (x60 : Int), (∀ w9, vS w9 → w9.cell? (⟨w4.heap.size, 2, none⟩ : Addr) = some (.int .i64 x60)) ∧
  ∃ (x62A : Option Addr), ∃ (x62N : Nat), ∃ (x62C : Nat), (∀ w10, vS w10 → w10.cell? (⟨w4.heap.size, 3, none⟩ : Addr) = some (.slice x62A x62N x62C)) ∧
  (0 ≤ (IntKind.i64.wrap (4 * ((x53N : Nat) : Int))) ∧ (IntKind.i64.wrap (4 * ((x53N : Nat) : Int))) ≤ ((x62C : Nat) : Int)) ∧
  Calls Try.prog 46 #[(.pointer x21), (.int .i64 x60), (.slice (if x62C = 0 then x62A else x62A.map (·.add (0 * 1))) ((IntKind.i64.wrap (4 * ((x53N : Nat) : Int))).toNat - 0) (x62C - 0))] w8 (Ret fun v_4 w11 => ∃ (x67 : Bool), v_4 = (.bool x67) ∧
  vS w11 ∧
  ((!x67) = true →
  R (.bool false) w11) ∧
  ((!x67) = false →
  ∃ (x75A : Option Addr), ∃ (x75N : Nat), ∃ (x75C : Nat), w11.cell? (⟨w4.heap.size, 3, none⟩ : Addr) = some (.slice x75A x75N x75C) ∧
  vS w11 ∧
  (decide ((IntKind.i64.wrap (4 * ((x53N : Nat) : Int))) ≥ (if (1 : Int) > ((x75N : Nat) : Int) then (1 : Int) else ((x75N : Nat) : Int))) = true →
  R (.bool false) w11) ∧
  (decide ((IntKind.i64.wrap (4 * ((x53N : Nat) : Int))) ≥ (if (1 : Int) > ((x75N : Nat) : Int) then (1 : Int) else ((x75N : Nat) : Int))) = false →
  J_2 w11)))) ∧
  (decide (((x53N : Nat) : Int) > (0 : Int)) = false →
  ∃ (x75A_1 : Option Addr), ∃ (x75N_1 : Nat), ∃ (x75C_1 : Nat), w8.cell? (⟨w4.heap.size, 3, none⟩ : Addr) = some (.slice x75A_1 x75N_1 x75C_1) ∧
  vS w8 ∧
  (decide ((IntKind.i64.wrap (4 * ((x53N : Nat) : Int))) ≥ (if (1 : Int) > ((x75N_1 : Nat) : Int) then (1 : Int) else ((x75N_1 : Nat) : Int))) = true →
  R (.bool false) w8) ∧
  (decide ((IntKind.i64.wrap (4 * ((x53N : Nat) : Int))) ≥ (if (1 : Int) > ((x75N_1 : Nat) : Int) then (1 : Int) else ((x75N_1 : Nat) : Int))) = false →
  J_2 w8))) ∧
  ∀ (jk : Nat → Value), ∀ w12 : World, J_2 w12 →
  ∃ vI_1 : Int → Nat → World → Prop, (∃ vk_5 : Nat, vI_1 0 vk_5 w12) ∧
  ∀ (jk : Nat → Value) (vk_6 : Int), ∀ (vk_3 : Nat) (w13 : World), vI_1 vk_6 vk_3 w13 →
  (decide (vk_6 < ((x53N : Nat) : Int)) = true →
  ∃ vS_1 : World → Prop, ∀ w14 : World, w14 = w13.drew → vS_1 w14 ∧
  (0 ≤ vk_6 ∧ vk_6 < ((x53N : Nat) : Int)) ∧ someV x53A fun p_1 =>
  ∃ (x90 : Int), (∀ w15, vS_1 w15 → w15.cell? (p_1.add (vk_6.toNat * 1)) = some (.int .i64 x90)) ∧
  ∃ (x93 : Int), (∀ w16, vS_1 w16 → w16.cell? (⟨w4.heap.size, 2, none⟩ : Addr) = some (.int .i64 x93)) ∧
  Calls Try.prog 29 #[(.pointer x17_0), (.int .i64 x90)] w14 (Ret fun v_5 w17 => ∃ (x91 : Int), v_5 = (.int .i64 x91) ∧
  vS_1 w17 ∧
  ((x91 != x93) = true →
  R (.bool false) w17) ∧
  ((x91 != x93) = false →
  ∃ vk_4 : Nat, vk_4 < vk_3 ∧ vI_1 (IntKind.i64.wrap (vk_6 + 1)) vk_4 w17))) ∧
  (decide (vk_6 < ((x53N : Nat) : Int)) = false →
  Calls Try.prog 14 #[(.pointer x17_0), (.slice x53A x53N x53C)] w13 (Ret fun v_6 w18 => ∃ (x97 : Int), v_6 = (.int .i64 x97) ∧
  ((x97 != (0 : Int)) = true →
  R (.bool false) w18) ∧
  ((x97 != (0 : Int)) = false →
  J_1 w18))))) ∧
  ((x41 == (4 : Int)) = false →
  ∃ (x45 : Int), w6.cell? (⟨w4.heap.size, 0, none⟩ : Addr) = some (.int .i64 x45) ∧
  ((x45 == (5 : Int)) = true →
  ∃ (x50_1 : Int), w6.cell? (⟨w4.heap.size, 2, none⟩ : Addr) = some (.int .i64 x50_1) ∧
  ∃ (x52A_1 : Option Addr), ∃ (x52N_1 : Nat), ∃ (x52C_1 : Nat), w6.cell? (⟨w4.heap.size, 3, none⟩ : Addr) = some (.slice x52A_1 x52N_1 x52C_1) ∧
  Calls Try.prog 37 #[(.pointer x21), (.int .i64 x50_1), (.slice x52A_1 x52N_1 x52C_1)] w6 (Ret fun v_7 w19 => ∃ (x53A_1 : Option Addr), ∃ (x53N_1 : Nat), ∃ (x53C_1 : Nat), v_7 = (.slice x53A_1 x53N_1 x53C_1) ∧
  ∃ J_3 : World → Prop, (∃ vS_2 : World → Prop, ∀ w20 : World, w20 = w19.drew → vS_2 w20 ∧
  (decide (((x53N_1 : Nat) : Int) > (0 : Int)) = true →
  ∃ (x60_1 : Int), (∀ w21, vS_2 w21 → w21.cell? (⟨w4.heap.size, 2, none⟩ : Addr) = some (.int .i64 x60_1)) ∧
  ∃ (x62A_1 : Option Addr), ∃ (x62N_1 : Nat), ∃ (x62C_1 : Nat), (∀ w22, vS_2 w22 → w22.cell? (⟨w4.heap.size, 3, none⟩ : Addr) = some (.slice x62A_1 x62N_1 x62C_1)) ∧
  (0 ≤ (IntKind.i64.wrap (4 * ((x53N_1 : Nat) : Int))) ∧ (IntKind.i64.wrap (4 * ((x53N_1 : Nat) : Int))) ≤ ((x62C_1 : Nat) : Int)) ∧
  Calls Try.prog 46 #[(.pointer x21), (.int .i64 x60_1), (.slice (if x62C_1 = 0 then x62A_1 else x62A_1.map (·.add (0 * 1))) ((IntKind.i64.wrap (4 * ((x53N_1 : Nat) : Int))).toNat - 0) (x62C_1 - 0))] w20 (Ret fun v_8 w23 => ∃ (x67_1 : Bool), v_8 = (.bool x67_1) ∧
  vS_2 w23 ∧
  ((!x67_1) = true →
  R (.bool false) w23) ∧
  ((!x67_1) = false →
  ∃ (x75A_2 : Option Addr), ∃ (x75N_2 : Nat), ∃ (x75C_2 : Nat), w23.cell? (⟨w4.heap.size, 3, none⟩ : Addr) = some (.slice x75A_2 x75N_2 x75C_2) ∧
  vS_2 w23 ∧
  (decide ((IntKind.i64.wrap (4 * ((x53N_1 : Nat) : Int))) ≥ (if (1 : Int) > ((x75N_2 : Nat) : Int) then (1 : Int) else ((x75N_2 : Nat) : Int))) = true →
  R (.bool false) w23) ∧
  (decide ((IntKind.i64.wrap (4 * ((x53N_1 : Nat) : Int))) ≥ (if (1 : Int) > ((x75N_2 : Nat) : Int) then (1 : Int) else ((x75N_2 : Nat) : Int))) = false →
  J_3 w23)))) ∧
  (decide (((x53N_1 : Nat) : Int) > (0 : Int)) = false →
  ∃ (x75A_3 : Option Addr), ∃ (x75N_3 : Nat), ∃ (x75C_3 : Nat), w20.cell? (⟨w4.heap.size, 3, none⟩ : Addr) = some (.slice x75A_3 x75N_3 x75C_3) ∧
  vS_2 w20 ∧
  (decide ((IntKind.i64.wrap (4 * ((x53N_1 : Nat) : Int))) ≥ (if (1 : Int) > ((x75N_3 : Nat) : Int) then (1 : Int) else ((x75N_3 : Nat) : Int))) = true →
  R (.bool false) w20) ∧
  (decide ((IntKind.i64.wrap (4 * ((x53N_1 : Nat) : Int))) ≥ (if (1 : Int) > ((x75N_3 : Nat) : Int) then (1 : Int) else ((x75N_3 : Nat) : Int))) = false →
  J_3 w20))) ∧
  ∀ (jk : Nat → Value), ∀ w24 : World, J_3 w24 →
  ∃ vI_2 : Int → Nat → World → Prop, (∃ vk_9 : Nat, vI_2 0 vk_9 w24) ∧
  ∀ (jk : Nat → Value) (vk_10 : Int), ∀ (vk_7 : Nat) (w25 : World), vI_2 vk_10 vk_7 w25 →
  (decide (vk_10 < ((x53N_1 : Nat) : Int)) = true →
  ∃ vS_3 : World → Prop, ∀ w26 : World, w26 = w25.drew → vS_3 w26 ∧
  (0 ≤ vk_10 ∧ vk_10 < ((x53N_1 : Nat) : Int)) ∧ someV x53A_1 fun p_2 =>
  ∃ (x90_1 : Int), (∀ w27, vS_3 w27 → w27.cell? (p_2.add (vk_10.toNat * 1)) = some (.int .i64 x90_1)) ∧
  ∃ (x93_1 : Int), (∀ w28, vS_3 w28 → w28.cell? (⟨w4.heap.size, 2, none⟩ : Addr) = some (.int .i64 x93_1)) ∧
  Calls Try.prog 29 #[(.pointer x17_0), (.int .i64 x90_1)] w26 (Ret fun v_9 w29 => ∃ (x91_1 : Int), v_9 = (.int .i64 x91_1) ∧
  vS_3 w29 ∧
  ((x91_1 != x93_1) = true →
  R (.bool false) w29) ∧
  ((x91_1 != x93_1) = false →
  ∃ vk_8 : Nat, vk_8 < vk_7 ∧ vI_2 (IntKind.i64.wrap (vk_10 + 1)) vk_8 w29))) ∧
  (decide (vk_10 < ((x53N_1 : Nat) : Int)) = false →
  Calls Try.prog 14 #[(.pointer x17_0), (.slice x53A_1 x53N_1 x53C_1)] w25 (Ret fun v_10 w30 => ∃ (x97_1 : Int), v_10 = (.int .i64 x97_1) ∧
  ((x97_1 != (0 : Int)) = true →
  R (.bool false) w30) ∧
  ((x97_1 != (0 : Int)) = false →
  J_1 w30))))) ∧
  ((x45 == (5 : Int)) = false →
  Calls Try.prog 39 #[(.pointer x21)] w6 (Ret fun v_11 w31 => ∃ (x100 : Int), v_11 = (.int .i64 x100) ∧
  ∃ (x103 : Int), w31.cell? (⟨w4.heap.size, 1, none⟩ : Addr) = some (.int .i64 x103) ∧
  ∃ (x105 : Int), w31.cell? (⟨w4.heap.size, 2, none⟩ : Addr) = some (.int .i64 x105) ∧
  ∃ (x107A : Option Addr), ∃ (x107N : Nat), ∃ (x107C : Nat), w31.cell? (⟨w4.heap.size, 3, none⟩ : Addr) = some (.slice x107A x107N x107C) ∧
  Calls Try.prog 36 #[(.pointer x21), (.int .i64 x103), (.int .i64 x105), (.slice x107A x107N x107C)] w31 (Ret fun v_12 w32 => ∃ (x108 : Int), v_12 = (.int .i64 x108) ∧
  ((x108 == (0 : Int)) = true →
  Calls Try.prog 39 #[(.pointer x21)] w32 (Ret fun v_13 w33 => ∃ (x112 : Int), v_13 = (.int .i64 x112) ∧
  ((x112 != (IntKind.i64.wrap (x100 + 1))) = true →
  R (.bool false) w33) ∧
  ((x112 != (IntKind.i64.wrap (x100 + 1))) = false →
  ∃ (x119 : Int), w33.cell? (⟨w4.heap.size, 2, none⟩ : Addr) = some (.int .i64 x119) ∧
  ∃ (x121A : Option Addr), ∃ (x121N : Nat), ∃ (x121C : Nat), w33.cell? (⟨w4.heap.size, 3, none⟩ : Addr) = some (.slice x121A x121N x121C) ∧
  Calls Try.prog 46 #[(.pointer x21), (.int .i64 x119), (.slice x121A x121N x121C)] w33 (Ret fun v_14 w34 => ∃ (x122 : Bool), v_14 = (.bool x122) ∧
  ((!x122) = true →
  R (.bool false) w34) ∧
  ((!x122) = false →
  J_1 w34))))) ∧
  ((x108 == (0 : Int)) = false →
  J_1 w32))))))) ∧
  ∀ (jk : Nat → Value), ∀ w35 : World, J_1 w35 →
  ∃ vk_1 : Nat, vk_1 < vk ∧ vI (IntKind.i64.wrap (i + 1)) vk_1 w35) ∧
  (decide (i < (40 : Int)) = false →
  J w4)) ∧
  (decide (i < ((actsN : Nat) : Int)) = false →
  J w4)) ∧
  ∀ (jk : Nat → Value), ∀ w36 : World, J w36 →
  ∃ vI_3 : Int → Nat → World → Prop, (∃ vk_13 : Nat, vI_3 0 vk_13 w36) ∧
  ∀ (jk : Nat → Value) (id : Int), ∀ (vk_11 : Nat) (w37 : World), vI_3 id vk_11 w37 →
  (decide (id < (8 : Int)) = true →
  ∀ w38 : World, w38 = w37.alloc (.cells #[(.int .i64 id)] 3 (0, 0)) →
  Calls Try.prog 14 #[(.pointer x17_0), (.slice (some (⟨w37.heap.size, 0, none⟩ : Addr)) 1 1)] w38 (Ret fun v_15 w39 => ∃ (x133 : Int), v_15 = (.int .i64 x133) ∧
  ((x133 != (0 : Int)) = true →
  R (.bool false) w39) ∧
  ((x133 != (0 : Int)) = false →
  ∃ vk_12 : Nat, vk_12 < vk_11 ∧ vI_3 (IntKind.i64.wrap (id + 1)) vk_12 w39))) ∧
  (decide (id < (8 : Int)) = false →
  Calls Try.prog 39 #[(.pointer x21)] w37 (Ret fun v_16 w40 => ∃ (x136 : Int), v_16 = (.int .i64 x136) ∧
  ∃ vI_4 : Int → Nat → World → Prop, (∃ vk_16 : Nat, vI_4 x136 vk_16 w40) ∧
  ∀ (jk : Nat → Value) (n : Int), ∀ (vk_14 : Nat) (w41 : World), vI_4 n vk_14 w41 →
  Calls Try.prog 42 #[(.pointer x21)] w41 (Ret fun v_17 w42 => ∃ (x138 : Bool), v_17 = (.bool x138) ∧
  (x138 = true →
  ∃ vk_15 : Nat, vk_15 < vk_14 ∧ vI_4 (IntKind.i64.wrap (n - 1)) vk_15 w42) ∧
  (x138 = false →
  Calls Try.prog 39 #[(.pointer x21)] w42 (Ret fun v_18 w43 => ∃ (x142 : Int), v_18 = (.int .i64 x142) ∧
  ((n != x142) = true →
  R (.bool false) w43) ∧
  ((n != x142) = false →
  Calls Try.prog 40 #[(.pointer x21), (.int .i64 1)] w43 (Ret fun v_19 w44 => ∃ (x147 : Int), v_19 = (.int .i64 x147) ∧
  Calls Try.prog 40 #[(.pointer x21), (.int .i64 2)] w44 (Ret fun v_20 w45 => ∃ (x149 : Int), v_20 = (.int .i64 x149) ∧
  (((IntKind.i64.wrap (x147 + x149)) == x142) = true →
  Calls Try.prog 39 #[(.pointer x21)] w45 (Ret fun v_21 w46 => ∃ (x155 : Int), v_21 = (.int .i64 x155) ∧
  ((x155 == (0 : Int)) = true →
  Calls Try.prog 19 #[(.pointer x17_0)] w46 (Ret fun v_22 w47 => ∃ (x160 : Int), v_22 = (.int .i64 x160) ∧
  R (.bool (x160 == (8 : Int))) w47)) ∧
  ((x155 == (0 : Int)) = false →
  R (.bool false) w46))) ∧
  (((IntKind.i64.wrap (x147 + x149)) == x142) = false →
  R (.bool false) w45)))))))))))))
theorem coadjutorlaw23_PrefixFree.vc_eq (actsA : Option Addr) (actsN : Nat) (actsC : Nat) (w : World) (R : Value → World → Prop) : fnV Try.prog Try.f8 (.c .nil (.cut 2 [(2, none), (6, none), (7, none), (8, none), (9, none), (10, none), (22, none), (23, none), (24, none), (25, none), (26, none), (27, none), (28, none), (29, none), (30, none), (31, none), (32, none), (33, none), (34, none), (35, none), (36, none), (37, none), (38, none), (39, none), (40, none), (41, none), (42, none), (43, none), (44, none), (45, none), (46, none), (47, none), (48, none), (49, none), (50, none), (51, none), (52, none), (53, none), (54, none), (55, none), (56, none), (57, none), (58, none), (59, none), (60, none), (61, none), (62, none), (63, none), (64, none), (65, none), (66, none), (67, none), (68, none), (69, none), (70, none), (71, none), (72, none), (73, none), (74, none), (75, none), (76, none), (77, none), (78, none), (79, none), (80, none), (81, none), (82, none), (83, none), (84, none), (85, none), (86, none), (87, none), (88, none), (89, none), (90, none), (91, none), (92, none), (93, none), (94, none), (95, none), (96, none), (97, none), (98, none), (99, none), (100, none), (101, none), (102, none), (103, none), (104, none), (105, none), (106, none), (107, none), (108, none), (109, none), (110, none), (111, none), (112, none), (113, none), (114, none), (115, none), (116, none), (117, none), (118, none), (119, none), (120, none), (121, none), (122, none), (123, none), (124, none), (125, none)] (.lp [(2, none), (6, some (.int .i64)), (7, none), (8, none), (9, none), (10, none), (22, none), (23, none), (24, none), (25, none), (26, none), (27, none), (28, none), (29, none), (30, none), (31, none), (32, none), (33, none), (34, none), (35, none), (36, none), (37, none), (38, none), (39, none), (40, none), (41, none), (42, none), (43, none), (44, none), (45, none), (46, none), (47, none), (48, none), (49, none), (50, none), (51, none), (52, none), (53, none), (54, none), (55, none), (56, none), (57, none), (58, none), (59, none), (60, none), (61, none), (62, none), (63, none), (64, none), (65, none), (66, none), (67, none), (68, none), (69, none), (70, none), (71, none), (72, none), (73, none), (74, none), (75, none), (76, none), (77, none), (78, none), (79, none), (80, none), (81, none), (82, none), (83, none), (84, none), (85, none), (86, none), (87, none), (88, none), (89, none), (90, none), (91, none), (92, none), (93, none), (94, none), (95, none), (96, none), (97, none), (98, none), (99, none), (100, none), (101, none), (102, none), (103, none), (104, none), (105, none), (106, none), (107, none), (108, none), (109, none), (110, none), (111, none), (112, none), (113, none), (114, none), (115, none), (116, none), (117, none), (118, none), (119, none), (120, none), (121, none), (122, none), (123, none), (124, none), (125, none)] (.at_ 6 4 (.c (.cut 0 [(2, none), (7, none), (8, none), (9, none), (10, none), (32, none), (33, none), (34, none), (35, none), (36, none), (37, none), (38, none), (39, none), (40, none), (41, none), (42, none), (43, none), (44, none), (45, none), (46, none), (47, none), (48, none), (49, none), (50, none), (51, none), (52, none), (53, none), (54, none), (55, none), (56, none), (57, none), (58, none), (59, none), (60, none), (61, none), (62, none), (63, none), (64, none), (65, none), (66, none), (67, none), (68, none), (69, none), (70, none), (71, none), (72, none), (73, none), (74, none), (75, none), (76, none), (77, none), (78, none), (79, none), (80, none), (81, none), (82, none), (83, none), (84, none), (85, none), (86, none), (87, none), (88, none), (89, none), (90, none), (91, none), (92, none), (93, none), (94, none), (95, none), (96, none), (97, none), (98, none), (99, none), (100, none), (101, none), (102, none), (103, none), (104, none), (105, none), (106, none), (107, none), (108, none), (109, none), (110, none), (111, none), (112, none), (113, none), (114, none), (115, none), (116, none), (117, none), (118, none), (119, none), (120, none), (121, none), (122, none), (123, none), (124, none), (125, none)] (.c .nil (.at_ 11 3 (.k (.cut 1 [(2, none), (54, none), (55, none), (56, none), (57, none), (58, none), (59, none), (60, none), (61, none), (62, none), (63, none), (64, none), (65, none), (66, none), (67, none), (68, none), (69, none), (70, none), (71, none), (72, none), (73, none), (74, none), (75, none), (76, none), (77, none), (78, none), (79, none)] (.tk 0 (.tk 1 (.tk 2 (.tks 3 (.tk 4 (.tk 5 (.tk 6 (.tk 7 (.tk 8 (.tk 9 (.tk 10 (.tk 11 (.tk 12 (.alt 13 (.tk 14 (.tk 15 (.tks 16 (.tk 17 (.tk 18 (.tk 19 (.tk 20 (.tk 21 (.tk 22 (.tk 23 (.tk 24 (.tk 25 (.fin (.k .nil))))))))))) (.tk 17 (.tk 18 (.tk 19 (.tk 20 (.alt 21 (.tk 22 (.tk 23 (.tk 24 (.tk 25 (.fin (.c .nil .nil)))))) .nil)))))))) .nil)))))))))) (.tk 4 (.tk 5 (.tk 6 (.tk 7 (.tk 8 (.tk 9 (.tk 10 (.tk 11 (.tk 12 (.tk 13 (.tk 14 (.tk 15 (.tk 16 (.tk 17 (.tk 18 (.tk 19 (.tk 20 (.alt 21 (.tk 22 (.tk 23 (.tk 24 (.tk 25 (.fin (.c .nil .nil)))))) .nil)))))))))))))))))))))) (.lp [(2, none), (9, some (.int .i64)), (80, none), (81, none), (82, none), (83, none), (84, none), (85, none), (86, none), (87, none), (88, none), (89, none), (90, none), (91, none), (92, none), (93, none), (94, none)] (.c (.tk 0 (.tk 1 (.tk 2 (.tk 3 (.tk 4 (.tk 6 (.tk 7 (.alt 5 (.tk 8 (.fin (.c .nil .nil))) .nil)))))))) (.c .nil .nil))))) (.c (.cut 1 [(2, none), (54, none), (55, none), (56, none), (57, none), (58, none), (59, none), (60, none), (61, none), (62, none), (63, none), (64, none), (65, none), (66, none), (67, none), (68, none), (69, none), (70, none), (71, none), (72, none), (73, none), (74, none), (75, none), (76, none), (77, none), (78, none), (79, none)] (.tk 0 (.tk 1 (.tk 2 (.tks 3 (.tk 4 (.tk 5 (.tk 6 (.tk 7 (.tk 8 (.tk 9 (.tk 10 (.tk 11 (.tk 12 (.alt 13 (.tk 14 (.tk 15 (.tks 16 (.tk 17 (.tk 18 (.tk 19 (.tk 20 (.tk 21 (.tk 22 (.tk 23 (.tk 24 (.tk 25 (.fin (.k .nil))))))))))) (.tk 17 (.tk 18 (.tk 19 (.tk 20 (.alt 21 (.tk 22 (.tk 23 (.tk 24 (.tk 25 (.fin (.c .nil .nil)))))) .nil)))))))) .nil)))))))))) (.tk 4 (.tk 5 (.tk 6 (.tk 7 (.tk 8 (.tk 9 (.tk 10 (.tk 11 (.tk 12 (.tk 13 (.tk 14 (.tk 15 (.tk 16 (.tk 17 (.tk 18 (.tk 19 (.tk 20 (.alt 21 (.tk 22 (.tk 23 (.tk 24 (.tk 25 (.fin (.c .nil .nil)))))) .nil)))))))))))))))))))))) (.lp [(2, none), (9, some (.int .i64)), (80, none), (81, none), (82, none), (83, none), (84, none), (85, none), (86, none), (87, none), (88, none), (89, none), (90, none), (91, none), (92, none), (93, none), (94, none)] (.c (.tk 0 (.tk 1 (.tk 2 (.tk 3 (.tk 4 (.tk 6 (.tk 7 (.alt 5 (.tk 8 (.fin (.c .nil .nil))) .nil)))))))) (.c .nil .nil)))) (.at_ 23 9 (.at_ 23 15 (.k .nil) (.c .nil .nil)) (.k .nil))))) .nil) .nil) (.k .nil))) (.lp [(2, none), (11, some (.int .i64)), (126, none), (127, none), (128, none), (129, none), (130, none), (131, none), (132, none), (133, none), (134, none)] (.c (.c .nil .nil) (.lp [(12, some (.int .i64)), (137, none), (138, none), (139, none), (140, none)] (.c .nil (.c .nil (.at_ 36 7 (.at_ 36 12 .nil .nil) .nil)))))))) [(.slice actsA actsN actsC)] w R = coadjutorlaw23_PrefixFree.vc actsA actsN actsC w R := by kernel_rfl
theorem coadjutorlaw23_PrefixFree.calls (actsA : Option Addr) (actsN : Nat) (actsC : Nat) {w : World} {R : Value → World → Prop} (h : coadjutorlaw23_PrefixFree.vc actsA actsN actsC w R) : Calls Try.prog 8 #[(.slice actsA actsN actsC)] w (Ret R) :=
  calls_V fit Try.func8 (.c .nil (.cut 2 [(2, none), (6, none), (7, none), (8, none), (9, none), (10, none), (22, none), (23, none), (24, none), (25, none), (26, none), (27, none), (28, none), (29, none), (30, none), (31, none), (32, none), (33, none), (34, none), (35, none), (36, none), (37, none), (38, none), (39, none), (40, none), (41, none), (42, none), (43, none), (44, none), (45, none), (46, none), (47, none), (48, none), (49, none), (50, none), (51, none), (52, none), (53, none), (54, none), (55, none), (56, none), (57, none), (58, none), (59, none), (60, none), (61, none), (62, none), (63, none), (64, none), (65, none), (66, none), (67, none), (68, none), (69, none), (70, none), (71, none), (72, none), (73, none), (74, none), (75, none), (76, none), (77, none), (78, none), (79, none), (80, none), (81, none), (82, none), (83, none), (84, none), (85, none), (86, none), (87, none), (88, none), (89, none), (90, none), (91, none), (92, none), (93, none), (94, none), (95, none), (96, none), (97, none), (98, none), (99, none), (100, none), (101, none), (102, none), (103, none), (104, none), (105, none), (106, none), (107, none), (108, none), (109, none), (110, none), (111, none), (112, none), (113, none), (114, none), (115, none), (116, none), (117, none), (118, none), (119, none), (120, none), (121, none), (122, none), (123, none), (124, none), (125, none)] (.lp [(2, none), (6, some (.int .i64)), (7, none), (8, none), (9, none), (10, none), (22, none), (23, none), (24, none), (25, none), (26, none), (27, none), (28, none), (29, none), (30, none), (31, none), (32, none), (33, none), (34, none), (35, none), (36, none), (37, none), (38, none), (39, none), (40, none), (41, none), (42, none), (43, none), (44, none), (45, none), (46, none), (47, none), (48, none), (49, none), (50, none), (51, none), (52, none), (53, none), (54, none), (55, none), (56, none), (57, none), (58, none), (59, none), (60, none), (61, none), (62, none), (63, none), (64, none), (65, none), (66, none), (67, none), (68, none), (69, none), (70, none), (71, none), (72, none), (73, none), (74, none), (75, none), (76, none), (77, none), (78, none), (79, none), (80, none), (81, none), (82, none), (83, none), (84, none), (85, none), (86, none), (87, none), (88, none), (89, none), (90, none), (91, none), (92, none), (93, none), (94, none), (95, none), (96, none), (97, none), (98, none), (99, none), (100, none), (101, none), (102, none), (103, none), (104, none), (105, none), (106, none), (107, none), (108, none), (109, none), (110, none), (111, none), (112, none), (113, none), (114, none), (115, none), (116, none), (117, none), (118, none), (119, none), (120, none), (121, none), (122, none), (123, none), (124, none), (125, none)] (.at_ 6 4 (.c (.cut 0 [(2, none), (7, none), (8, none), (9, none), (10, none), (32, none), (33, none), (34, none), (35, none), (36, none), (37, none), (38, none), (39, none), (40, none), (41, none), (42, none), (43, none), (44, none), (45, none), (46, none), (47, none), (48, none), (49, none), (50, none), (51, none), (52, none), (53, none), (54, none), (55, none), (56, none), (57, none), (58, none), (59, none), (60, none), (61, none), (62, none), (63, none), (64, none), (65, none), (66, none), (67, none), (68, none), (69, none), (70, none), (71, none), (72, none), (73, none), (74, none), (75, none), (76, none), (77, none), (78, none), (79, none), (80, none), (81, none), (82, none), (83, none), (84, none), (85, none), (86, none), (87, none), (88, none), (89, none), (90, none), (91, none), (92, none), (93, none), (94, none), (95, none), (96, none), (97, none), (98, none), (99, none), (100, none), (101, none), (102, none), (103, none), (104, none), (105, none), (106, none), (107, none), (108, none), (109, none), (110, none), (111, none), (112, none), (113, none), (114, none), (115, none), (116, none), (117, none), (118, none), (119, none), (120, none), (121, none), (122, none), (123, none), (124, none), (125, none)] (.c .nil (.at_ 11 3 (.k (.cut 1 [(2, none), (54, none), (55, none), (56, none), (57, none), (58, none), (59, none), (60, none), (61, none), (62, none), (63, none), (64, none), (65, none), (66, none), (67, none), (68, none), (69, none), (70, none), (71, none), (72, none), (73, none), (74, none), (75, none), (76, none), (77, none), (78, none), (79, none)] (.tk 0 (.tk 1 (.tk 2 (.tks 3 (.tk 4 (.tk 5 (.tk 6 (.tk 7 (.tk 8 (.tk 9 (.tk 10 (.tk 11 (.tk 12 (.alt 13 (.tk 14 (.tk 15 (.tks 16 (.tk 17 (.tk 18 (.tk 19 (.tk 20 (.tk 21 (.tk 22 (.tk 23 (.tk 24 (.tk 25 (.fin (.k .nil))))))))))) (.tk 17 (.tk 18 (.tk 19 (.tk 20 (.alt 21 (.tk 22 (.tk 23 (.tk 24 (.tk 25 (.fin (.c .nil .nil)))))) .nil)))))))) .nil)))))))))) (.tk 4 (.tk 5 (.tk 6 (.tk 7 (.tk 8 (.tk 9 (.tk 10 (.tk 11 (.tk 12 (.tk 13 (.tk 14 (.tk 15 (.tk 16 (.tk 17 (.tk 18 (.tk 19 (.tk 20 (.alt 21 (.tk 22 (.tk 23 (.tk 24 (.tk 25 (.fin (.c .nil .nil)))))) .nil)))))))))))))))))))))) (.lp [(2, none), (9, some (.int .i64)), (80, none), (81, none), (82, none), (83, none), (84, none), (85, none), (86, none), (87, none), (88, none), (89, none), (90, none), (91, none), (92, none), (93, none), (94, none)] (.c (.tk 0 (.tk 1 (.tk 2 (.tk 3 (.tk 4 (.tk 6 (.tk 7 (.alt 5 (.tk 8 (.fin (.c .nil .nil))) .nil)))))))) (.c .nil .nil))))) (.c (.cut 1 [(2, none), (54, none), (55, none), (56, none), (57, none), (58, none), (59, none), (60, none), (61, none), (62, none), (63, none), (64, none), (65, none), (66, none), (67, none), (68, none), (69, none), (70, none), (71, none), (72, none), (73, none), (74, none), (75, none), (76, none), (77, none), (78, none), (79, none)] (.tk 0 (.tk 1 (.tk 2 (.tks 3 (.tk 4 (.tk 5 (.tk 6 (.tk 7 (.tk 8 (.tk 9 (.tk 10 (.tk 11 (.tk 12 (.alt 13 (.tk 14 (.tk 15 (.tks 16 (.tk 17 (.tk 18 (.tk 19 (.tk 20 (.tk 21 (.tk 22 (.tk 23 (.tk 24 (.tk 25 (.fin (.k .nil))))))))))) (.tk 17 (.tk 18 (.tk 19 (.tk 20 (.alt 21 (.tk 22 (.tk 23 (.tk 24 (.tk 25 (.fin (.c .nil .nil)))))) .nil)))))))) .nil)))))))))) (.tk 4 (.tk 5 (.tk 6 (.tk 7 (.tk 8 (.tk 9 (.tk 10 (.tk 11 (.tk 12 (.tk 13 (.tk 14 (.tk 15 (.tk 16 (.tk 17 (.tk 18 (.tk 19 (.tk 20 (.alt 21 (.tk 22 (.tk 23 (.tk 24 (.tk 25 (.fin (.c .nil .nil)))))) .nil)))))))))))))))))))))) (.lp [(2, none), (9, some (.int .i64)), (80, none), (81, none), (82, none), (83, none), (84, none), (85, none), (86, none), (87, none), (88, none), (89, none), (90, none), (91, none), (92, none), (93, none), (94, none)] (.c (.tk 0 (.tk 1 (.tk 2 (.tk 3 (.tk 4 (.tk 6 (.tk 7 (.alt 5 (.tk 8 (.fin (.c .nil .nil))) .nil)))))))) (.c .nil .nil)))) (.at_ 23 9 (.at_ 23 15 (.k .nil) (.c .nil .nil)) (.k .nil))))) .nil) .nil) (.k .nil))) (.lp [(2, none), (11, some (.int .i64)), (126, none), (127, none), (128, none), (129, none), (130, none), (131, none), (132, none), (133, none), (134, none)] (.c (.c .nil .nil) (.lp [(12, some (.int .i64)), (137, none), (138, none), (139, none), (140, none)] (.c .nil (.c .nil (.at_ 36 7 (.at_ 36 12 .nil .nil) .nil)))))))) (by rw [show (#[(.slice actsA actsN actsC)] : Array Value).toList = [(.slice actsA actsN actsC)] from rfl, coadjutorlaw23_PrefixFree.vc_eq]; exact h)
end Go.Proofs.Ytpcddfhfchempaa.Vc
