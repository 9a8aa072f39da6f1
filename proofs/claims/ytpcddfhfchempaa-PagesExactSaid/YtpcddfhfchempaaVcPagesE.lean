import Derived.Test.YtpcddfhfchempaaVc
import Derived.Test.YtpcddfhfchempaaH
import Derived.Test.YtpcddfhfchempaaProg
import Derived.KernelRfl
set_option linter.unusedVariables false
set_option maxRecDepth 100000
namespace Go.Proofs.Ytpcddfhfchempaa.Vc
open Go Go.Proofs Go.Proofs.Ytpcddfhfchempaa.V
/-- function 5 -/
def coadjutorlaw22_PagesExact.vc (n : Int) (actsA : Option Addr) (actsN : Nat) (actsC : Nat) (w : World) (R : Value → World → Prop) : Prop :=
  Calls Try.prog 11 #[] w (Ret fun v w1 => ∃ (x25 : Bool), v = (.bool x25) ∧
  ((!x25) = true →
  R (.bool false) w1) ∧
  ((!x25) = false →
  Calls Try.prog 12 #[(.int .i64 n)] w1 (Ret fun v_1 w2 => ∃ (x28 : Option Addr), v_1 = (.pointer x28) ∧
  (decide (n < (1 : Int)) = true →
  R (.bool x28.isNone) w2) ∧
  (decide (n < (1 : Int)) = false →
  (decide (n > (64 : Int)) = true →
  R (.bool x28.isNone) w2) ∧
  (decide (n > (64 : Int)) = false →
  Calls Try.prog 23 #[(.int .i64 n)] w2 (Ret fun v_2 w3 => ∃ (x38 : Option Addr), v_2 = (.pointer x38) ∧
  ∃ J : World → Prop, (∃ vI : Int → Nat → World → Prop, (∃ vk_2 : Nat, vI 0 vk_2 w3) ∧
  ∀ (jk : Nat → Value) (i : Int), ∀ (vk : Nat) (w4 : World), vI i vk w4 →
  (decide (i < ((actsN : Nat) : Int)) = true →
  (decide (i < (60 : Int)) = true →
  (0 ≤ i ∧ i < ((actsN : Nat) : Int)) ∧ someV actsA fun p =>
  ∃ (x520 : Int), ∃ (x521 : Int), ∃ (x522 : Int), ∃ (x523A : Option Addr), ∃ (x523N : Nat), ∃ (x523C : Nat), (w4.cell? (p.add (i.toNat * 4)) = some (.int .i64 x520) ∧ w4.cell? ((p.add (i.toNat * 4)).add 1) = some (.int .i64 x521) ∧ w4.cell? ((p.add (i.toNat * 4)).add 2) = some (.int .i64 x522) ∧ w4.cell? ((p.add (i.toNat * 4)).add 3) = some (.slice x523A x523N x523C)) ∧
  ∀ w5 : World, w5 = w4.alloc (.cells #[(.int .i64 0), (.int .i64 0), (.int .i64 0), (.slice none 0 0)] 29 (0, 0)) →
  (((∃ u, w5.cell? (⟨w4.heap.size, 0, none⟩ : Addr) = some u) ∧ w5.frozen? (⟨w4.heap.size, 0, none⟩ : Addr) = false) ∧ ((∃ u, w5.cell? (⟨w4.heap.size, 1, none⟩ : Addr) = some u) ∧ w5.frozen? (⟨w4.heap.size, 1, none⟩ : Addr) = false) ∧ ((∃ u, w5.cell? (⟨w4.heap.size, 2, none⟩ : Addr) = some u) ∧ w5.frozen? (⟨w4.heap.size, 2, none⟩ : Addr) = false) ∧ ((∃ u, w5.cell? (⟨w4.heap.size, 3, none⟩ : Addr) = some u) ∧ w5.frozen? (⟨w4.heap.size, 3, none⟩ : Addr) = false)) ∧ ∀ w6 : World, w6 = ((((w5.setCell (⟨w4.heap.size, 0, none⟩ : Addr) (.int .i64 x520)).setCell (⟨w4.heap.size, 1, none⟩ : Addr) (.int .i64 x521)).setCell (⟨w4.heap.size, 2, none⟩ : Addr) (.int .i64 x522)).setCell (⟨w4.heap.size, 3, none⟩ : Addr) (.slice x523A x523N x523C)) →
  ∃ (x54A : Option Addr), ∃ (x54N : Nat), ∃ (x54C : Nat), w6.cell? (⟨w4.heap.size, 3, none⟩ : Addr) = some (.slice x54A x54N x54C) ∧
  (decide (((x54N : Nat) : Int) > (10 : Int)) = true →
  R (.bool true) w6) ∧
  (decide (((x54N : Nat) : Int) > (10 : Int)) = false →
  ∃ J_1 : World → Prop, (∃ (x58 : Int), w6.cell? (⟨w4.heap.size, 0, none⟩ : Addr) = some (.int .i64 x58) ∧
  ((x58 == (3 : Int)) = true →
  ∃ vS : World → Prop, ∀ w7 : World, w7 = w6.drew → vS w7 ∧
  ∃ (x85A : Option Addr), ∃ (x85N : Nat), ∃ (x85C : Nat), (∀ w8, vS w8 → w8.cell? (⟨w4.heap.size, 3, none⟩ : Addr) = some (.slice x85A x85N x85C)) ∧
  ∃ (x89A : Option Addr), ∃ (x89N : Nat), ∃ (x89C : Nat), (∀ w9, vS w9 → w9.cell? (⟨w4.heap.size, 3, none⟩ : Addr) = some (.slice x89A x89N x89C)) ∧
  Calls Try.prog 13 #[(.pointer x28), (.slice x85A x85N x85C)] w7 (Ret fun v_3 w10 => ∃ (x86 : Int), v_3 = (.int .i64 x86) ∧
  vS w10 ∧
  Calls Try.prog 24 #[(.pointer x38), (.slice x89A x89N x89C), (.int .i64 1)] w10 (Ret fun v_4 w11 => ∃ (x90 : Int), v_4 = (.int .i64 x90) ∧
  vS w11 ∧
  ((x86 != x90) = true →
  R (.bool false) w11) ∧
  ((x86 != x90) = false →
  J_1 w11)))) ∧
  ((x58 == (3 : Int)) = false →
  ((x58 == (4 : Int)) = true →
  ∃ vS_1 : World → Prop, ∀ w12 : World, w12 = w6.drew → vS_1 w12 ∧
  ∃ (x96A : Option Addr), ∃ (x96N : Nat), ∃ (x96C : Nat), (∀ w13, vS_1 w13 → w13.cell? (⟨w4.heap.size, 3, none⟩ : Addr) = some (.slice x96A x96N x96C)) ∧
  ∃ (x100A : Option Addr), ∃ (x100N : Nat), ∃ (x100C : Nat), (∀ w14, vS_1 w14 → w14.cell? (⟨w4.heap.size, 3, none⟩ : Addr) = some (.slice x100A x100N x100C)) ∧
  Calls Try.prog 14 #[(.pointer x28), (.slice x96A x96N x96C)] w12 (Ret fun v_5 w15 => ∃ (x97 : Int), v_5 = (.int .i64 x97) ∧
  vS_1 w15 ∧
  Calls Try.prog 24 #[(.pointer x38), (.slice x100A x100N x100C), (.int .i64 (-1))] w15 (Ret fun v_6 w16 => ∃ (x101 : Int), v_6 = (.int .i64 x101) ∧
  vS_1 w16 ∧
  ((x97 != x101) = true →
  R (.bool false) w16) ∧
  ((x97 != x101) = false →
  J_1 w16)))) ∧
  ((x58 == (4 : Int)) = false →
  ((x58 == (5 : Int)) = true →
  ((x58 == (5 : Int)) = true →
  ∃ (x108 : Int), w6.cell? (⟨w4.heap.size, 2, none⟩ : Addr) = some (.int .i64 x108) ∧
  Calls Try.prog 16 #[(.int .i64 x108)] w6 (Ret fun v_7 w17 => ∃ (x1090A : Option Addr), ∃ (x1090N : Nat), ∃ (x1090C : Nat), ∃ (x1091A : Option Addr), ∃ (x1091N : Nat), ∃ (x1091C : Nat), v_7 = (.agg #[(.slice x1090A x1090N x1090C), (.slice x1091A x1091N x1091C)]) ∧
  ∀ w18 : World, w18 = w17.alloc (.cells #[(.slice none 0 0), (.slice none 0 0)] 35 (0, 0)) →
  (((∃ u, w18.cell? (⟨w17.heap.size, 0, none⟩ : Addr) = some u) ∧ w18.frozen? (⟨w17.heap.size, 0, none⟩ : Addr) = false) ∧ ((∃ u, w18.cell? (⟨w17.heap.size, 1, none⟩ : Addr) = some u) ∧ w18.frozen? (⟨w17.heap.size, 1, none⟩ : Addr) = false)) ∧ ∀ w19 : World, w19 = ((w18.setCell (⟨w17.heap.size, 0, none⟩ : Addr) (.slice x1090A x1090N x1090C)).setCell (⟨w17.heap.size, 1, none⟩ : Addr) (.slice x1091A x1091N x1091C)) →
  ∃ vS_2 : World → Prop, ∀ w20 : World, w20 = w19.drew → vS_2 w20 ∧
  ∃ (x112 : Int), (∀ w21, vS_2 w21 → w21.cell? (⟨w4.heap.size, 1, none⟩ : Addr) = some (.int .i64 x112)) ∧
  ∃ (x1130A : Option Addr), ∃ (x1130N : Nat), ∃ (x1130C : Nat), ∃ (x1131A : Option Addr), ∃ (x1131N : Nat), ∃ (x1131C : Nat), ((∀ w22, vS_2 w22 → w22.cell? (⟨w17.heap.size, 0, none⟩ : Addr) = some (.slice x1130A x1130N x1130C)) ∧ (∀ w22, vS_2 w22 → w22.cell? (⟨w17.heap.size, 1, none⟩ : Addr) = some (.slice x1131A x1131N x1131C))) ∧
  ∃ (x117 : Int), (∀ w23, vS_2 w23 → w23.cell? (⟨w4.heap.size, 1, none⟩ : Addr) = some (.int .i64 x117)) ∧
  ∃ (x119A : Option Addr), ∃ (x119N : Nat), ∃ (x119C : Nat), (∀ w24, vS_2 w24 → w24.cell? (⟨w17.heap.size, 0, none⟩ : Addr) = some (.slice x119A x119N x119C)) ∧
  ∃ (x121A : Option Addr), ∃ (x121N : Nat), ∃ (x121C : Nat), (∀ w25, vS_2 w25 → w25.cell? (⟨w17.heap.size, 1, none⟩ : Addr) = some (.slice x121A x121N x121C)) ∧
  Calls Try.prog 15 #[(.pointer x28), (.int .i64 x112), (.agg #[(.slice x1130A x1130N x1130C), (.slice x1131A x1131N x1131C)])] w20 (Ret fun v_8 w26 => ∃ (x114 : Int), v_8 = (.int .i64 x114) ∧
  vS_2 w26 ∧
  Calls Try.prog 25 #[(.pointer x38), (.int .i64 x117), (.agg #[(.slice x119A x119N x119C), (.slice x121A x121N x121C)])] w26 (Ret fun v_9 w27 => ∃ (x123 : Int), v_9 = (.int .i64 x123) ∧
  vS_2 w27 ∧
  ((x114 != x123) = true →
  R (.bool false) w27) ∧
  ((x114 != x123) = false →
  J_1 w27))))) ∧
  ((x58 == (5 : Int)) = false →
  ∃ (x62 : Int), w6.cell? (⟨w4.heap.size, 2, none⟩ : Addr) = some (.int .i64 x62) ∧
  Calls Try.prog 17 #[(.pointer x28), (.int .i64 x62)] w6 (Ret fun v_10 w28 => ∃ (x63_0 : Int), ∃ (x63_1 : Int), v_10 = (.tuple #[(.int .i64 x63_0), (.int .i64 x63_1)]) ∧
  ∃ (x69 : Int), w28.cell? (⟨w4.heap.size, 2, none⟩ : Addr) = some (.int .i64 x69) ∧
  Calls Try.prog 26 #[(.pointer x38), (.int .i64 x69)] w28 (Ret fun v_11 w29 => ∃ (x70_0 : Int), ∃ (x70_1 : Int), v_11 = (.tuple #[(.int .i64 x70_0), (.int .i64 x70_1)]) ∧
  ((x63_0 != x70_0) = true →
  R (.bool false) w29) ∧
  ((x63_0 != x70_0) = false →
  ((x63_1 != x70_1) = true →
  R (.bool false) w29) ∧
  ((x63_1 != x70_1) = false →
  J_1 w29)))))) ∧
  ((x58 == (5 : Int)) = false →
  ((x58 == (6 : Int)) = true →
  ((x58 == (6 : Int)) = true →
  ∃ (x108_1 : Int), w6.cell? (⟨w4.heap.size, 2, none⟩ : Addr) = some (.int .i64 x108_1) ∧
  Calls Try.prog 16 #[(.int .i64 x108_1)] w6 (Ret fun v_12 w30 => ∃ (x1090A_1 : Option Addr), ∃ (x1090N_1 : Nat), ∃ (x1090C_1 : Nat), ∃ (x1091A_1 : Option Addr), ∃ (x1091N_1 : Nat), ∃ (x1091C_1 : Nat), v_12 = (.agg #[(.slice x1090A_1 x1090N_1 x1090C_1), (.slice x1091A_1 x1091N_1 x1091C_1)]) ∧
  ∀ w31 : World, w31 = w30.alloc (.cells #[(.slice none 0 0), (.slice none 0 0)] 35 (0, 0)) →
  (((∃ u, w31.cell? (⟨w30.heap.size, 0, none⟩ : Addr) = some u) ∧ w31.frozen? (⟨w30.heap.size, 0, none⟩ : Addr) = false) ∧ ((∃ u, w31.cell? (⟨w30.heap.size, 1, none⟩ : Addr) = some u) ∧ w31.frozen? (⟨w30.heap.size, 1, none⟩ : Addr) = false)) ∧ ∀ w32 : World, w32 = ((w31.setCell (⟨w30.heap.size, 0, none⟩ : Addr) (.slice x1090A_1 x1090N_1 x1090C_1)).setCell (⟨w30.heap.size, 1, none⟩ : Addr) (.slice x1091A_1 x1091N_1 x1091C_1)) →
  ∃ vS_3 : World → Prop, ∀ w33 : World, w33 = w32.drew → vS_3 w33 ∧
  ∃ (x112_1 : Int), (∀ w34, vS_3 w34 → w34.cell? (⟨w4.heap.size, 1, none⟩ : Addr) = some (.int .i64 x112_1)) ∧
  ∃ (x1130A_1 : Option Addr), ∃ (x1130N_1 : Nat), ∃ (x1130C_1 : Nat), ∃ (x1131A_1 : Option Addr), ∃ (x1131N_1 : Nat), ∃ (x1131C_1 : Nat), ((∀ w35, vS_3 w35 → w35.cell? (⟨w30.heap.size, 0, none⟩ : Addr) = some (.slice x1130A_1 x1130N_1 x1130C_1)) ∧ (∀ w35, vS_3 w35 → w35.cell? (⟨w30.heap.size, 1, none⟩ : Addr) = some (.slice x1131A_1 x1131N_1 x1131C_1))) ∧
  ∃ (x117_1 : Int), (∀ w36, vS_3 w36 → w36.cell? (⟨w4.heap.size, 1, none⟩ : Addr) = some (.int .i64 x117_1)) ∧
  ∃ (x119A_1 : Option Addr), ∃ (x119N_1 : Nat), ∃ (x119C_1 : Nat), (∀ w37, vS_3 w37 → w37.cell? (⟨w30.heap.size, 0, none⟩ : Addr) = some (.slice x119A_1 x119N_1 x119C_1)) ∧
  ∃ (x121A_1 : Option Addr), ∃ (x121N_1 : Nat), ∃ (x121C_1 : Nat), (∀ w38, vS_3 w38 → w38.cell? (⟨w30.heap.size, 1, none⟩ : Addr) = some (.slice x121A_1 x121N_1 x121C_1)) ∧
  Calls Try.prog 15 #[(.pointer x28), (.int .i64 x112_1), (.agg #[(.slice x1130A_1 x1130N_1 x1130C_1), (.slice x1131A_1 x1131N_1 x1131C_1)])] w33 (Ret fun v_13 w39 => ∃ (x114_1 : Int), v_13 = (.int .i64 x114_1) ∧
  vS_3 w39 ∧
  Calls Try.prog 25 #[(.pointer x38), (.int .i64 x117_1), (.agg #[(.slice x119A_1 x119N_1 x119C_1), (.slice x121A_1 x121N_1 x121C_1)])] w39 (Ret fun v_14 w40 => ∃ (x123_1 : Int), v_14 = (.int .i64 x123_1) ∧
  vS_3 w40 ∧
  ((x114_1 != x123_1) = true →
  R (.bool false) w40) ∧
  ((x114_1 != x123_1) = false →
  J_1 w40))))) ∧
  ((x58 == (6 : Int)) = false →
  ∃ (x62_1 : Int), w6.cell? (⟨w4.heap.size, 2, none⟩ : Addr) = some (.int .i64 x62_1) ∧
  Calls Try.prog 17 #[(.pointer x28), (.int .i64 x62_1)] w6 (Ret fun v_15 w41 => ∃ (x63_0_1 : Int), ∃ (x63_1_1 : Int), v_15 = (.tuple #[(.int .i64 x63_0_1), (.int .i64 x63_1_1)]) ∧
  ∃ (x69_1 : Int), w41.cell? (⟨w4.heap.size, 2, none⟩ : Addr) = some (.int .i64 x69_1) ∧
  Calls Try.prog 26 #[(.pointer x38), (.int .i64 x69_1)] w41 (Ret fun v_16 w42 => ∃ (x70_0_1 : Int), ∃ (x70_1_1 : Int), v_16 = (.tuple #[(.int .i64 x70_0_1), (.int .i64 x70_1_1)]) ∧
  ((x63_0_1 != x70_0_1) = true →
  R (.bool false) w42) ∧
  ((x63_0_1 != x70_0_1) = false →
  ((x63_1_1 != x70_1_1) = true →
  R (.bool false) w42) ∧
  ((x63_1_1 != x70_1_1) = false →
  J_1 w42)))))) ∧
  ((x58 == (6 : Int)) = false →
  ((x58 == (7 : Int)) = true →
  ∃ (x108_2 : Int), w6.cell? (⟨w4.heap.size, 2, none⟩ : Addr) = some (.int .i64 x108_2) ∧
  Calls Try.prog 16 #[(.int .i64 x108_2)] w6 (Ret fun v_17 w43 => ∃ (x1090A_2 : Option Addr), ∃ (x1090N_2 : Nat), ∃ (x1090C_2 : Nat), ∃ (x1091A_2 : Option Addr), ∃ (x1091N_2 : Nat), ∃ (x1091C_2 : Nat), v_17 = (.agg #[(.slice x1090A_2 x1090N_2 x1090C_2), (.slice x1091A_2 x1091N_2 x1091C_2)]) ∧
  ∀ w44 : World, w44 = w43.alloc (.cells #[(.slice none 0 0), (.slice none 0 0)] 35 (0, 0)) →
  (((∃ u, w44.cell? (⟨w43.heap.size, 0, none⟩ : Addr) = some u) ∧ w44.frozen? (⟨w43.heap.size, 0, none⟩ : Addr) = false) ∧ ((∃ u, w44.cell? (⟨w43.heap.size, 1, none⟩ : Addr) = some u) ∧ w44.frozen? (⟨w43.heap.size, 1, none⟩ : Addr) = false)) ∧ ∀ w45 : World, w45 = ((w44.setCell (⟨w43.heap.size, 0, none⟩ : Addr) (.slice x1090A_2 x1090N_2 x1090C_2)).setCell (⟨w43.heap.size, 1, none⟩ : Addr) (.slice x1091A_2 x1091N_2 x1091C_2)) →
  ∃ vS_4 : World → Prop, ∀ w46 : World, w46 = w45.drew → vS_4 w46 ∧
  ∃ (x112_2 : Int), (∀ w47, vS_4 w47 → w47.cell? (⟨w4.heap.size, 1, none⟩ : Addr) = some (.int .i64 x112_2)) ∧
  ∃ (x1130A_2 : Option Addr), ∃ (x1130N_2 : Nat), ∃ (x1130C_2 : Nat), ∃ (x1131A_2 : Option Addr), ∃ (x1131N_2 : Nat), ∃ (x1131C_2 : Nat), ((∀ w48, vS_4 w48 → w48.cell? (⟨w43.heap.size, 0, none⟩ : Addr) = some (.slice x1130A_2 x1130N_2 x1130C_2)) ∧ (∀ w48, vS_4 w48 → w48.cell? (⟨w43.heap.size, 1, none⟩ : Addr) = some (.slice x1131A_2 x1131N_2 x1131C_2))) ∧
  ∃ (x117_2 : Int), (∀ w49, vS_4 w49 → w49.cell? (⟨w4.heap.size, 1, none⟩ : Addr) = some (.int .i64 x117_2)) ∧
  ∃ (x119A_2 : Option Addr), ∃ (x119N_2 : Nat), ∃ (x119C_2 : Nat), (∀ w50, vS_4 w50 → w50.cell? (⟨w43.heap.size, 0, none⟩ : Addr) = some (.slice x119A_2 x119N_2 x119C_2)) ∧
  ∃ (x121A_2 : Option Addr), ∃ (x121N_2 : Nat), ∃ (x121C_2 : Nat), (∀ w51, vS_4 w51 → w51.cell? (⟨w43.heap.size, 1, none⟩ : Addr) = some (.slice x121A_2 x121N_2 x121C_2)) ∧
  Calls Try.prog 15 #[(.pointer x28), (.int .i64 x112_2), (.agg #[(.slice x1130A_2 x1130N_2 x1130C_2), (.slice x1131A_2 x1131N_2 x1131C_2)])] w46 (Ret fun v_18 w52 => ∃ (x114_2 : Int), v_18 = (.int .i64 x114_2) ∧
  vS_4 w52 ∧
  Calls Try.prog 25 #[(.pointer x38), (.int .i64 x117_2), (.agg #[(.slice x119A_2 x119N_2 x119C_2), (.slice x121A_2 x121N_2 x121C_2)])] w52 (Ret fun v_19 w53 => ∃ (x123_2 : Int), v_19 = (.int .i64 x123_2) ∧
  vS_4 w53 ∧
  ((x114_2 != x123_2) = true →
  R (.bool false) w53) ∧
  ((x114_2 != x123_2) = false →
  J_1 w53))))) ∧
  ((x58 == (7 : Int)) = false →
  ∃ (x62_2 : Int), w6.cell? (⟨w4.heap.size, 2, none⟩ : Addr) = some (.int .i64 x62_2) ∧
  Calls Try.prog 17 #[(.pointer x28), (.int .i64 x62_2)] w6 (Ret fun v_20 w54 => ∃ (x63_0_2 : Int), ∃ (x63_1_2 : Int), v_20 = (.tuple #[(.int .i64 x63_0_2), (.int .i64 x63_1_2)]) ∧
  ∃ (x69_2 : Int), w54.cell? (⟨w4.heap.size, 2, none⟩ : Addr) = some (.int .i64 x69_2) ∧
  Calls Try.prog 26 #[(.pointer x38), (.int .i64 x69_2)] w54 (Ret fun v_21 w55 => ∃ (x70_0_2 : Int), ∃ (x70_1_2 : Int), v_21 = (.tuple #[(.int .i64 x70_0_2), (.int .i64 x70_1_2)]) ∧
  ((x63_0_2 != x70_0_2) = true →
  R (.bool false) w55) ∧
  ((x63_0_2 != x70_0_2) = false →
  ((x63_1_2 != x70_1_2) = true →
  R (.bool false) w55) ∧
  ((x63_1_2 != x70_1_2) = false →
  J_1 w55)))))))))) ∧
  ∀ (jk : Nat → Value), ∀ w56 : World, J_1 w56 →
  ∃ J_2 : Int → Int → World → Prop, (∃ (x127 : Int), w56.cell? (⟨w4.heap.size, 1, none⟩ : Addr) = some (.int .i64 x127) ∧
  Calls Try.prog 27 #[(.pointer x38), (.int .i64 x127)] w56 (Ret fun v_22 w57 => ∃ (x128 : Bool), v_22 = (.bool x128) ∧
  (x128 = true →
  ∃ vS_5 : World → Prop, ∀ w58 : World, w58 = w57.drew → vS_5 w58 ∧
  someV x38 fun p_1 =>
  ∃ (x132A : Option Addr), ∃ (x132N : Nat), ∃ (x132C : Nat), (∀ w59, vS_5 w59 → w59.cell? p_1 = some (.slice x132A x132N x132C)) ∧
  ∃ (x134 : Int), (∀ w60, vS_5 w60 → w60.cell? (⟨w4.heap.size, 1, none⟩ : Addr) = some (.int .i64 x134)) ∧
  (0 ≤ x134 ∧ x134 < ((x132N : Nat) : Int)) ∧ someV x132A fun p_2 =>
  ∃ (x137 : Int), (∀ w61, vS_5 w61 → w61.cell? (p_2.add (x134.toNat * 3)) = some (.int .i64 x137)) ∧
  ∃ vS_6 : World → Prop, ∀ w62 : World, w62 = w58.drew → vS_6 w62 ∧
  someV x38 fun p_3 =>
  ∃ (x141A : Option Addr), ∃ (x141N : Nat), ∃ (x141C : Nat), (∀ w63, vS_6 w63 → w63.cell? p_3 = some (.slice x141A x141N x141C)) ∧
  ∃ (x143 : Int), (∀ w64, vS_6 w64 → w64.cell? (⟨w4.heap.size, 1, none⟩ : Addr) = some (.int .i64 x143)) ∧
  (0 ≤ x143 ∧ x143 < ((x141N : Nat) : Int)) ∧ someV x141A fun p_4 =>
  ∃ (x146 : Int), (∀ w65, vS_6 w65 → w65.cell? ((p_4.add (x143.toNat * 3)).add 1) = some (.int .i64 x146)) ∧
  J_2 x137 x146 w62) ∧
  (x128 = false →
  J_2 0 0 w57))) ∧
  ∀ (jk : Nat → Value) (version : Int) (users : Int), ∀ w66 : World, J_2 version users w66 →
  ∃ (x149A : Option Addr), ∃ (x149N : Nat), ∃ (x149C : Nat), w66.cell? (⟨w4.heap.size, 3, none⟩ : Addr) = some (.slice x149A x149N x149C) ∧
  Calls Try.prog 21 #[(.pointer x28), (.slice x149A x149N x149C)] w66 (Ret fun v_23 w67 => ∃ (x150A : Option Addr), ∃ (x150N : Nat), ∃ (x150C : Nat), v_23 = (.slice x150A x150N x150C) ∧
  ∃ (x153A : Option Addr), ∃ (x153N : Nat), ∃ (x153C : Nat), w67.cell? (⟨w4.heap.size, 3, none⟩ : Addr) = some (.slice x153A x153N x153C) ∧
  Calls Try.prog 28 #[(.pointer x38), (.slice x153A x153N x153C)] w67 (Ret fun v_24 w68 => ∃ (x154A : Option Addr), ∃ (x154N : Nat), ∃ (x154C : Nat), v_24 = (.slice x154A x154N x154C) ∧
  ∃ (x157 : Int), w68.cell? (⟨w4.heap.size, 1, none⟩ : Addr) = some (.int .i64 x157) ∧
  Calls Try.prog 29 #[(.pointer x28), (.int .i64 x157)] w68 (Ret fun v_25 w69 => ∃ (x158 : Int), v_25 = (.int .i64 x158) ∧
  ((x158 != version) = true →
  R (.bool false) w69) ∧
  ((x158 != version) = false →
  ∃ (x164 : Int), w69.cell? (⟨w4.heap.size, 1, none⟩ : Addr) = some (.int .i64 x164) ∧
  Calls Try.prog 20 #[(.pointer x28), (.int .i64 x164)] w69 (Ret fun v_26 w70 => ∃ (x165 : Int), v_26 = (.int .i64 x165) ∧
  ((x165 != users) = true →
  R (.bool false) w70) ∧
  ((x165 != users) = false →
  Calls Try.prog 19 #[(.pointer x28)] w70 (Ret fun v_27 w71 => ∃ (x171 : Int), v_27 = (.int .i64 x171) ∧
  Calls Try.prog 30 #[(.pointer x38)] w71 (Ret fun v_28 w72 => ∃ (x173 : Int), v_28 = (.int .i64 x173) ∧
  ((x171 != x173) = true →
  R (.bool false) w72) ∧
  ((x171 != x173) = false →
  Calls Try.prog 31 #[(.pointer x28)] w72 (Ret fun v_29 w73 => ∃ (x178 : Int), v_29 = (.int .i64 x178) ∧
  ((x178 != n) = true →
  R (.bool false) w73) ∧
  ((x178 != n) = false →
  ((((x150N : Nat) : Int) != ((x154N : Nat) : Int)) = true →
  R (.bool false) w73) ∧
  ((((x150N : Nat) : Int) != ((x154N : Nat) : Int)) = false →
  ∃ J_3 : World → Prop, (∃ vI_1 : Int → Nat → World → Prop, (∃ vk_5 : Nat, vI_1 0 vk_5 w73) ∧
  ∀ (jk : Nat → Value) (vk_6 : Int), ∀ (vk_3 : Nat) (w74 : World), vI_1 vk_6 vk_3 w74 →
  (decide (vk_6 < ((x150N : Nat) : Int)) = true →
  ∃ vS_7 : World → Prop, ∀ w75 : World, w75 = w74.drew → vS_7 w75 ∧
  (0 ≤ vk_6 ∧ vk_6 < ((x150N : Nat) : Int)) ∧ someV x150A fun p_5 =>
  ∃ (x1980A : Option Addr), ∃ (x1980N : Nat), ∃ (x1980C : Nat), ∃ (x1981A : Option Addr), ∃ (x1981N : Nat), ∃ (x1981C : Nat), ((∀ w76, vS_7 w76 → w76.cell? (p_5.add (vk_6.toNat * 2)) = some (.slice x1980A x1980N x1980C)) ∧ (∀ w76, vS_7 w76 → w76.cell? ((p_5.add (vk_6.toNat * 2)).add 1) = some (.slice x1981A x1981N x1981C))) ∧
  (0 ≤ vk_6 ∧ vk_6 < ((x154N : Nat) : Int)) ∧ someV x154A fun p_6 =>
  ∃ (x2020A : Option Addr), ∃ (x2020N : Nat), ∃ (x2020C : Nat), ∃ (x2021A : Option Addr), ∃ (x2021N : Nat), ∃ (x2021C : Nat), ((∀ w77, vS_7 w77 → w77.cell? (p_6.add (vk_6.toNat * 2)) = some (.slice x2020A x2020N x2020C)) ∧ (∀ w77, vS_7 w77 → w77.cell? ((p_6.add (vk_6.toNat * 2)).add 1) = some (.slice x2021A x2021N x2021C))) ∧
  Calls Try.prog 32 #[(.agg #[(.slice x1980A x1980N x1980C), (.slice x1981A x1981N x1981C)]), (.agg #[(.slice x2020A x2020N x2020C), (.slice x2021A x2021N x2021C)])] w75 (Ret fun v_30 w78 => ∃ (x203 : Bool), v_30 = (.bool x203) ∧
  vS_7 w78 ∧
  ((!x203) = true →
  R (.bool false) w78) ∧
  ((!x203) = false →
  ∃ vk_4 : Nat, vk_4 < vk_3 ∧ vI_1 (IntKind.i64.wrap (vk_6 + 1)) vk_4 w78))) ∧
  (decide (vk_6 < ((x150N : Nat) : Int)) = false →
  J_3 w74)) ∧
  ∀ (jk : Nat → Value), ∀ w79 : World, J_3 w79 →
  ∃ (x207 : Int), w79.cell? (⟨w4.heap.size, 2, none⟩ : Addr) = some (.int .i64 x207) ∧
  Calls Try.prog 18 #[(.pointer x28), (.int .i64 x207)] w79 (Ret fun v_31 w80 => ∃ (x208A : Option Addr), ∃ (x208N : Nat), ∃ (x208C : Nat), v_31 = (.slice x208A x208N x208C) ∧
  ∃ vI_2 : Int → Int → Nat → World → Prop, (∃ vk_9 : Nat, vI_2 0 0 vk_9 w80) ∧
  ∀ (jk : Nat → Value) (vk_10 : Int) (id : Int), ∀ (vk_7 : Nat) (w81 : World), vI_2 vk_10 id vk_7 w81 →
  (decide (id < n) = true →
  ∃ vS_8 : World → Prop, ∀ w82 : World, w82 = w81.drew → vS_8 w82 ∧
  someV x38 fun p_7 =>
  ∃ (x217A : Option Addr), ∃ (x217N : Nat), ∃ (x217C : Nat), (∀ w83, vS_8 w83 → w83.cell? p_7 = some (.slice x217A x217N x217C)) ∧
  (0 ≤ id ∧ id < ((x217N : Nat) : Int)) ∧ someV x217A fun p_8 =>
  ∃ (x221 : Int), (∀ w84, vS_8 w84 → w84.cell? ((p_8.add (id.toNat * 3)).add 1) = some (.int .i64 x221)) ∧
  (decide (x221 > (0 : Int)) = true →
  someV x38 fun p_9 =>
  ∃ (x227A : Option Addr), ∃ (x227N : Nat), ∃ (x227C : Nat), (∀ w85, vS_8 w85 → w85.cell? p_9 = some (.slice x227A x227N x227C)) ∧
  (0 ≤ id ∧ id < ((x227N : Nat) : Int)) ∧ someV x227A fun p_10 =>
  ∃ (x231 : Int), (∀ w86, vS_8 w86 → w86.cell? (p_10.add (id.toNat * 3)) = some (.int .i64 x231)) ∧
  ∃ (x233 : Int), (∀ w87, vS_8 w87 → w87.cell? (⟨w4.heap.size, 2, none⟩ : Addr) = some (.int .i64 x233)) ∧
  ((x231 == x233) = true →
  (decide (vk_10 ≥ ((x208N : Nat) : Int)) = true →
  R (.bool false) w82) ∧
  (decide (vk_10 ≥ ((x208N : Nat) : Int)) = false →
  (0 ≤ vk_10 ∧ vk_10 < ((x208N : Nat) : Int)) ∧ someV x208A fun p_11 =>
  ∃ (x244 : Int), w82.cell? (p_11.add (vk_10.toNat * 1)) = some (.int .i64 x244) ∧
  ((x244 != id) = true →
  R (.bool false) w82) ∧
  ((x244 != id) = false →
  ∃ vk_8 : Nat, vk_8 < vk_7 ∧ vI_2 (IntKind.i64.wrap (vk_10 + 1)) (IntKind.i64.wrap (id + 1)) vk_8 w82))) ∧
  ((x231 == x233) = false →
  ∃ vk_8 : Nat, vk_8 < vk_7 ∧ vI_2 vk_10 (IntKind.i64.wrap (id + 1)) vk_8 w82)) ∧
  (decide (x221 > (0 : Int)) = false →
  ∃ vk_8 : Nat, vk_8 < vk_7 ∧ vI_2 vk_10 (IntKind.i64.wrap (id + 1)) vk_8 w82)) ∧
  (decide (id < n) = false →
  ((vk_10 != ((x208N : Nat) : Int)) = true →
  R (.bool false) w81) ∧
  ((vk_10 != ((x208N : Nat) : Int)) = false →
  ∃ vk_1 : Nat, vk_1 < vk ∧ vI (IntKind.i64.wrap (i + 1)) vk_1 w81))))))))))))))))) ∧
  (decide (i < (60 : Int)) = false →
  J w4)) ∧
  (decide (i < ((actsN : Nat) : Int)) = false →
  J w4)) ∧
  ∀ (jk : Nat → Value), ∀ w88 : World, J w88 →
  Calls Try.prog 17 #[(.pointer none), (.int .i64 1)] w88 (Ret fun v_32 w89 => ∃ (x256_0 : Int), ∃ (x256_1 : Int), v_32 = (.tuple #[(.int .i64 x256_0), (.int .i64 x256_1)]) ∧
  ((x256_1 == (2 : Int)) = true →
  ∀ w90 : World, w90 = w89.alloc (.cells #[(.int .i64 0)] 3 (0, 0)) →
  Calls Try.prog 13 #[(.pointer none), (.slice (some (⟨w89.heap.size, 0, none⟩ : Addr)) 1 1)] w90 (Ret fun v_33 w91 => ∃ (x264 : Int), v_33 = (.int .i64 x264) ∧
  ((x264 == (2 : Int)) = true →
  ∀ w92 : World, w92 = w91.alloc (.cells #[(.int .i64 0)] 3 (0, 0)) →
  Calls Try.prog 14 #[(.pointer none), (.slice (some (⟨w91.heap.size, 0, none⟩ : Addr)) 1 1)] w92 (Ret fun v_34 w93 => ∃ (x270 : Int), v_34 = (.int .i64 x270) ∧
  ((x270 == (2 : Int)) = true →
  Calls Try.prog 16 #[(.int .i64 1)] w93 (Ret fun v_35 w94 => ∃ (x2750A : Option Addr), ∃ (x2750N : Nat), ∃ (x2750C : Nat), ∃ (x2751A : Option Addr), ∃ (x2751N : Nat), ∃ (x2751C : Nat), v_35 = (.agg #[(.slice x2750A x2750N x2750C), (.slice x2751A x2751N x2751C)]) ∧
  Calls Try.prog 15 #[(.pointer none), (.int .i64 0), (.agg #[(.slice x2750A x2750N x2750C), (.slice x2751A x2751N x2751C)])] w94 (Ret fun v_36 w95 => ∃ (x276 : Int), v_36 = (.int .i64 x276) ∧
  ((x276 == (2 : Int)) = true →
  ∀ w96 : World, w96 = w95.alloc (.cells #[(.int .i64 0)] 3 (0, 0)) →
  Calls Try.prog 21 #[(.pointer none), (.slice (some (⟨w95.heap.size, 0, none⟩ : Addr)) 1 1)] w96 (Ret fun v_37 w97 => ∃ (x282A : Option Addr), ∃ (x282N : Nat), ∃ (x282C : Nat), v_37 = (.slice x282A x282N x282C) ∧
  Calls Try.prog 29 #[(.pointer none), (.int .i64 0)] w97 (Ret fun v_38 w98 => ∃ (x285 : Int), v_38 = (.int .i64 x285) ∧
  Calls Try.prog 20 #[(.pointer none), (.int .i64 0)] w98 (Ret fun v_39 w99 => ∃ (x288 : Int), v_39 = (.int .i64 x288) ∧
  Calls Try.prog 19 #[(.pointer none)] w99 (Ret fun v_40 w100 => ∃ (x291 : Int), v_40 = (.int .i64 x291) ∧
  Calls Try.prog 31 #[(.pointer none)] w100 (Ret fun v_41 w101 => ∃ (x294 : Int), v_41 = (.int .i64 x294) ∧
  Calls Try.prog 18 #[(.pointer none), (.int .i64 1)] w101 (Ret fun v_42 w102 => ∃ (x297A : Option Addr), ∃ (x297N : Nat), ∃ (x297C : Nat), v_42 = (.slice x297A x297N x297C) ∧
  R (.bool ((IntKind.i64.wrap ((IntKind.i64.wrap ((IntKind.i64.wrap ((IntKind.i64.wrap ((IntKind.i64.wrap (((x282N : Nat) : Int) + x285)) + x288)) + x291)) + x294)) + ((x297N : Nat) : Int))) == (0 : Int))) w102))))))) ∧
  ((x276 == (2 : Int)) = false →
  R (.bool false) w95)))) ∧
  ((x270 == (2 : Int)) = false →
  R (.bool false) w93))) ∧
  ((x264 == (2 : Int)) = false →
  R (.bool false) w91))) ∧
  ((x256_1 == (2 : Int)) = false →
  R (.bool false) w89))))))))
theorem coadjutorlaw22_PagesExact.vc_eq (n : Int) (actsA : Option Addr) (actsN : Nat) (actsC : Nat) (w : World) (R : Value → World → Prop) : fnV Try.prog Try.f5 (.c .nil (.at_ 4 2 (.k .nil) (.c .nil (.cut 1 [(4, none), (7, none), (8, none), (9, none), (10, none), (11, none), (12, none), (13, none), (14, none), (15, none), (16, none), (17, none), (18, none), (19, none), (20, none), (21, none), (39, none), (40, none), (41, none), (42, none), (43, none), (44, none), (45, none), (46, none), (47, none), (48, none), (49, none), (50, none), (51, none), (52, none), (53, none), (54, none), (55, none), (56, none), (57, none), (58, none), (59, none), (60, none), (61, none), (62, none), (63, none), (64, none), (65, none), (66, none), (67, none), (68, none), (69, none), (70, none), (71, none), (72, none), (73, none), (74, none), (75, none), (76, none), (77, none), (78, none), (79, none), (80, none), (81, none), (82, none), (83, none), (84, none), (85, none), (86, none), (87, none), (88, none), (89, none), (90, none), (91, none), (92, none), (93, none), (94, none), (95, none), (96, none), (97, none), (98, none), (99, none), (100, none), (101, none), (102, none), (103, none), (104, none), (105, none), (106, none), (107, none), (108, none), (109, none), (110, none), (111, none), (112, none), (113, none), (114, none), (115, none), (116, none), (117, none), (118, none), (119, none), (120, none), (121, none), (122, none), (123, none), (124, none), (125, none), (126, none), (127, none), (128, none), (129, none), (130, none), (131, none), (132, none), (133, none), (134, none), (135, none), (136, none), (137, none), (138, none), (139, none), (140, none), (141, none), (142, none), (143, none), (144, none), (145, none), (146, none), (147, none), (148, none), (149, none), (150, none), (151, none), (152, none), (153, none), (154, none), (155, none), (156, none), (157, none), (158, none), (159, none), (160, none), (161, none), (162, none), (163, none), (164, none), (165, none), (166, none), (167, none), (168, none), (169, none), (170, none), (171, none), (172, none), (173, none), (174, none), (175, none), (176, none), (177, none), (178, none), (179, none), (180, none), (181, none), (182, none), (183, none), (184, none), (185, none), (186, none), (187, none), (188, none), (189, none), (190, none), (191, none), (192, none), (193, none), (194, none), (195, none), (196, none), (197, none), (198, none), (199, none), (200, none), (201, none), (202, none), (203, none), (204, none), (205, none), (206, none), (207, none), (208, none), (209, none), (210, none), (211, none), (212, none), (213, none), (214, none), (215, none), (216, none), (217, none), (218, none), (219, none), (220, none), (221, none), (222, none), (223, none), (224, none), (225, none), (226, none), (227, none), (228, none), (229, none), (230, none), (231, none), (232, none), (233, none), (234, none), (235, none), (236, none), (237, none), (238, none), (239, none), (240, none), (241, none), (242, none), (243, none), (244, none), (245, none), (246, none), (247, none), (248, none), (249, none), (250, none), (251, none), (252, none), (253, none)] (.lp [(4, none), (7, some (.int .i64)), (8, none), (9, none), (10, none), (11, none), (12, none), (13, none), (14, none), (15, none), (16, none), (17, none), (18, none), (19, none), (20, none), (21, none), (39, none), (40, none), (41, none), (42, none), (43, none), (44, none), (45, none), (46, none), (47, none), (48, none), (49, none), (50, none), (51, none), (52, none), (53, none), (54, none), (55, none), (56, none), (57, none), (58, none), (59, none), (60, none), (61, none), (62, none), (63, none), (64, none), (65, none), (66, none), (67, none), (68, none), (69, none), (70, none), (71, none), (72, none), (73, none), (74, none), (75, none), (76, none), (77, none), (78, none), (79, none), (80, none), (81, none), (82, none), (83, none), (84, none), (85, none), (86, none), (87, none), (88, none), (89, none), (90, none), (91, none), (92, none), (93, none), (94, none), (95, none), (96, none), (97, none), (98, none), (99, none), (100, none), (101, none), (102, none), (103, none), (104, none), (105, none), (106, none), (107, none), (108, none), (109, none), (110, none), (111, none), (112, none), (113, none), (114, none), (115, none), (116, none), (117, none), (118, none), (119, none), (120, none), (121, none), (122, none), (123, none), (124, none), (125, none), (126, none), (127, none), (128, none), (129, none), (130, none), (131, none), (132, none), (133, none), (134, none), (135, none), (136, none), (137, none), (138, none), (139, none), (140, none), (141, none), (142, none), (143, none), (144, none), (145, none), (146, none), (147, none), (148, none), (149, none), (150, none), (151, none), (152, none), (153, none), (154, none), (155, none), (156, none), (157, none), (158, none), (159, none), (160, none), (161, none), (162, none), (163, none), (164, none), (165, none), (166, none), (167, none), (168, none), (169, none), (170, none), (171, none), (172, none), (173, none), (174, none), (175, none), (176, none), (177, none), (178, none), (179, none), (180, none), (181, none), (182, none), (183, none), (184, none), (185, none), (186, none), (187, none), (188, none), (189, none), (190, none), (191, none), (192, none), (193, none), (194, none), (195, none), (196, none), (197, none), (198, none), (199, none), (200, none), (201, none), (202, none), (203, none), (204, none), (205, none), (206, none), (207, none), (208, none), (209, none), (210, none), (211, none), (212, none), (213, none), (214, none), (215, none), (216, none), (217, none), (218, none), (219, none), (220, none), (221, none), (222, none), (223, none), (224, none), (225, none), (226, none), (227, none), (228, none), (229, none), (230, none), (231, none), (232, none), (233, none), (234, none), (235, none), (236, none), (237, none), (238, none), (239, none), (240, none), (241, none), (242, none), (243, none), (244, none), (245, none), (246, none), (247, none), (248, none), (249, none), (250, none), (251, none), (252, none), (253, none)] (.at_ 8 4 (.c (.c .nil (.cut 0 [(4, none), (9, none), (10, none), (11, none), (12, none), (13, none), (57, none), (58, none), (59, none), (60, none), (61, none), (62, none), (63, none), (64, none), (65, none), (66, none), (67, none), (68, none), (69, none), (70, none), (71, none), (72, none), (73, none), (74, none), (75, none), (76, none), (77, none), (78, none), (79, none), (80, none), (81, none), (82, none), (83, none), (84, none), (85, none), (86, none), (87, none), (88, none), (89, none), (90, none), (91, none), (92, none), (93, none), (94, none), (95, none), (96, none), (97, none), (98, none), (99, none), (100, none), (101, none), (102, none), (103, none), (104, none), (105, none), (106, none), (107, none), (108, none), (109, none), (110, none), (111, none), (112, none), (113, none), (114, none), (115, none), (116, none), (117, none), (118, none), (119, none), (120, none), (121, none), (122, none), (123, none), (124, none)] (.c (.tk 0 (.tk 1 (.tk 2 (.tk 4 (.tk 5 (.tk 6 (.alt 3 (.alt 7 (.tk 8 (.fin (.c .nil .nil))) .nil) .nil))))))) (.c (.tk 0 (.tk 1 (.tk 2 (.tk 4 (.tk 5 (.tk 6 (.alt 3 (.alt 7 (.tk 8 (.fin (.c .nil .nil))) .nil) .nil))))))) (.c (.c (.tk 0 (.tk 1 (.tk 2 (.tk 3 (.tk 5 (.tk 6 (.tk 7 (.tk 8 (.tk 9 (.tk 10 (.tk 11 (.tk 12 (.alt 4 (.alt 13 (.tk 14 (.fin (.c .nil .nil))) .nil) .nil))))))))))))) (.at_ 16 3 (.k .nil) (.c .nil .nil))) (.c (.c (.tk 0 (.tk 1 (.tk 2 (.tk 3 (.tk 5 (.tk 6 (.tk 7 (.tk 8 (.tk 9 (.tk 10 (.tk 11 (.tk 12 (.alt 4 (.alt 13 (.tk 14 (.fin (.c .nil .nil))) .nil) .nil))))))))))))) (.at_ 16 3 (.k .nil) (.c .nil .nil))) (.c (.tk 0 (.tk 1 (.tk 2 (.tk 3 (.tk 5 (.tk 6 (.tk 7 (.tk 8 (.tk 9 (.tk 10 (.tk 11 (.tk 12 (.alt 4 (.alt 13 (.tk 14 (.fin (.c .nil .nil))) .nil) .nil))))))))))))) (.at_ 16 3 (.k .nil) (.c .nil .nil))))))) (.cut 2 [(14, some (.int .i64)), (15, some (.int .i64)), (125, none), (126, none), (127, none), (128, none), (129, none), (130, none), (131, none), (132, none), (133, none), (134, none), (135, none), (136, none), (137, none), (138, none), (139, none), (140, none), (141, none), (142, none), (143, none), (144, none), (145, none), (146, none)] (.c (.tk 0 (.tk 1 (.tk 2 (.tk 3 (.tk 4 (.tk 5 (.tk 6 (.tk 7 (.tk 8 (.tk 9 (.fin (.tk 0 (.tk 1 (.tk 2 (.tk 3 (.tk 4 (.tk 5 (.tk 6 (.tk 7 (.tk 8 (.tk 9 (.fin .nil)))))))))))))))))))))) .nil) (.at_ 37 6 (.k .nil) (.at_ 37 14 (.k .nil) (.at_ 37 21 (.k .nil) (.at_ 37 27 (.k .nil) (.c .nil (.cut 0 [(4, none), (18, none), (189, none), (190, none), (191, none), (192, none), (193, none), (194, none), (195, none), (196, none), (197, none), (198, none), (199, none), (200, none), (201, none), (202, none), (203, none), (204, none)] (.lp [(4, none), (18, some (.int .i64)), (189, none), (190, none), (191, none), (192, none), (193, none), (194, none), (195, none), (196, none), (197, none), (198, none), (199, none), (200, none), (201, none), (202, none), (203, none), (204, none)] (.c (.tk 0 (.tk 1 (.tk 2 (.tk 3 (.tk 4 (.tk 5 (.tk 6 (.tk 7 (.alt 8 (.tk 9 (.fin (.c .nil .nil))) .nil))))))))) .nil)) (.lp [(4, none), (20, some (.int .i64)), (21, some (.int .i64)), (209, none), (210, none), (211, none), (212, none), (213, none), (214, none), (215, none), (216, none), (217, none), (218, none), (219, none), (220, none), (221, none), (222, none), (223, none), (224, none), (225, none), (226, none), (227, none), (228, none), (229, none), (230, none), (231, none), (232, none), (233, none), (234, none), (235, none), (236, none), (237, none), (238, none), (239, none), (240, none), (241, none), (242, none), (243, none), (244, none), (245, none), (246, none), (247, none), (248, none), (249, none)] (.c (.tk 0 (.tk 1 (.tk 2 (.tk 3 (.tk 4 (.tk 5 (.tk 6 (.tk 7 (.tk 8 (.tks 9 (.tk 10 (.tk 11 (.tk 12 (.tk 13 (.tk 14 (.tk 15 (.tk 16 (.tk 17 (.tk 18 (.tk 19 (.tk 20 (.tk 21 (.fin (.c (.at_ 50 4 (.k .nil) (.c .nil .nil)) .nil)))))))))))))) (.tk 10 (.tk 11 (.tk 12 (.tk 13 (.tk 14 (.tk 15 (.tk 16 (.tk 17 (.tk 18 (.tk 19 (.tk 20 (.tk 21 (.fin (.k .nil)))))))))))))))))))))))) (.c .nil .nil)))))))))))) .nil) (.k .nil))) (.at_ 57 2 (.at_ 57 8 (.at_ 57 14 (.at_ 57 20 .nil .nil) .nil) .nil) .nil))))) [(.int .i64 n), (.slice actsA actsN actsC)] w R = coadjutorlaw22_PagesExact.vc n actsA actsN actsC w R := by kernel_rfl
theorem coadjutorlaw22_PagesExact.calls (n : Int) (actsA : Option Addr) (actsN : Nat) (actsC : Nat) {w : World} {R : Value → World → Prop} (h : coadjutorlaw22_PagesExact.vc n actsA actsN actsC w R) : Calls Try.prog 5 #[(.int .i64 n), (.slice actsA actsN actsC)] w (Ret R) :=
  calls_V fit Try.func5 (.c .nil (.at_ 4 2 (.k .nil) (.c .nil (.cut 1 [(4, none), (7, none), (8, none), (9, none), (10, none), (11, none), (12, none), (13, none), (14, none), (15, none), (16, none), (17, none), (18, none), (19, none), (20, none), (21, none), (39, none), (40, none), (41, none), (42, none), (43, none), (44, none), (45, none), (46, none), (47, none), (48, none), (49, none), (50, none), (51, none), (52, none), (53, none), (54, none), (55, none), (56, none), (57, none), (58, none), (59, none), (60, none), (61, none), (62, none), (63, none), (64, none), (65, none), (66, none), (67, none), (68, none), (69, none), (70, none), (71, none), (72, none), (73, none), (74, none), (75, none), (76, none), (77, none), (78, none), (79, none), (80, none), (81, none), (82, none), (83, none), (84, none), (85, none), (86, none), (87, none), (88, none), (89, none), (90, none), (91, none), (92, none), (93, none), (94, none), (95, none), (96, none), (97, none), (98, none), (99, none), (100, none), (101, none), (102, none), (103, none), (104, none), (105, none), (106, none), (107, none), (108, none), (109, none), (110, none), (111, none), (112, none), (113, none), (114, none), (115, none), (116, none), (117, none), (118, none), (119, none), (120, none), (121, none), (122, none), (123, none), (124, none), (125, none), (126, none), (127, none), (128, none), (129, none), (130, none), (131, none), (132, none), (133, none), (134, none), (135, none), (136, none), (137, none), (138, none), (139, none), (140, none), (141, none), (142, none), (143, none), (144, none), (145, none), (146, none), (147, none), (148, none), (149, none), (150, none), (151, none), (152, none), (153, none), (154, none), (155, none), (156, none), (157, none), (158, none), (159, none), (160, none), (161, none), (162, none), (163, none), (164, none), (165, none), (166, none), (167, none), (168, none), (169, none), (170, none), (171, none), (172, none), (173, none), (174, none), (175, none), (176, none), (177, none), (178, none), (179, none), (180, none), (181, none), (182, none), (183, none), (184, none), (185, none), (186, none), (187, none), (188, none), (189, none), (190, none), (191, none), (192, none), (193, none), (194, none), (195, none), (196, none), (197, none), (198, none), (199, none), (200, none), (201, none), (202, none), (203, none), (204, none), (205, none), (206, none), (207, none), (208, none), (209, none), (210, none), (211, none), (212, none), (213, none), (214, none), (215, none), (216, none), (217, none), (218, none), (219, none), (220, none), (221, none), (222, none), (223, none), (224, none), (225, none), (226, none), (227, none), (228, none), (229, none), (230, none), (231, none), (232, none), (233, none), (234, none), (235, none), (236, none), (237, none), (238, none), (239, none), (240, none), (241, none), (242, none), (243, none), (244, none), (245, none), (246, none), (247, none), (248, none), (249, none), (250, none), (251, none), (252, none), (253, none)] (.lp [(4, none), (7, some (.int .i64)), (8, none), (9, none), (10, none), (11, none), (12, none), (13, none), (14, none), (15, none), (16, none), (17, none), (18, none), (19, none), (20, none), (21, none), (39, none), (40, none), (41, none), (42, none), (43, none), (44, none), (45, none), (46, none), (47, none), (48, none), (49, none), (50, none), (51, none), (52, none), (53, none), (54, none), (55, none), (56, none), (57, none), (58, none), (59, none), (60, none), (61, none), (62, none), (63, none), (64, none), (65, none), (66, none), (67, none), (68, none), (69, none), (70, none), (71, none), (72, none), (73, none), (74, none), (75, none), (76, none), (77, none), (78, none), (79, none), (80, none), (81, none), (82, none), (83, none), (84, none), (85, none), (86, none), (87, none), (88, none), (89, none), (90, none), (91, none), (92, none), (93, none), (94, none), (95, none), (96, none), (97, none), (98, none), (99, none), (100, none), (101, none), (102, none), (103, none), (104, none), (105, none), (106, none), (107, none), (108, none), (109, none), (110, none), (111, none), (112, none), (113, none), (114, none), (115, none), (116, none), (117, none), (118, none), (119, none), (120, none), (121, none), (122, none), (123, none), (124, none), (125, none), (126, none), (127, none), (128, none), (129, none), (130, none), (131, none), (132, none), (133, none), (134, none), (135, none), (136, none), (137, none), (138, none), (139, none), (140, none), (141, none), (142, none), (143, none), (144, none), (145, none), (146, none), (147, none), (148, none), (149, none), (150, none), (151, none), (152, none), (153, none), (154, none), (155, none), (156, none), (157, none), (158, none), (159, none), (160, none), (161, none), (162, none), (163, none), (164, none), (165, none), (166, none), (167, none), (168, none), (169, none), (170, none), (171, none), (172, none), (173, none), (174, none), (175, none), (176, none), (177, none), (178, none), (179, none), (180, none), (181, none), (182, none), (183, none), (184, none), (185, none), (186, none), (187, none), (188, none), (189, none), (190, none), (191, none), (192, none), (193, none), (194, none), (195, none), (196, none), (197, none), (198, none), (199, none), (200, none), (201, none), (202, none), (203, none), (204, none), (205, none), (206, none), (207, none), (208, none), (209, none), (210, none), (211, none), (212, none), (213, none), (214, none), (215, none), (216, none), (217, none), (218, none), (219, none), (220, none), (221, none), (222, none), (223, none), (224, none), (225, none), (226, none), (227, none), (228, none), (229, none), (230, none), (231, none), (232, none), (233, none), (234, none), (235, none), (236, none), (237, none), (238, none), (239, none), (240, none), (241, none), (242, none), (243, none), (244, none), (245, none), (246, none), (247, none), (248, none), (249, none), (250, none), (251, none), (252, none), (253, none)] (.at_ 8 4 (.c (.c .nil (.cut 0 [(4, none), (9, none), (10, none), (11, none), (12, none), (13, none), (57, none), (58, none), (59, none), (60, none), (61, none), (62, none), (63, none), (64, none), (65, none), (66, none), (67, none), (68, none), (69, none), (70, none), (71, none), (72, none), (73, none), (74, none), (75, none), (76, none), (77, none), (78, none), (79, none), (80, none), (81, none), (82, none), (83, none), (84, none), (85, none), (86, none), (87, none), (88, none), (89, none), (90, none), (91, none), (92, none), (93, none), (94, none), (95, none), (96, none), (97, none), (98, none), (99, none), (100, none), (101, none), (102, none), (103, none), (104, none), (105, none), (106, none), (107, none), (108, none), (109, none), (110, none), (111, none), (112, none), (113, none), (114, none), (115, none), (116, none), (117, none), (118, none), (119, none), (120, none), (121, none), (122, none), (123, none), (124, none)] (.c (.tk 0 (.tk 1 (.tk 2 (.tk 4 (.tk 5 (.tk 6 (.alt 3 (.alt 7 (.tk 8 (.fin (.c .nil .nil))) .nil) .nil))))))) (.c (.tk 0 (.tk 1 (.tk 2 (.tk 4 (.tk 5 (.tk 6 (.alt 3 (.alt 7 (.tk 8 (.fin (.c .nil .nil))) .nil) .nil))))))) (.c (.c (.tk 0 (.tk 1 (.tk 2 (.tk 3 (.tk 5 (.tk 6 (.tk 7 (.tk 8 (.tk 9 (.tk 10 (.tk 11 (.tk 12 (.alt 4 (.alt 13 (.tk 14 (.fin (.c .nil .nil))) .nil) .nil))))))))))))) (.at_ 16 3 (.k .nil) (.c .nil .nil))) (.c (.c (.tk 0 (.tk 1 (.tk 2 (.tk 3 (.tk 5 (.tk 6 (.tk 7 (.tk 8 (.tk 9 (.tk 10 (.tk 11 (.tk 12 (.alt 4 (.alt 13 (.tk 14 (.fin (.c .nil .nil))) .nil) .nil))))))))))))) (.at_ 16 3 (.k .nil) (.c .nil .nil))) (.c (.tk 0 (.tk 1 (.tk 2 (.tk 3 (.tk 5 (.tk 6 (.tk 7 (.tk 8 (.tk 9 (.tk 10 (.tk 11 (.tk 12 (.alt 4 (.alt 13 (.tk 14 (.fin (.c .nil .nil))) .nil) .nil))))))))))))) (.at_ 16 3 (.k .nil) (.c .nil .nil))))))) (.cut 2 [(14, some (.int .i64)), (15, some (.int .i64)), (125, none), (126, none), (127, none), (128, none), (129, none), (130, none), (131, none), (132, none), (133, none), (134, none), (135, none), (136, none), (137, none), (138, none), (139, none), (140, none), (141, none), (142, none), (143, none), (144, none), (145, none), (146, none)] (.c (.tk 0 (.tk 1 (.tk 2 (.tk 3 (.tk 4 (.tk 5 (.tk 6 (.tk 7 (.tk 8 (.tk 9 (.fin (.tk 0 (.tk 1 (.tk 2 (.tk 3 (.tk 4 (.tk 5 (.tk 6 (.tk 7 (.tk 8 (.tk 9 (.fin .nil)))))))))))))))))))))) .nil) (.at_ 37 6 (.k .nil) (.at_ 37 14 (.k .nil) (.at_ 37 21 (.k .nil) (.at_ 37 27 (.k .nil) (.c .nil (.cut 0 [(4, none), (18, none), (189, none), (190, none), (191, none), (192, none), (193, none), (194, none), (195, none), (196, none), (197, none), (198, none), (199, none), (200, none), (201, none), (202, none), (203, none), (204, none)] (.lp [(4, none), (18, some (.int .i64)), (189, none), (190, none), (191, none), (192, none), (193, none), (194, none), (195, none), (196, none), (197, none), (198, none), (199, none), (200, none), (201, none), (202, none), (203, none), (204, none)] (.c (.tk 0 (.tk 1 (.tk 2 (.tk 3 (.tk 4 (.tk 5 (.tk 6 (.tk 7 (.alt 8 (.tk 9 (.fin (.c .nil .nil))) .nil))))))))) .nil)) (.lp [(4, none), (20, some (.int .i64)), (21, some (.int .i64)), (209, none), (210, none), (211, none), (212, none), (213, none), (214, none), (215, none), (216, none), (217, none), (218, none), (219, none), (220, none), (221, none), (222, none), (223, none), (224, none), (225, none), (226, none), (227, none), (228, none), (229, none), (230, none), (231, none), (232, none), (233, none), (234, none), (235, none), (236, none), (237, none), (238, none), (239, none), (240, none), (241, none), (242, none), (243, none), (244, none), (245, none), (246, none), (247, none), (248, none), (249, none)] (.c (.tk 0 (.tk 1 (.tk 2 (.tk 3 (.tk 4 (.tk 5 (.tk 6 (.tk 7 (.tk 8 (.tks 9 (.tk 10 (.tk 11 (.tk 12 (.tk 13 (.tk 14 (.tk 15 (.tk 16 (.tk 17 (.tk 18 (.tk 19 (.tk 20 (.tk 21 (.fin (.c (.at_ 50 4 (.k .nil) (.c .nil .nil)) .nil)))))))))))))) (.tk 10 (.tk 11 (.tk 12 (.tk 13 (.tk 14 (.tk 15 (.tk 16 (.tk 17 (.tk 18 (.tk 19 (.tk 20 (.tk 21 (.fin (.k .nil)))))))))))))))))))))))) (.c .nil .nil)))))))))))) .nil) (.k .nil))) (.at_ 57 2 (.at_ 57 8 (.at_ 57 14 (.at_ 57 20 .nil .nil) .nil) .nil) .nil))))) (by rw [show (#[(.int .i64 n), (.slice actsA actsN actsC)] : Array Value).toList = [(.int .i64 n), (.slice actsA actsN actsC)] from rfl, coadjutorlaw22_PagesExact.vc_eq]; exact h)
end Go.Proofs.Ytpcddfhfchempaa.Vc
