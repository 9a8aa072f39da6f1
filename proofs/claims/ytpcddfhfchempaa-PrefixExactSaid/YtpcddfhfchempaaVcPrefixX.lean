import Derived.Test.YtpcddfhfchempaaVc
import Derived.Test.YtpcddfhfchempaaH
import Derived.Test.YtpcddfhfchempaaProg
import Derived.KernelRfl
set_option linter.unusedVariables false
set_option maxRecDepth 100000
namespace Go.Proofs.Ytpcddfhfchempaa.Vc
open Go Go.Proofs Go.Proofs.Ytpcddfhfchempaa.V
/-- function 7 -/
def coadjutorlaw23_PrefixExact.vc (actsA : Option Addr) (actsN : Nat) (actsC : Nat) (w : World) (R : Value → World → Prop) : Prop :=
  Calls Try.prog 33 #[] w (Ret fun v w1 => ∃ (x13 : Bool), v = (.bool x13) ∧
  ((!x13) = true →
  R (.bool false) w1) ∧
  ((!x13) = false →
  Calls Try.prog 34 #[(.int .i64 10)] w1 (Ret fun v_1 w2 => ∃ (x16_0 : Option Addr), ∃ (x16_1 : Option Addr), v_1 = (.tuple #[(.pointer x16_0), (.pointer x16_1)]) ∧
  Calls Try.prog 35 #[(.pointer x16_0)] w2 (Ret fun v_2 w3 => ∃ (x20 : Option Addr), v_2 = (.pointer x20) ∧
  ∀ w4 : World, w4 = w3.alloc (.cells #[(.pointer x16_1), (.slice none 0 0)] 76 (0, 0)) →
  ∃ J : World → Prop, (∃ vI : Int → Nat → World → Prop, (∃ vk_2 : Nat, vI 0 vk_2 w4) ∧
  ∀ (jk : Nat → Value) (i : Int), ∀ (vk : Nat) (w5 : World), vI i vk w5 →
  (decide (i < ((actsN : Nat) : Int)) = true →
  (decide (i < (50 : Int)) = true →
  (0 ≤ i ∧ i < ((actsN : Nat) : Int)) ∧ someV actsA fun p =>
  ∃ (x370 : Int), ∃ (x371 : Int), ∃ (x372 : Int), ∃ (x373A : Option Addr), ∃ (x373N : Nat), ∃ (x373C : Nat), (w5.cell? (p.add (i.toNat * 4)) = some (.int .i64 x370) ∧ w5.cell? ((p.add (i.toNat * 4)).add 1) = some (.int .i64 x371) ∧ w5.cell? ((p.add (i.toNat * 4)).add 2) = some (.int .i64 x372) ∧ w5.cell? ((p.add (i.toNat * 4)).add 3) = some (.slice x373A x373N x373C)) ∧
  ∀ w6 : World, w6 = w5.alloc (.cells #[(.int .i64 0), (.int .i64 0), (.int .i64 0), (.slice none 0 0)] 78 (0, 0)) →
  (((∃ u, w6.cell? (⟨w5.heap.size, 0, none⟩ : Addr) = some u) ∧ w6.frozen? (⟨w5.heap.size, 0, none⟩ : Addr) = false) ∧ ((∃ u, w6.cell? (⟨w5.heap.size, 1, none⟩ : Addr) = some u) ∧ w6.frozen? (⟨w5.heap.size, 1, none⟩ : Addr) = false) ∧ ((∃ u, w6.cell? (⟨w5.heap.size, 2, none⟩ : Addr) = some u) ∧ w6.frozen? (⟨w5.heap.size, 2, none⟩ : Addr) = false) ∧ ((∃ u, w6.cell? (⟨w5.heap.size, 3, none⟩ : Addr) = some u) ∧ w6.frozen? (⟨w5.heap.size, 3, none⟩ : Addr) = false)) ∧ ∀ w7 : World, w7 = ((((w6.setCell (⟨w5.heap.size, 0, none⟩ : Addr) (.int .i64 x370)).setCell (⟨w5.heap.size, 1, none⟩ : Addr) (.int .i64 x371)).setCell (⟨w5.heap.size, 2, none⟩ : Addr) (.int .i64 x372)).setCell (⟨w5.heap.size, 3, none⟩ : Addr) (.slice x373A x373N x373C)) →
  ∃ (x39A : Option Addr), ∃ (x39N : Nat), ∃ (x39C : Nat), w7.cell? (⟨w5.heap.size, 3, none⟩ : Addr) = some (.slice x39A x39N x39C) ∧
  (decide (((x39N : Nat) : Int) > (40 : Int)) = true →
  R (.bool true) w7) ∧
  (decide (((x39N : Nat) : Int) > (40 : Int)) = false →
  ∃ J_1 : World → Prop, (∃ (x43 : Int), w7.cell? (⟨w5.heap.size, 0, none⟩ : Addr) = some (.int .i64 x43) ∧
  ((x43 == (4 : Int)) = true →
  ((x43 == (4 : Int)) = true →
  ∃ vS : World → Prop, ∀ w8 : World, w8 = w7.drew → vS w8 ∧
  ∃ (x66 : Int), (∀ w9, vS w9 → w9.cell? (⟨w5.heap.size, 2, none⟩ : Addr) = some (.int .i64 x66)) ∧
  ∃ (x68A : Option Addr), ∃ (x68N : Nat), ∃ (x68C : Nat), (∀ w10, vS w10 → w10.cell? (⟨w5.heap.size, 3, none⟩ : Addr) = some (.slice x68A x68N x68C)) ∧
  ∃ (x72 : Int), (∀ w11, vS w11 → w11.cell? (⟨w5.heap.size, 2, none⟩ : Addr) = some (.int .i64 x72)) ∧
  ∃ (x74A : Option Addr), ∃ (x74N : Nat), ∃ (x74C : Nat), (∀ w12, vS w12 → w12.cell? (⟨w5.heap.size, 3, none⟩ : Addr) = some (.slice x74A x74N x74C)) ∧
  Calls Try.prog 37 #[(.pointer x20), (.int .i64 x66), (.slice x68A x68N x68C)] w8 (Ret fun v_3 w13 => ∃ (x69A : Option Addr), ∃ (x69N : Nat), ∃ (x69C : Nat), v_3 = (.slice x69A x69N x69C) ∧
  vS w13 ∧
  Calls Try.prog 41 #[(.pointer (some (⟨w3.heap.size, 0, none⟩ : Addr))), (.int .i64 x72), (.slice x74A x74N x74C)] w13 (Ret fun v_4 w14 => ∃ (x75A : Option Addr), ∃ (x75N : Nat), ∃ (x75C : Nat), v_4 = (.slice x75A x75N x75C) ∧
  vS w14 ∧
  Calls Try.prog 38 #[(.slice x69A x69N x69C), (.slice x75A x75N x75C)] w14 (Ret fun v_5 w15 => ∃ (x76 : Bool), v_5 = (.bool x76) ∧
  vS w15 ∧
  ((!x76) = true →
  R (.bool false) w15) ∧
  ((!x76) = false →
  J_1 w15))))) ∧
  ((x43 == (4 : Int)) = false →
  ((x43 == (6 : Int)) = true →
  Calls Try.prog 42 #[(.pointer x20)] w7 (Ret fun v_6 w16 => ∃ (x81 : Bool), v_6 = (.bool x81) ∧
  Calls Try.prog 43 #[(.pointer (some (⟨w3.heap.size, 0, none⟩ : Addr)))] w16 (Ret fun v_7 w17 => ∃ (x83 : Bool), v_7 = (.bool x83) ∧
  ((!(x81 == x83)) = true →
  R (.bool false) w17) ∧
  ((!(x81 == x83)) = false →
  J_1 w17)))) ∧
  ((x43 == (6 : Int)) = false →
  ((x43 == (7 : Int)) = true →
  ∃ vS_1 : World → Prop, ∀ w18 : World, w18 = w7.drew → vS_1 w18 ∧
  ∃ (x89 : Int), (∀ w19, vS_1 w19 → w19.cell? (⟨w5.heap.size, 2, none⟩ : Addr) = some (.int .i64 x89)) ∧
  ∃ (x93 : Int), (∀ w20, vS_1 w20 → w20.cell? (⟨w5.heap.size, 2, none⟩ : Addr) = some (.int .i64 x93)) ∧
  Calls Try.prog 40 #[(.pointer x20), (.int .i64 x89)] w18 (Ret fun v_8 w21 => ∃ (x90 : Int), v_8 = (.int .i64 x90) ∧
  vS_1 w21 ∧
  Calls Try.prog 44 #[(.pointer (some (⟨w3.heap.size, 0, none⟩ : Addr))), (.int .i64 x93)] w21 (Ret fun v_9 w22 => ∃ (x94 : Int), v_9 = (.int .i64 x94) ∧
  vS_1 w22 ∧
  ((x90 != x94) = true →
  R (.bool false) w22) ∧
  ((x90 != x94) = false →
  J_1 w22)))) ∧
  ((x43 == (7 : Int)) = false →
  ((x43 == (8 : Int)) = true →
  ∃ vI_1 : Int → Int → Nat → World → Prop, (∃ vk_5 : Nat, vI_1 0 0 vk_5 w7) ∧
  ∀ (jk : Nat → Value) (mine : Int) (vk_6 : Int), ∀ (vk_3 : Nat) (w23 : World), vI_1 mine vk_6 vk_3 w23 →
  ∃ (x102A : Option Addr), ∃ (x102N : Nat), ∃ (x102C : Nat), w23.cell? (⟨w3.heap.size, 1, none⟩ : Addr) = some (.slice x102A x102N x102C) ∧
  (decide (vk_6 < ((x102N : Nat) : Int)) = true →
  ∃ vS_2 : World → Prop, ∀ w24 : World, w24 = w23.drew → vS_2 w24 ∧
  ∃ (x110A : Option Addr), ∃ (x110N : Nat), ∃ (x110C : Nat), (∀ w25, vS_2 w25 → w25.cell? (⟨w3.heap.size, 1, none⟩ : Addr) = some (.slice x110A x110N x110C)) ∧
  (0 ≤ vk_6 ∧ vk_6 < ((x110N : Nat) : Int)) ∧ someV x110A fun p_1 =>
  ∃ (x114 : Int), (∀ w26, vS_2 w26 → w26.cell? ((p_1.add (vk_6.toNat * 3)).add 2) = some (.int .i64 x114)) ∧
  ∃ (x116 : Int), (∀ w27, vS_2 w27 → w27.cell? (⟨w5.heap.size, 1, none⟩ : Addr) = some (.int .i64 x116)) ∧
  ((x114 == x116) = true →
  ∃ vk_4 : Nat, vk_4 < vk_3 ∧ vI_1 (IntKind.i64.wrap (mine + 1)) (IntKind.i64.wrap (vk_6 + 1)) vk_4 w24) ∧
  ((x114 == x116) = false →
  ∃ vk_4 : Nat, vk_4 < vk_3 ∧ vI_1 mine (IntKind.i64.wrap (vk_6 + 1)) vk_4 w24)) ∧
  (decide (vk_6 < ((x102N : Nat) : Int)) = false →
  ∃ vS_3 : World → Prop, ∀ w28 : World, w28 = w23.drew → vS_3 w28 ∧
  ∃ (x122 : Int), (∀ w29, vS_3 w29 → w29.cell? (⟨w5.heap.size, 1, none⟩ : Addr) = some (.int .i64 x122)) ∧
  Calls Try.prog 27 #[(.pointer x16_1), (.int .i64 x122)] w28 (Ret fun v_10 w30 => ∃ (x123 : Bool), v_10 = (.bool x123) ∧
  vS_3 w30 ∧
  (x123 = true →
  someV x16_1 fun p_2 =>
  ∃ (x130 : Int), (∀ w31, vS_3 w31 → w31.cell? (⟨w5.heap.size, 1, none⟩ : Addr) = some (.int .i64 x130)) ∧
  ∃ (x128A : Option Addr), ∃ (x128N : Nat), ∃ (x128C : Nat), w30.cell? p_2 = some (.slice x128A x128N x128C) ∧
  vS_3 w30 ∧
  (0 ≤ x130 ∧ x130 < ((x128N : Nat) : Int)) ∧ someV x128A fun p_3 =>
  ∃ (x133 : Int), w30.cell? ((p_3.add (x130.toNat * 3)).add 1) = some (.int .i64 x133) ∧
  vS_3 w30 ∧
  (decide (x133 > mine) = true →
  ∃ (x140 : Int), (∀ w32, vS_3 w32 → w32.cell? (⟨w5.heap.size, 1, none⟩ : Addr) = some (.int .i64 x140)) ∧
  ∃ (x145 : Int), (∀ w33, vS_3 w33 → w33.cell? (⟨w5.heap.size, 1, none⟩ : Addr) = some (.int .i64 x145)) ∧
  (∀ w34 : World, w34 = w30.alloc (.cells #[(.int .i64 x140)] 3 (0, 0)) →
  vS_3 w34 ∧
  (Calls Try.prog 14 #[(.pointer x16_0), (.slice (some (⟨w30.heap.size, 0, none⟩ : Addr)) 1 1)] w34 (Ret fun v_11 w35 => ∃ (x142 : Int), v_11 = (.int .i64 x142) ∧
  vS_3 w35 ∧
  ∀ w36 : World, w36 = w35.alloc (.cells #[(.int .i64 x145)] 3 (0, 0)) →
  vS_3 w36 ∧
  Calls Try.prog 24 #[(.pointer x16_1), (.slice (some (⟨w35.heap.size, 0, none⟩ : Addr)) 1 1), (.int .i64 (-1))] w36 (Ret fun v_12 w37 => ∃ (x147 : Int), v_12 = (.int .i64 x147) ∧
  vS_3 w37 ∧
  ((x142 != x147) = true →
  R (.bool false) w37) ∧
  ((x142 != x147) = false →
  J_1 w37)))) ∧ (∀ w38 : World, w38 = w34.alloc (.cells #[(.int .i64 x145)] 3 (0, 0)) →
  vS_3 w38 ∧
  Calls Try.prog 14 #[(.pointer x16_0), (.slice (some (⟨w30.heap.size, 0, none⟩ : Addr)) 1 1)] w38 (Ret fun v_13 w39 => ∃ (x142_1 : Int), v_13 = (.int .i64 x142_1) ∧
  vS_3 w39 ∧
  Calls Try.prog 24 #[(.pointer x16_1), (.slice (some (⟨w34.heap.size, 0, none⟩ : Addr)) 1 1), (.int .i64 (-1))] w39 (Ret fun v_14 w40 => ∃ (x147_1 : Int), v_14 = (.int .i64 x147_1) ∧
  vS_3 w40 ∧
  ((x142_1 != x147_1) = true →
  R (.bool false) w40) ∧
  ((x142_1 != x147_1) = false →
  J_1 w40)))) ∧ True) ∧ (∀ w41 : World, w41 = w30.alloc (.cells #[(.int .i64 x145)] 3 (0, 0)) →
  vS_3 w41 ∧
  ∀ w42 : World, w42 = w41.alloc (.cells #[(.int .i64 x140)] 3 (0, 0)) →
  vS_3 w42 ∧
  Calls Try.prog 14 #[(.pointer x16_0), (.slice (some (⟨w41.heap.size, 0, none⟩ : Addr)) 1 1)] w42 (Ret fun v_15 w43 => ∃ (x142_2 : Int), v_15 = (.int .i64 x142_2) ∧
  vS_3 w43 ∧
  Calls Try.prog 24 #[(.pointer x16_1), (.slice (some (⟨w30.heap.size, 0, none⟩ : Addr)) 1 1), (.int .i64 (-1))] w43 (Ret fun v_16 w44 => ∃ (x147_2 : Int), v_16 = (.int .i64 x147_2) ∧
  vS_3 w44 ∧
  ((x142_2 != x147_2) = true →
  R (.bool false) w44) ∧
  ((x142_2 != x147_2) = false →
  J_1 w44)))) ∧ True) ∧
  (decide (x133 > mine) = false →
  J_1 w30)) ∧
  (x123 = false →
  J_1 w30)))) ∧
  ((x43 == (8 : Int)) = false →
  ∃ vS_4 : World → Prop, ∀ w45 : World, w45 = w7.drew → vS_4 w45 ∧
  ∃ (x46 : Int), (∀ w46, vS_4 w46 → w46.cell? (⟨w5.heap.size, 1, none⟩ : Addr) = some (.int .i64 x46)) ∧
  ∃ (x48 : Int), (∀ w47, vS_4 w47 → w47.cell? (⟨w5.heap.size, 2, none⟩ : Addr) = some (.int .i64 x48)) ∧
  ∃ (x50A : Option Addr), ∃ (x50N : Nat), ∃ (x50C : Nat), (∀ w48, vS_4 w48 → w48.cell? (⟨w5.heap.size, 3, none⟩ : Addr) = some (.slice x50A x50N x50C)) ∧
  ∃ (x54 : Int), (∀ w49, vS_4 w49 → w49.cell? (⟨w5.heap.size, 1, none⟩ : Addr) = some (.int .i64 x54)) ∧
  ∃ (x56 : Int), (∀ w50, vS_4 w50 → w50.cell? (⟨w5.heap.size, 2, none⟩ : Addr) = some (.int .i64 x56)) ∧
  ∃ (x58A : Option Addr), ∃ (x58N : Nat), ∃ (x58C : Nat), (∀ w51, vS_4 w51 → w51.cell? (⟨w5.heap.size, 3, none⟩ : Addr) = some (.slice x58A x58N x58C)) ∧
  Calls Try.prog 36 #[(.pointer x20), (.int .i64 x46), (.int .i64 x48), (.slice x50A x50N x50C)] w45 (Ret fun v_17 w52 => ∃ (x51 : Int), v_17 = (.int .i64 x51) ∧
  vS_4 w52 ∧
  Calls Try.prog 45 #[(.pointer (some (⟨w3.heap.size, 0, none⟩ : Addr))), (.int .i64 x54), (.int .i64 x56), (.slice x58A x58N x58C)] w52 (Ret fun v_18 w53 => ∃ (x59 : Int), v_18 = (.int .i64 x59) ∧
  vS_4 w53 ∧
  ((x51 != x59) = true →
  R (.bool false) w53) ∧
  ((x51 != x59) = false →
  J_1 w53)))))))) ∧
  ((x43 == (4 : Int)) = false →
  ((x43 == (5 : Int)) = true →
  ∃ vS_5 : World → Prop, ∀ w54 : World, w54 = w7.drew → vS_5 w54 ∧
  ∃ (x66_1 : Int), (∀ w55, vS_5 w55 → w55.cell? (⟨w5.heap.size, 2, none⟩ : Addr) = some (.int .i64 x66_1)) ∧
  ∃ (x68A_1 : Option Addr), ∃ (x68N_1 : Nat), ∃ (x68C_1 : Nat), (∀ w56, vS_5 w56 → w56.cell? (⟨w5.heap.size, 3, none⟩ : Addr) = some (.slice x68A_1 x68N_1 x68C_1)) ∧
  ∃ (x72_1 : Int), (∀ w57, vS_5 w57 → w57.cell? (⟨w5.heap.size, 2, none⟩ : Addr) = some (.int .i64 x72_1)) ∧
  ∃ (x74A_1 : Option Addr), ∃ (x74N_1 : Nat), ∃ (x74C_1 : Nat), (∀ w58, vS_5 w58 → w58.cell? (⟨w5.heap.size, 3, none⟩ : Addr) = some (.slice x74A_1 x74N_1 x74C_1)) ∧
  Calls Try.prog 37 #[(.pointer x20), (.int .i64 x66_1), (.slice x68A_1 x68N_1 x68C_1)] w54 (Ret fun v_19 w59 => ∃ (x69A_1 : Option Addr), ∃ (x69N_1 : Nat), ∃ (x69C_1 : Nat), v_19 = (.slice x69A_1 x69N_1 x69C_1) ∧
  vS_5 w59 ∧
  Calls Try.prog 41 #[(.pointer (some (⟨w3.heap.size, 0, none⟩ : Addr))), (.int .i64 x72_1), (.slice x74A_1 x74N_1 x74C_1)] w59 (Ret fun v_20 w60 => ∃ (x75A_1 : Option Addr), ∃ (x75N_1 : Nat), ∃ (x75C_1 : Nat), v_20 = (.slice x75A_1 x75N_1 x75C_1) ∧
  vS_5 w60 ∧
  Calls Try.prog 38 #[(.slice x69A_1 x69N_1 x69C_1), (.slice x75A_1 x75N_1 x75C_1)] w60 (Ret fun v_21 w61 => ∃ (x76_1 : Bool), v_21 = (.bool x76_1) ∧
  vS_5 w61 ∧
  ((!x76_1) = true →
  R (.bool false) w61) ∧
  ((!x76_1) = false →
  J_1 w61))))) ∧
  ((x43 == (5 : Int)) = false →
  ((x43 == (6 : Int)) = true →
  Calls Try.prog 42 #[(.pointer x20)] w7 (Ret fun v_22 w62 => ∃ (x81_1 : Bool), v_22 = (.bool x81_1) ∧
  Calls Try.prog 43 #[(.pointer (some (⟨w3.heap.size, 0, none⟩ : Addr)))] w62 (Ret fun v_23 w63 => ∃ (x83_1 : Bool), v_23 = (.bool x83_1) ∧
  ((!(x81_1 == x83_1)) = true →
  R (.bool false) w63) ∧
  ((!(x81_1 == x83_1)) = false →
  J_1 w63)))) ∧
  ((x43 == (6 : Int)) = false →
  ((x43 == (7 : Int)) = true →
  ∃ vS_6 : World → Prop, ∀ w64 : World, w64 = w7.drew → vS_6 w64 ∧
  ∃ (x89_1 : Int), (∀ w65, vS_6 w65 → w65.cell? (⟨w5.heap.size, 2, none⟩ : Addr) = some (.int .i64 x89_1)) ∧
  ∃ (x93_1 : Int), (∀ w66, vS_6 w66 → w66.cell? (⟨w5.heap.size, 2, none⟩ : Addr) = some (.int .i64 x93_1)) ∧
  Calls Try.prog 40 #[(.pointer x20), (.int .i64 x89_1)] w64 (Ret fun v_24 w67 => ∃ (x90_1 : Int), v_24 = (.int .i64 x90_1) ∧
  vS_6 w67 ∧
  Calls Try.prog 44 #[(.pointer (some (⟨w3.heap.size, 0, none⟩ : Addr))), (.int .i64 x93_1)] w67 (Ret fun v_25 w68 => ∃ (x94_1 : Int), v_25 = (.int .i64 x94_1) ∧
  vS_6 w68 ∧
  ((x90_1 != x94_1) = true →
  R (.bool false) w68) ∧
  ((x90_1 != x94_1) = false →
  J_1 w68)))) ∧
  ((x43 == (7 : Int)) = false →
  ((x43 == (8 : Int)) = true →
  ∃ vI_2 : Int → Int → Nat → World → Prop, (∃ vk_9 : Nat, vI_2 0 0 vk_9 w7) ∧
  ∀ (jk : Nat → Value) (mine_1 : Int) (vk_10 : Int), ∀ (vk_7 : Nat) (w69 : World), vI_2 mine_1 vk_10 vk_7 w69 →
  ∃ (x102A_1 : Option Addr), ∃ (x102N_1 : Nat), ∃ (x102C_1 : Nat), w69.cell? (⟨w3.heap.size, 1, none⟩ : Addr) = some (.slice x102A_1 x102N_1 x102C_1) ∧
  (decide (vk_10 < ((x102N_1 : Nat) : Int)) = true →
  ∃ vS_7 : World → Prop, ∀ w70 : World, w70 = w69.drew → vS_7 w70 ∧
  ∃ (x110A_1 : Option Addr), ∃ (x110N_1 : Nat), ∃ (x110C_1 : Nat), (∀ w71, vS_7 w71 → w71.cell? (⟨w3.heap.size, 1, none⟩ : Addr) = some (.slice x110A_1 x110N_1 x110C_1)) ∧
  (0 ≤ vk_10 ∧ vk_10 < ((x110N_1 : Nat) : Int)) ∧ someV x110A_1 fun p_4 =>
  ∃ (x114_1 : Int), (∀ w72, vS_7 w72 → w72.cell? ((p_4.add (vk_10.toNat * 3)).add 2) = some (.int .i64 x114_1)) ∧
  ∃ (x116_1 : Int), (∀ w73, vS_7 w73 → w73.cell? (⟨w5.heap.size, 1, none⟩ : Addr) = some (.int .i64 x116_1)) ∧
  ((x114_1 == x116_1) = true →
  ∃ vk_8 : Nat, vk_8 < vk_7 ∧ vI_2 (IntKind.i64.wrap (mine_1 + 1)) (IntKind.i64.wrap (vk_10 + 1)) vk_8 w70) ∧
  ((x114_1 == x116_1) = false →
  ∃ vk_8 : Nat, vk_8 < vk_7 ∧ vI_2 mine_1 (IntKind.i64.wrap (vk_10 + 1)) vk_8 w70)) ∧
  (decide (vk_10 < ((x102N_1 : Nat) : Int)) = false →
  ∃ vS_8 : World → Prop, ∀ w74 : World, w74 = w69.drew → vS_8 w74 ∧
  ∃ (x122_1 : Int), (∀ w75, vS_8 w75 → w75.cell? (⟨w5.heap.size, 1, none⟩ : Addr) = some (.int .i64 x122_1)) ∧
  Calls Try.prog 27 #[(.pointer x16_1), (.int .i64 x122_1)] w74 (Ret fun v_26 w76 => ∃ (x123_1 : Bool), v_26 = (.bool x123_1) ∧
  vS_8 w76 ∧
  (x123_1 = true →
  someV x16_1 fun p_5 =>
  ∃ (x130_1 : Int), (∀ w77, vS_8 w77 → w77.cell? (⟨w5.heap.size, 1, none⟩ : Addr) = some (.int .i64 x130_1)) ∧
  ∃ (x128A_1 : Option Addr), ∃ (x128N_1 : Nat), ∃ (x128C_1 : Nat), w76.cell? p_5 = some (.slice x128A_1 x128N_1 x128C_1) ∧
  vS_8 w76 ∧
  (0 ≤ x130_1 ∧ x130_1 < ((x128N_1 : Nat) : Int)) ∧ someV x128A_1 fun p_6 =>
  ∃ (x133_1 : Int), w76.cell? ((p_6.add (x130_1.toNat * 3)).add 1) = some (.int .i64 x133_1) ∧
  vS_8 w76 ∧
  (decide (x133_1 > mine_1) = true →
  ∃ (x140_1 : Int), (∀ w78, vS_8 w78 → w78.cell? (⟨w5.heap.size, 1, none⟩ : Addr) = some (.int .i64 x140_1)) ∧
  ∃ (x145_1 : Int), (∀ w79, vS_8 w79 → w79.cell? (⟨w5.heap.size, 1, none⟩ : Addr) = some (.int .i64 x145_1)) ∧
  (∀ w80 : World, w80 = w76.alloc (.cells #[(.int .i64 x140_1)] 3 (0, 0)) →
  vS_8 w80 ∧
  (Calls Try.prog 14 #[(.pointer x16_0), (.slice (some (⟨w76.heap.size, 0, none⟩ : Addr)) 1 1)] w80 (Ret fun v_27 w81 => ∃ (x142_3 : Int), v_27 = (.int .i64 x142_3) ∧
  vS_8 w81 ∧
  ∀ w82 : World, w82 = w81.alloc (.cells #[(.int .i64 x145_1)] 3 (0, 0)) →
  vS_8 w82 ∧
  Calls Try.prog 24 #[(.pointer x16_1), (.slice (some (⟨w81.heap.size, 0, none⟩ : Addr)) 1 1), (.int .i64 (-1))] w82 (Ret fun v_28 w83 => ∃ (x147_3 : Int), v_28 = (.int .i64 x147_3) ∧
  vS_8 w83 ∧
  ((x142_3 != x147_3) = true →
  R (.bool false) w83) ∧
  ((x142_3 != x147_3) = false →
  J_1 w83)))) ∧ (∀ w84 : World, w84 = w80.alloc (.cells #[(.int .i64 x145_1)] 3 (0, 0)) →
  vS_8 w84 ∧
  Calls Try.prog 14 #[(.pointer x16_0), (.slice (some (⟨w76.heap.size, 0, none⟩ : Addr)) 1 1)] w84 (Ret fun v_29 w85 => ∃ (x142_4 : Int), v_29 = (.int .i64 x142_4) ∧
  vS_8 w85 ∧
  Calls Try.prog 24 #[(.pointer x16_1), (.slice (some (⟨w80.heap.size, 0, none⟩ : Addr)) 1 1), (.int .i64 (-1))] w85 (Ret fun v_30 w86 => ∃ (x147_4 : Int), v_30 = (.int .i64 x147_4) ∧
  vS_8 w86 ∧
  ((x142_4 != x147_4) = true →
  R (.bool false) w86) ∧
  ((x142_4 != x147_4) = false →
  J_1 w86)))) ∧ True) ∧ (∀ w87 : World, w87 = w76.alloc (.cells #[(.int .i64 x145_1)] 3 (0, 0)) →
  vS_8 w87 ∧
  ∀ w88 : World, w88 = w87.alloc (.cells #[(.int .i64 x140_1)] 3 (0, 0)) →
  vS_8 w88 ∧
  Calls Try.prog 14 #[(.pointer x16_0), (.slice (some (⟨w87.heap.size, 0, none⟩ : Addr)) 1 1)] w88 (Ret fun v_31 w89 => ∃ (x142_5 : Int), v_31 = (.int .i64 x142_5) ∧
  vS_8 w89 ∧
  Calls Try.prog 24 #[(.pointer x16_1), (.slice (some (⟨w76.heap.size, 0, none⟩ : Addr)) 1 1), (.int .i64 (-1))] w89 (Ret fun v_32 w90 => ∃ (x147_5 : Int), v_32 = (.int .i64 x147_5) ∧
  vS_8 w90 ∧
  ((x142_5 != x147_5) = true →
  R (.bool false) w90) ∧
  ((x142_5 != x147_5) = false →
  J_1 w90)))) ∧ True) ∧
  (decide (x133_1 > mine_1) = false →
  J_1 w76)) ∧
  (x123_1 = false →
  J_1 w76)))) ∧
  ((x43 == (8 : Int)) = false →
  ∃ vS_9 : World → Prop, ∀ w91 : World, w91 = w7.drew → vS_9 w91 ∧
  ∃ (x46_1 : Int), (∀ w92, vS_9 w92 → w92.cell? (⟨w5.heap.size, 1, none⟩ : Addr) = some (.int .i64 x46_1)) ∧
  ∃ (x48_1 : Int), (∀ w93, vS_9 w93 → w93.cell? (⟨w5.heap.size, 2, none⟩ : Addr) = some (.int .i64 x48_1)) ∧
  ∃ (x50A_1 : Option Addr), ∃ (x50N_1 : Nat), ∃ (x50C_1 : Nat), (∀ w94, vS_9 w94 → w94.cell? (⟨w5.heap.size, 3, none⟩ : Addr) = some (.slice x50A_1 x50N_1 x50C_1)) ∧
  ∃ (x54_1 : Int), (∀ w95, vS_9 w95 → w95.cell? (⟨w5.heap.size, 1, none⟩ : Addr) = some (.int .i64 x54_1)) ∧
  ∃ (x56_1 : Int), (∀ w96, vS_9 w96 → w96.cell? (⟨w5.heap.size, 2, none⟩ : Addr) = some (.int .i64 x56_1)) ∧
  ∃ (x58A_1 : Option Addr), ∃ (x58N_1 : Nat), ∃ (x58C_1 : Nat), (∀ w97, vS_9 w97 → w97.cell? (⟨w5.heap.size, 3, none⟩ : Addr) = some (.slice x58A_1 x58N_1 x58C_1)) ∧
  Calls Try.prog 36 #[(.pointer x20), (.int .i64 x46_1), (.int .i64 x48_1), (.slice x50A_1 x50N_1 x50C_1)] w91 (Ret fun v_33 w98 => ∃ (x51_1 : Int), v_33 = (.int .i64 x51_1) ∧
  vS_9 w98 ∧
  Calls Try.prog 45 #[(.pointer (some (⟨w3.heap.size, 0, none⟩ : Addr))), (.int .i64 x54_1), (.int .i64 x56_1), (.slice x58A_1 x58N_1 x58C_1)] w98 (Ret fun v_34 w99 => ∃ (x59_1 : Int), v_34 = (.int .i64 x59_1) ∧
  vS_9 w99 ∧
  ((x51_1 != x59_1) = true →
  R (.bool false) w99) ∧
  ((x51_1 != x59_1) = false →
  J_1 w99))))))))) ∧
  ∀ (jk : Nat → Value), ∀ w100 : World, J_1 w100 →
  ∃ vS_10 : World → Prop, ∀ w101 : World, w101 = w100.drew → vS_10 w101 ∧
  ∃ (x155A : Option Addr), ∃ (x155N : Nat), ∃ (x155C : Nat), (∀ w102, vS_10 w102 → w102.cell? (⟨w3.heap.size, 1, none⟩ : Addr) = some (.slice x155A x155N x155C)) ∧
  Calls Try.prog 39 #[(.pointer x20)] w101 (Ret fun v_35 w103 => ∃ (x151 : Int), v_35 = (.int .i64 x151) ∧
  vS_10 w103 ∧
  ((x151 != ((x155N : Nat) : Int)) = true →
  R (.bool false) w103) ∧
  ((x151 != ((x155N : Nat) : Int)) = false →
  ∃ (x161 : Int), (∀ w104, vS_10 w104 → w104.cell? (⟨w5.heap.size, 2, none⟩ : Addr) = some (.int .i64 x161)) ∧
  ∃ (x163A : Option Addr), ∃ (x163N : Nat), ∃ (x163C : Nat), (∀ w105, vS_10 w105 → w105.cell? (⟨w5.heap.size, 3, none⟩ : Addr) = some (.slice x163A x163N x163C)) ∧
  ∃ (x167 : Int), (∀ w106, vS_10 w106 → w106.cell? (⟨w5.heap.size, 2, none⟩ : Addr) = some (.int .i64 x167)) ∧
  ∃ (x169A : Option Addr), ∃ (x169N : Nat), ∃ (x169C : Nat), (∀ w107, vS_10 w107 → w107.cell? (⟨w5.heap.size, 3, none⟩ : Addr) = some (.slice x169A x169N x169C)) ∧
  Calls Try.prog 46 #[(.pointer x20), (.int .i64 x161), (.slice x163A x163N x163C)] w103 (Ret fun v_36 w108 => ∃ (x164 : Bool), v_36 = (.bool x164) ∧
  vS_10 w108 ∧
  Calls Try.prog 47 #[(.pointer (some (⟨w3.heap.size, 0, none⟩ : Addr))), (.int .i64 x167), (.slice x169A x169N x169C)] w108 (Ret fun v_37 w109 => ∃ (x170 : Int), v_37 = (.int .i64 x170) ∧
  vS_10 w109 ∧
  ((!(x164 == (decide (x170 ≥ (0 : Int))))) = true →
  R (.bool false) w109) ∧
  ((!(x164 == (decide (x170 ≥ (0 : Int))))) = false →
  Calls Try.prog 19 #[(.pointer x16_0)] w109 (Ret fun v_38 w110 => ∃ (x176 : Int), v_38 = (.int .i64 x176) ∧
  vS_10 w110 ∧
  Calls Try.prog 30 #[(.pointer x16_1)] w110 (Ret fun v_39 w111 => ∃ (x178 : Int), v_39 = (.int .i64 x178) ∧
  vS_10 w111 ∧
  ((x176 != x178) = true →
  R (.bool false) w111) ∧
  ((x176 != x178) = false →
  ∃ vI_3 : Int → Nat → World → Prop, (∃ vk_13 : Nat, vI_3 0 vk_13 w111) ∧
  ∀ (jk : Nat → Value) (id : Int), ∀ (vk_11 : Nat) (w112 : World), vI_3 id vk_11 w112 →
  (decide (id < (10 : Int)) = true →
  ∃ vS_11 : World → Prop, ∀ w113 : World, w113 = w112.drew → vS_11 w113 ∧
  someV x16_1 fun p_7 =>
  ∃ (x191A : Option Addr), ∃ (x191N : Nat), ∃ (x191C : Nat), (∀ w114, vS_11 w114 → w114.cell? p_7 = some (.slice x191A x191N x191C)) ∧
  (0 ≤ id ∧ id < ((x191N : Nat) : Int)) ∧ someV x191A fun p_8 =>
  ∃ (x195 : Int), (∀ w115, vS_11 w115 → w115.cell? ((p_8.add (id.toNat * 3)).add 1) = some (.int .i64 x195)) ∧
  Calls Try.prog 20 #[(.pointer x16_0), (.int .i64 id)] w113 (Ret fun v_40 w116 => ∃ (x187 : Int), v_40 = (.int .i64 x187) ∧
  vS_11 w116 ∧
  ((x187 != x195) = true →
  R (.bool false) w116) ∧
  ((x187 != x195) = false →
  ∃ vk_12 : Nat, vk_12 < vk_11 ∧ vI_3 (IntKind.i64.wrap (id + 1)) vk_12 w116))) ∧
  (decide (id < (10 : Int)) = false →
  ∃ vk_1 : Nat, vk_1 < vk ∧ vI (IntKind.i64.wrap (i + 1)) vk_1 w112))))))))))) ∧
  (decide (i < (50 : Int)) = false →
  J w5)) ∧
  (decide (i < ((actsN : Nat) : Int)) = false →
  J w5)) ∧
  ∀ (jk : Nat → Value), ∀ w117 : World, J w117 →
  Calls Try.prog 36 #[(.pointer none), (.int .i64 0), (.int .i64 1), (.slice none 0 0)] w117 (Ret fun v_41 w118 => ∃ (x198 : Int), v_41 = (.int .i64 x198) ∧
  ((x198 == (2 : Int)) = true →
  ∀ w119 : World, w119 = w118.alloc (.cells #[(.int .i64 1)] 3 (0, 0)) →
  Calls Try.prog 37 #[(.pointer none), (.int .i64 1), (.slice (some (⟨w118.heap.size, 0, none⟩ : Addr)) 1 1)] w119 (Ret fun v_42 w120 => ∃ (x203A : Option Addr), ∃ (x203N : Nat), ∃ (x203C : Nat), v_42 = (.slice x203A x203N x203C) ∧
  ((((x203N : Nat) : Int) == (0 : Int)) = true →
  Calls Try.prog 42 #[(.pointer none)] w120 (Ret fun v_43 w121 => ∃ (x209 : Bool), v_43 = (.bool x209) ∧
  ((!x209) = true →
  Calls Try.prog 40 #[(.pointer none), (.int .i64 1)] w121 (Ret fun v_44 w122 => ∃ (x214 : Int), v_44 = (.int .i64 x214) ∧
  Calls Try.prog 39 #[(.pointer none)] w122 (Ret fun v_45 w123 => ∃ (x216 : Int), v_45 = (.int .i64 x216) ∧
  (((IntKind.i64.wrap (x214 + x216)) == (0 : Int)) = true →
  ∀ w124 : World, w124 = w123.alloc (.cells #[(.int .i64 1)] 3 (0, 0)) →
  Calls Try.prog 46 #[(.pointer none), (.int .i64 1), (.slice (some (⟨w123.heap.size, 0, none⟩ : Addr)) 1 1)] w124 (Ret fun v_46 w125 => ∃ (x223 : Bool), v_46 = (.bool x223) ∧
  R (.bool (!x223)) w125)) ∧
  (((IntKind.i64.wrap (x214 + x216)) == (0 : Int)) = false →
  R (.bool false) w123)))) ∧
  ((!x209) = false →
  R (.bool false) w121))) ∧
  ((((x203N : Nat) : Int) == (0 : Int)) = false →
  R (.bool false) w120))) ∧
  ((x198 == (2 : Int)) = false →
  R (.bool false) w118))))))
theorem coadjutorlaw23_PrefixExact.vc_eq (actsA : Option Addr) (actsN : Nat) (actsC : Nat) (w : World) (R : Value → World → Prop) : fnV Try.prog Try.f7 (.c .nil (.cut 3 [(2, none), (7, none), (8, none), (9, none), (10, none), (11, none), (24, none), (25, none), (26, none), (27, none), (28, none), (29, none), (30, none), (31, none), (32, none), (33, none), (34, none), (35, none), (36, none), (37, none), (38, none), (39, none), (40, none), (41, none), (42, none), (43, none), (44, none), (45, none), (46, none), (47, none), (48, none), (49, none), (50, none), (51, none), (52, none), (53, none), (54, none), (55, none), (56, none), (57, none), (58, none), (59, none), (60, none), (61, none), (62, none), (63, none), (64, none), (65, none), (66, none), (67, none), (68, none), (69, none), (70, none), (71, none), (72, none), (73, none), (74, none), (75, none), (76, none), (77, none), (78, none), (79, none), (80, none), (81, none), (82, none), (83, none), (84, none), (85, none), (86, none), (87, none), (88, none), (89, none), (90, none), (91, none), (92, none), (93, none), (94, none), (95, none), (96, none), (97, none), (98, none), (99, none), (100, none), (101, none), (102, none), (103, none), (104, none), (105, none), (106, none), (107, none), (108, none), (109, none), (110, none), (111, none), (112, none), (113, none), (114, none), (115, none), (116, none), (117, none), (118, none), (119, none), (120, none), (121, none), (122, none), (123, none), (124, none), (125, none), (126, none), (127, none), (128, none), (129, none), (130, none), (131, none), (132, none), (133, none), (134, none), (135, none), (136, none), (137, none), (138, none), (139, none), (140, none), (141, none), (142, none), (143, none), (144, none), (145, none), (146, none), (147, none), (148, none), (149, none), (150, none), (151, none), (152, none), (153, none), (154, none), (155, none), (156, none), (157, none), (158, none), (159, none), (160, none), (161, none), (162, none), (163, none), (164, none), (165, none), (166, none), (167, none), (168, none), (169, none), (170, none), (171, none), (172, none), (173, none), (174, none), (175, none), (176, none), (177, none), (178, none), (179, none), (180, none), (181, none), (182, none), (183, none), (184, none), (185, none), (186, none), (187, none), (188, none), (189, none), (190, none), (191, none), (192, none), (193, none), (194, none), (195, none), (196, none)] (.lp [(2, none), (7, some (.int .i64)), (8, none), (9, none), (10, none), (11, none), (24, none), (25, none), (26, none), (27, none), (28, none), (29, none), (30, none), (31, none), (32, none), (33, none), (34, none), (35, none), (36, none), (37, none), (38, none), (39, none), (40, none), (41, none), (42, none), (43, none), (44, none), (45, none), (46, none), (47, none), (48, none), (49, none), (50, none), (51, none), (52, none), (53, none), (54, none), (55, none), (56, none), (57, none), (58, none), (59, none), (60, none), (61, none), (62, none), (63, none), (64, none), (65, none), (66, none), (67, none), (68, none), (69, none), (70, none), (71, none), (72, none), (73, none), (74, none), (75, none), (76, none), (77, none), (78, none), (79, none), (80, none), (81, none), (82, none), (83, none), (84, none), (85, none), (86, none), (87, none), (88, none), (89, none), (90, none), (91, none), (92, none), (93, none), (94, none), (95, none), (96, none), (97, none), (98, none), (99, none), (100, none), (101, none), (102, none), (103, none), (104, none), (105, none), (106, none), (107, none), (108, none), (109, none), (110, none), (111, none), (112, none), (113, none), (114, none), (115, none), (116, none), (117, none), (118, none), (119, none), (120, none), (121, none), (122, none), (123, none), (124, none), (125, none), (126, none), (127, none), (128, none), (129, none), (130, none), (131, none), (132, none), (133, none), (134, none), (135, none), (136, none), (137, none), (138, none), (139, none), (140, none), (141, none), (142, none), (143, none), (144, none), (145, none), (146, none), (147, none), (148, none), (149, none), (150, none), (151, none), (152, none), (153, none), (154, none), (155, none), (156, none), (157, none), (158, none), (159, none), (160, none), (161, none), (162, none), (163, none), (164, none), (165, none), (166, none), (167, none), (168, none), (169, none), (170, none), (171, none), (172, none), (173, none), (174, none), (175, none), (176, none), (177, none), (178, none), (179, none), (180, none), (181, none), (182, none), (183, none), (184, none), (185, none), (186, none), (187, none), (188, none), (189, none), (190, none), (191, none), (192, none), (193, none), (194, none), (195, none), (196, none)] (.at_ 7 4 (.c (.c .nil (.cut 0 [(2, none), (9, none), (10, none), (42, none), (43, none), (44, none), (45, none), (46, none), (47, none), (48, none), (49, none), (50, none), (51, none), (52, none), (53, none), (54, none), (55, none), (56, none), (57, none), (58, none), (59, none), (60, none), (61, none), (62, none), (63, none), (64, none), (65, none), (66, none), (67, none), (68, none), (69, none), (70, none), (71, none), (72, none), (73, none), (74, none), (75, none), (76, none), (77, none), (78, none), (79, none), (80, none), (81, none), (82, none), (83, none), (84, none), (85, none), (86, none), (87, none), (88, none), (89, none), (90, none), (91, none), (92, none), (93, none), (94, none), (95, none), (96, none), (97, none), (98, none), (99, none), (100, none), (101, none), (102, none), (103, none), (104, none), (105, none), (106, none), (107, none), (108, none), (109, none), (110, none), (111, none), (112, none), (113, none), (114, none), (115, none), (116, none), (117, none), (118, none), (119, none), (120, none), (121, none), (122, none), (123, none), (124, none), (125, none), (126, none), (127, none), (128, none), (129, none), (130, none), (131, none), (132, none), (133, none), (134, none), (135, none), (136, none), (137, none), (138, none), (139, none), (140, none), (141, none), (142, none), (143, none), (144, none), (145, none), (146, none), (147, none), (148, none), (149, none)] (.c (.c (.tk 0 (.tk 1 (.tk 2 (.tk 3 (.tk 4 (.tk 6 (.tk 7 (.tk 8 (.tk 9 (.tk 10 (.alt 5 (.alt 11 (.alt 12 (.tk 13 (.fin (.c .nil .nil))) .nil) .nil) .nil))))))))))) (.c (.c .nil .nil) (.c (.tk 0 (.tk 1 (.tk 2 (.tk 4 (.tk 5 (.tk 6 (.alt 3 (.alt 7 (.tk 8 (.fin (.c .nil .nil))) .nil) .nil))))))) (.c (.lp [(9, some (.int .i64)), (10, some (.int .i64)), (98, none), (99, none), (100, none), (101, none), (102, none), (103, none), (104, none), (105, none), (106, none), (107, none), (108, none), (109, none), (110, none), (111, none), (112, none), (113, none), (114, none), (115, none), (116, none), (117, none), (118, none), (119, none)] (.c (.tk 0 (.tk 1 (.tk 2 (.tk 3 (.tk 4 (.tk 5 (.tk 6 (.tk 7 (.tk 8 (.tk 9 (.tk 10 (.fin (.c .nil .nil))))))))))))) (.tk 0 (.tk 1 (.tk 2 (.alt 3 (.tks 4 (.tk 5 (.tk 6 (.tk 7 (.tk 9 (.tk 10 (.tk 14 (.alt 8 (.tk 11 (.tk 12 (.alt 13 (.tk 15 (.tk 16 (.tks 17 (.tk 18 (.tk 19 (.tk 20 (.tk 23 (.tk 24 (.tk 25 (.alt 21 (.alt 22 (.alt 26 (.alt 27 (.tk 28 (.tk 29 (.fin (.c .nil .nil)))) .nil) .nil) (.alt 26 (.alt 22 (.alt 27 (.tk 28 (.tk 29 (.fin (.c .nil .nil)))) .nil) .nil) .nil)) (.alt 26 (.alt 21 (.alt 22 (.alt 27 (.tk 28 (.tk 29 (.fin (.c .nil .nil)))) .nil) .nil) .nil) .nil)))))))) (.tk 18 (.tk 19 (.tk 20 (.tk 21 (.tk 22 (.tk 23 (.tk 24 (.tk 25 (.tk 26 (.tk 27 (.tk 28 (.tk 29 (.fin (.k .nil))))))))))))))))) .nil))) .nil))))))) (.tk 5 (.tk 6 (.tk 7 (.tk 8 (.tk 9 (.tk 10 (.tk 11 (.tk 12 (.tk 13 (.tk 14 (.tk 15 (.tk 16 (.tk 17 (.tk 18 (.tk 19 (.tk 20 (.tk 21 (.tk 22 (.tk 23 (.tk 24 (.tk 25 (.tk 26 (.tk 27 (.tk 28 (.tk 29 (.fin (.k .nil)))))))))))))))))))))))))))) .nil)))))) (.tk 0 (.tk 1 (.tk 2 (.tk 3 (.tk 4 (.tk 5 (.tk 6 (.tk 8 (.tk 9 (.tk 10 (.tk 11 (.tk 12 (.tk 13 (.tk 14 (.alt 7 (.alt 15 (.tk 16 (.fin (.c .nil .nil))) .nil) .nil))))))))))))))))))) (.c (.tk 0 (.tk 1 (.tk 2 (.tk 3 (.tk 4 (.tk 6 (.tk 7 (.tk 8 (.tk 9 (.tk 10 (.alt 5 (.alt 11 (.alt 12 (.tk 13 (.fin (.c .nil .nil))) .nil) .nil) .nil))))))))))) (.c (.c .nil .nil) (.c (.tk 0 (.tk 1 (.tk 2 (.tk 4 (.tk 5 (.tk 6 (.alt 3 (.alt 7 (.tk 8 (.fin (.c .nil .nil))) .nil) .nil))))))) (.c (.lp [(9, some (.int .i64)), (10, some (.int .i64)), (98, none), (99, none), (100, none), (101, none), (102, none), (103, none), (104, none), (105, none), (106, none), (107, none), (108, none), (109, none), (110, none), (111, none), (112, none), (113, none), (114, none), (115, none), (116, none), (117, none), (118, none), (119, none)] (.c (.tk 0 (.tk 1 (.tk 2 (.tk 3 (.tk 4 (.tk 5 (.tk 6 (.tk 7 (.tk 8 (.tk 9 (.tk 10 (.fin (.c .nil .nil))))))))))))) (.tk 0 (.tk 1 (.tk 2 (.alt 3 (.tks 4 (.tk 5 (.tk 6 (.tk 7 (.tk 9 (.tk 10 (.tk 14 (.alt 8 (.tk 11 (.tk 12 (.alt 13 (.tk 15 (.tk 16 (.tks 17 (.tk 18 (.tk 19 (.tk 20 (.tk 23 (.tk 24 (.tk 25 (.alt 21 (.alt 22 (.alt 26 (.alt 27 (.tk 28 (.tk 29 (.fin (.c .nil .nil)))) .nil) .nil) (.alt 26 (.alt 22 (.alt 27 (.tk 28 (.tk 29 (.fin (.c .nil .nil)))) .nil) .nil) .nil)) (.alt 26 (.alt 21 (.alt 22 (.alt 27 (.tk 28 (.tk 29 (.fin (.c .nil .nil)))) .nil) .nil) .nil) .nil)))))))) (.tk 18 (.tk 19 (.tk 20 (.tk 21 (.tk 22 (.tk 23 (.tk 24 (.tk 25 (.tk 26 (.tk 27 (.tk 28 (.tk 29 (.fin (.k .nil))))))))))))))))) .nil))) .nil))))))) (.tk 5 (.tk 6 (.tk 7 (.tk 8 (.tk 9 (.tk 10 (.tk 11 (.tk 12 (.tk 13 (.tk 14 (.tk 15 (.tk 16 (.tk 17 (.tk 18 (.tk 19 (.tk 20 (.tk 21 (.tk 22 (.tk 23 (.tk 24 (.tk 25 (.tk 26 (.tk 27 (.tk 28 (.tk 29 (.fin (.k .nil)))))))))))))))))))))))))))) .nil)))))) (.tk 0 (.tk 1 (.tk 2 (.tk 3 (.tk 4 (.tk 5 (.tk 6 (.tk 8 (.tk 9 (.tk 10 (.tk 11 (.tk 12 (.tk 13 (.tk 14 (.alt 7 (.alt 15 (.tk 16 (.fin (.c .nil .nil))) .nil) .nil)))))))))))))))))))) (.tk 0 (.tk 2 (.tk 3 (.tk 4 (.tk 5 (.tk 6 (.alt 1 (.tk 7 (.tks 8 (.tk 9 (.tk 10 (.tk 11 (.tk 12 (.tk 13 (.tk 14 (.tk 15 (.tk 16 (.tk 17 (.tk 18 (.tk 19 (.tk 20 (.tk 21 (.tk 22 (.tk 23 (.tk 24 (.tk 25 (.tk 26 (.tk 27 (.tk 28 (.tk 29 (.tk 30 (.fin (.k .nil)))))))))))))))))))))))) (.tk 9 (.tk 10 (.tk 11 (.tk 12 (.tk 13 (.tk 15 (.tk 16 (.tk 17 (.tk 18 (.tk 19 (.alt 14 (.alt 20 (.tk 21 (.tk 22 (.tk 23 (.tks 24 (.tk 25 (.tk 26 (.tk 27 (.tk 28 (.tk 29 (.tk 30 (.fin (.k .nil)))))))) (.tk 25 (.tk 27 (.alt 26 (.alt 28 (.tk 29 (.tk 30 (.fin (.c .nil (.lp [(2, none), (11, some (.int .i64)), (181, none), (182, none), (183, none), (184, none), (185, none), (186, none), (187, none), (188, none), (189, none), (190, none), (191, none), (192, none), (193, none), (194, none), (195, none), (196, none)] (.c (.tk 0 (.tk 1 (.tk 3 (.tk 4 (.tk 5 (.tk 6 (.tk 7 (.tk 8 (.tk 9 (.tk 10 (.alt 2 (.tk 11 (.fin (.c .nil .nil))) .nil))))))))))) .nil)))))) .nil) .nil))))))) .nil) .nil))))))))))))) .nil))))))))) .nil) (.k .nil))) (.at_ 42 3 (.at_ 42 10 (.at_ 42 15 (.at_ 42 23 .nil .nil) .nil) .nil) .nil))) [(.slice actsA actsN actsC)] w R = coadjutorlaw23_PrefixExact.vc actsA actsN actsC w R := by kernel_rfl
theorem coadjutorlaw23_PrefixExact.calls (actsA : Option Addr) (actsN : Nat) (actsC : Nat) {w : World} {R : Value → World → Prop} (h : coadjutorlaw23_PrefixExact.vc actsA actsN actsC w R) : Calls Try.prog 7 #[(.slice actsA actsN actsC)] w (Ret R) :=
  calls_V fit Try.func7 (.c .nil (.cut 3 [(2, none), (7, none), (8, none), (9, none), (10, none), (11, none), (24, none), (25, none), (26, none), (27, none), (28, none), (29, none), (30, none), (31, none), (32, none), (33, none), (34, none), (35, none), (36, none), (37, none), (38, none), (39, none), (40, none), (41, none), (42, none), (43, none), (44, none), (45, none), (46, none), (47, none), (48, none), (49, none), (50, none), (51, none), (52, none), (53, none), (54, none), (55, none), (56, none), (57, none), (58, none), (59, none), (60, none), (61, none), (62, none), (63, none), (64, none), (65, none), (66, none), (67, none), (68, none), (69, none), (70, none), (71, none), (72, none), (73, none), (74, none), (75, none), (76, none), (77, none), (78, none), (79, none), (80, none), (81, none), (82, none), (83, none), (84, none), (85, none), (86, none), (87, none), (88, none), (89, none), (90, none), (91, none), (92, none), (93, none), (94, none), (95, none), (96, none), (97, none), (98, none), (99, none), (100, none), (101, none), (102, none), (103, none), (104, none), (105, none), (106, none), (107, none), (108, none), (109, none), (110, none), (111, none), (112, none), (113, none), (114, none), (115, none), (116, none), (117, none), (118, none), (119, none), (120, none), (121, none), (122, none), (123, none), (124, none), (125, none), (126, none), (127, none), (128, none), (129, none), (130, none), (131, none), (132, none), (133, none), (134, none), (135, none), (136, none), (137, none), (138, none), (139, none), (140, none), (141, none), (142, none), (143, none), (144, none), (145, none), (146, none), (147, none), (148, none), (149, none), (150, none), (151, none), (152, none), (153, none), (154, none), (155, none), (156, none), (157, none), (158, none), (159, none), (160, none), (161, none), (162, none), (163, none), (164, none), (165, none), (166, none), (167, none), (168, none), (169, none), (170, none), (171, none), (172, none), (173, none), (174, none), (175, none), (176, none), (177, none), (178, none), (179, none), (180, none), (181, none), (182, none), (183, none), (184, none), (185, none), (186, none), (187, none), (188, none), (189, none), (190, none), (191, none), (192, none), (193, none), (194, none), (195, none), (196, none)] (.lp [(2, none), (7, some (.int .i64)), (8, none), (9, none), (10, none), (11, none), (24, none), (25, none), (26, none), (27, none), (28, none), (29, none), (30, none), (31, none), (32, none), (33, none), (34, none), (35, none), (36, none), (37, none), (38, none), (39, none), (40, none), (41, none), (42, none), (43, none), (44, none), (45, none), (46, none), (47, none), (48, none), (49, none), (50, none), (51, none), (52, none), (53, none), (54, none), (55, none), (56, none), (57, none), (58, none), (59, none), (60, none), (61, none), (62, none), (63, none), (64, none), (65, none), (66, none), (67, none), (68, none), (69, none), (70, none), (71, none), (72, none), (73, none), (74, none), (75, none), (76, none), (77, none), (78, none), (79, none), (80, none), (81, none), (82, none), (83, none), (84, none), (85, none), (86, none), (87, none), (88, none), (89, none), (90, none), (91, none), (92, none), (93, none), (94, none), (95, none), (96, none), (97, none), (98, none), (99, none), (100, none), (101, none), (102, none), (103, none), (104, none), (105, none), (106, none), (107, none), (108, none), (109, none), (110, none), (111, none), (112, none), (113, none), (114, none), (115, none), (116, none), (117, none), (118, none), (119, none), (120, none), (121, none), (122, none), (123, none), (124, none), (125, none), (126, none), (127, none), (128, none), (129, none), (130, none), (131, none), (132, none), (133, none), (134, none), (135, none), (136, none), (137, none), (138, none), (139, none), (140, none), (141, none), (142, none), (143, none), (144, none), (145, none), (146, none), (147, none), (148, none), (149, none), (150, none), (151, none), (152, none), (153, none), (154, none), (155, none), (156, none), (157, none), (158, none), (159, none), (160, none), (161, none), (162, none), (163, none), (164, none), (165, none), (166, none), (167, none), (168, none), (169, none), (170, none), (171, none), (172, none), (173, none), (174, none), (175, none), (176, none), (177, none), (178, none), (179, none), (180, none), (181, none), (182, none), (183, none), (184, none), (185, none), (186, none), (187, none), (188, none), (189, none), (190, none), (191, none), (192, none), (193, none), (194, none), (195, none), (196, none)] (.at_ 7 4 (.c (.c .nil (.cut 0 [(2, none), (9, none), (10, none), (42, none), (43, none), (44, none), (45, none), (46, none), (47, none), (48, none), (49, none), (50, none), (51, none), (52, none), (53, none), (54, none), (55, none), (56, none), (57, none), (58, none), (59, none), (60, none), (61, none), (62, none), (63, none), (64, none), (65, none), (66, none), (67, none), (68, none), (69, none), (70, none), (71, none), (72, none), (73, none), (74, none), (75, none), (76, none), (77, none), (78, none), (79, none), (80, none), (81, none), (82, none), (83, none), (84, none), (85, none), (86, none), (87, none), (88, none), (89, none), (90, none), (91, none), (92, none), (93, none), (94, none), (95, none), (96, none), (97, none), (98, none), (99, none), (100, none), (101, none), (102, none), (103, none), (104, none), (105, none), (106, none), (107, none), (108, none), (109, none), (110, none), (111, none), (112, none), (113, none), (114, none), (115, none), (116, none), (117, none), (118, none), (119, none), (120, none), (121, none), (122, none), (123, none), (124, none), (125, none), (126, none), (127, none), (128, none), (129, none), (130, none), (131, none), (132, none), (133, none), (134, none), (135, none), (136, none), (137, none), (138, none), (139, none), (140, none), (141, none), (142, none), (143, none), (144, none), (145, none), (146, none), (147, none), (148, none), (149, none)] (.c (.c (.tk 0 (.tk 1 (.tk 2 (.tk 3 (.tk 4 (.tk 6 (.tk 7 (.tk 8 (.tk 9 (.tk 10 (.alt 5 (.alt 11 (.alt 12 (.tk 13 (.fin (.c .nil .nil))) .nil) .nil) .nil))))))))))) (.c (.c .nil .nil) (.c (.tk 0 (.tk 1 (.tk 2 (.tk 4 (.tk 5 (.tk 6 (.alt 3 (.alt 7 (.tk 8 (.fin (.c .nil .nil))) .nil) .nil))))))) (.c (.lp [(9, some (.int .i64)), (10, some (.int .i64)), (98, none), (99, none), (100, none), (101, none), (102, none), (103, none), (104, none), (105, none), (106, none), (107, none), (108, none), (109, none), (110, none), (111, none), (112, none), (113, none), (114, none), (115, none), (116, none), (117, none), (118, none), (119, none)] (.c (.tk 0 (.tk 1 (.tk 2 (.tk 3 (.tk 4 (.tk 5 (.tk 6 (.tk 7 (.tk 8 (.tk 9 (.tk 10 (.fin (.c .nil .nil))))))))))))) (.tk 0 (.tk 1 (.tk 2 (.alt 3 (.tks 4 (.tk 5 (.tk 6 (.tk 7 (.tk 9 (.tk 10 (.tk 14 (.alt 8 (.tk 11 (.tk 12 (.alt 13 (.tk 15 (.tk 16 (.tks 17 (.tk 18 (.tk 19 (.tk 20 (.tk 23 (.tk 24 (.tk 25 (.alt 21 (.alt 22 (.alt 26 (.alt 27 (.tk 28 (.tk 29 (.fin (.c .nil .nil)))) .nil) .nil) (.alt 26 (.alt 22 (.alt 27 (.tk 28 (.tk 29 (.fin (.c .nil .nil)))) .nil) .nil) .nil)) (.alt 26 (.alt 21 (.alt 22 (.alt 27 (.tk 28 (.tk 29 (.fin (.c .nil .nil)))) .nil) .nil) .nil) .nil)))))))) (.tk 18 (.tk 19 (.tk 20 (.tk 21 (.tk 22 (.tk 23 (.tk 24 (.tk 25 (.tk 26 (.tk 27 (.tk 28 (.tk 29 (.fin (.k .nil))))))))))))))))) .nil))) .nil))))))) (.tk 5 (.tk 6 (.tk 7 (.tk 8 (.tk 9 (.tk 10 (.tk 11 (.tk 12 (.tk 13 (.tk 14 (.tk 15 (.tk 16 (.tk 17 (.tk 18 (.tk 19 (.tk 20 (.tk 21 (.tk 22 (.tk 23 (.tk 24 (.tk 25 (.tk 26 (.tk 27 (.tk 28 (.tk 29 (.fin (.k .nil)))))))))))))))))))))))))))) .nil)))))) (.tk 0 (.tk 1 (.tk 2 (.tk 3 (.tk 4 (.tk 5 (.tk 6 (.tk 8 (.tk 9 (.tk 10 (.tk 11 (.tk 12 (.tk 13 (.tk 14 (.alt 7 (.alt 15 (.tk 16 (.fin (.c .nil .nil))) .nil) .nil))))))))))))))))))) (.c (.tk 0 (.tk 1 (.tk 2 (.tk 3 (.tk 4 (.tk 6 (.tk 7 (.tk 8 (.tk 9 (.tk 10 (.alt 5 (.alt 11 (.alt 12 (.tk 13 (.fin (.c .nil .nil))) .nil) .nil) .nil))))))))))) (.c (.c .nil .nil) (.c (.tk 0 (.tk 1 (.tk 2 (.tk 4 (.tk 5 (.tk 6 (.alt 3 (.alt 7 (.tk 8 (.fin (.c .nil .nil))) .nil) .nil))))))) (.c (.lp [(9, some (.int .i64)), (10, some (.int .i64)), (98, none), (99, none), (100, none), (101, none), (102, none), (103, none), (104, none), (105, none), (106, none), (107, none), (108, none), (109, none), (110, none), (111, none), (112, none), (113, none), (114, none), (115, none), (116, none), (117, none), (118, none), (119, none)] (.c (.tk 0 (.tk 1 (.tk 2 (.tk 3 (.tk 4 (.tk 5 (.tk 6 (.tk 7 (.tk 8 (.tk 9 (.tk 10 (.fin (.c .nil .nil))))))))))))) (.tk 0 (.tk 1 (.tk 2 (.alt 3 (.tks 4 (.tk 5 (.tk 6 (.tk 7 (.tk 9 (.tk 10 (.tk 14 (.alt 8 (.tk 11 (.tk 12 (.alt 13 (.tk 15 (.tk 16 (.tks 17 (.tk 18 (.tk 19 (.tk 20 (.tk 23 (.tk 24 (.tk 25 (.alt 21 (.alt 22 (.alt 26 (.alt 27 (.tk 28 (.tk 29 (.fin (.c .nil .nil)))) .nil) .nil) (.alt 26 (.alt 22 (.alt 27 (.tk 28 (.tk 29 (.fin (.c .nil .nil)))) .nil) .nil) .nil)) (.alt 26 (.alt 21 (.alt 22 (.alt 27 (.tk 28 (.tk 29 (.fin (.c .nil .nil)))) .nil) .nil) .nil) .nil)))))))) (.tk 18 (.tk 19 (.tk 20 (.tk 21 (.tk 22 (.tk 23 (.tk 24 (.tk 25 (.tk 26 (.tk 27 (.tk 28 (.tk 29 (.fin (.k .nil))))))))))))))))) .nil))) .nil))))))) (.tk 5 (.tk 6 (.tk 7 (.tk 8 (.tk 9 (.tk 10 (.tk 11 (.tk 12 (.tk 13 (.tk 14 (.tk 15 (.tk 16 (.tk 17 (.tk 18 (.tk 19 (.tk 20 (.tk 21 (.tk 22 (.tk 23 (.tk 24 (.tk 25 (.tk 26 (.tk 27 (.tk 28 (.tk 29 (.fin (.k .nil)))))))))))))))))))))))))))) .nil)))))) (.tk 0 (.tk 1 (.tk 2 (.tk 3 (.tk 4 (.tk 5 (.tk 6 (.tk 8 (.tk 9 (.tk 10 (.tk 11 (.tk 12 (.tk 13 (.tk 14 (.alt 7 (.alt 15 (.tk 16 (.fin (.c .nil .nil))) .nil) .nil)))))))))))))))))))) (.tk 0 (.tk 2 (.tk 3 (.tk 4 (.tk 5 (.tk 6 (.alt 1 (.tk 7 (.tks 8 (.tk 9 (.tk 10 (.tk 11 (.tk 12 (.tk 13 (.tk 14 (.tk 15 (.tk 16 (.tk 17 (.tk 18 (.tk 19 (.tk 20 (.tk 21 (.tk 22 (.tk 23 (.tk 24 (.tk 25 (.tk 26 (.tk 27 (.tk 28 (.tk 29 (.tk 30 (.fin (.k .nil)))))))))))))))))))))))) (.tk 9 (.tk 10 (.tk 11 (.tk 12 (.tk 13 (.tk 15 (.tk 16 (.tk 17 (.tk 18 (.tk 19 (.alt 14 (.alt 20 (.tk 21 (.tk 22 (.tk 23 (.tks 24 (.tk 25 (.tk 26 (.tk 27 (.tk 28 (.tk 29 (.tk 30 (.fin (.k .nil)))))))) (.tk 25 (.tk 27 (.alt 26 (.alt 28 (.tk 29 (.tk 30 (.fin (.c .nil (.lp [(2, none), (11, some (.int .i64)), (181, none), (182, none), (183, none), (184, none), (185, none), (186, none), (187, none), (188, none), (189, none), (190, none), (191, none), (192, none), (193, none), (194, none), (195, none), (196, none)] (.c (.tk 0 (.tk 1 (.tk 3 (.tk 4 (.tk 5 (.tk 6 (.tk 7 (.tk 8 (.tk 9 (.tk 10 (.alt 2 (.tk 11 (.fin (.c .nil .nil))) .nil))))))))))) .nil)))))) .nil) .nil))))))) .nil) .nil))))))))))))) .nil))))))))) .nil) (.k .nil))) (.at_ 42 3 (.at_ 42 10 (.at_ 42 15 (.at_ 42 23 .nil .nil) .nil) .nil) .nil))) (by rw [show (#[(.slice actsA actsN actsC)] : Array Value).toList = [(.slice actsA actsN actsC)] from rfl, coadjutorlaw23_PrefixExact.vc_eq]; exact h)
end Go.Proofs.Ytpcddfhfchempaa.Vc
