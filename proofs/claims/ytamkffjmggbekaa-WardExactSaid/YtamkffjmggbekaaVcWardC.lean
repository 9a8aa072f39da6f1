import Derived.Test.YtamkffjmggbekaaVc
import Derived.Test.YtamkffjmggbekaaH
import Derived.Test.YtamkffjmggbekaaProg
import Derived.KernelRfl
set_option linter.unusedVariables false
set_option maxRecDepth 100000
namespace Go.Proofs.Ytamkffjmggbekaa.Vc
open Go Go.Proofs Go.Proofs.Ytamkffjmggbekaa.V
/-- function 3 -/
def coadjutorlaw24_WardFirst.vc (promptsA : Option Addr) (promptsN : Nat) (promptsC : Nat) (cancel : Int) (w : World) (R : Value → World → Prop) : Prop :=
  Calls Try.prog 9 #[] w (Ret fun v w1 => ∃ (x20 : Bool), v = (.bool x20) ∧
  ((!x20) = true →
  R (.bool false) w1) ∧
  ((!x20) = false →
  (decide (((promptsN : Nat) : Int) > (16 : Int)) = true →
  R (.bool true) w1) ∧
  (decide (((promptsN : Nat) : Int) > (16 : Int)) = false →
  Calls Try.prog 10 #[(.int .i64 64)] w1 (Ret fun v_1 w2 => ∃ (x25 : Option Addr), v_1 = (.pointer x25) ∧
  Calls Try.prog 11 #[] w2 (Ret fun v_2 w3 => ∃ (x26 : Option Addr), v_2 = (.pointer x26) ∧
  ∀ w4 : World, w4 = w3.alloc (.cells #[] 32 (0, 0)) →
  ∃ vI : Option Addr → Nat → Nat → Int → Nat → World → Prop, (∃ vk_2 : Nat, vI (some (⟨w3.heap.size, 0, none⟩ : Addr)) 0 0 0 vk_2 w4) ∧
  ∀ (jk : Nat → Value) (cameA : Option Addr) (cameN : Nat) (cameC : Nat) (i : Int), ∀ (vk : Nat) (w5 : World), vI cameA cameN cameC i vk w5 →
  (decide (i < ((promptsN : Nat) : Int)) = true →
  ∃ J : Option Addr → Nat → Nat → World → Prop, (∀ w6 : World, w6 = w5.alloc (.cells #[] 3 (0, 0)) →
  ∃ vI_1 : Option Addr → Nat → Nat → Int → Nat → World → Prop, (∃ vk_5 : Nat, vI_1 (some (⟨w5.heap.size, 0, none⟩ : Addr)) 0 0 0 vk_5 w6) ∧
  ∀ (jk : Nat → Value) (pA : Option Addr) (pN : Nat) (pC : Nat) (vk_6 : Int), ∀ (vk_3 : Nat) (w7 : World), vI_1 pA pN pC vk_6 vk_3 w7 →
  (0 ≤ i ∧ i < ((promptsN : Nat) : Int)) ∧ someV promptsA fun p =>
  ∃ (x39A : Option Addr), ∃ (x39N : Nat), ∃ (x39C : Nat), w7.cell? (p.add (i.toNat * 1)) = some (.slice x39A x39N x39C) ∧
  (decide (vk_6 < ((x39N : Nat) : Int)) = true →
  (decide (vk_6 < (8 : Int)) = true →
  (0 ≤ i ∧ i < ((promptsN : Nat) : Int)) ∧ someV promptsA fun p_1 =>
  ∃ (x52A : Option Addr), ∃ (x52N : Nat), ∃ (x52C : Nat), w7.cell? (p_1.add (i.toNat * 1)) = some (.slice x52A x52N x52C) ∧
  (0 ≤ vk_6 ∧ vk_6 < ((x52N : Nat) : Int)) ∧ someV x52A fun p_2 =>
  ∃ (x55 : Int), w7.cell? (p_2.add (vk_6.toNat * 1)) = some (.int .i64 x55) ∧
  (3 : Int) ≠ 0 ∧
  ∀ w8 : World, w8 = w7.alloc (.cells #[(.int .i64 (IntKind.i64.wrap (Int.tmod (IntKind.u64.wrap x55) 3)))] 3 (0, 0)) →
  ∃ (x60A : Option Addr), ∃ (x60N : Nat), ∃ (x60C : Nat), ∃ w9 : World, (Builtin.append_ #[29, 29] 29 #[(.slice pA pN pC), (.slice (some (⟨w7.heap.size, 0, none⟩ : Addr)) 1 1)]).run Try.prog w8 = .ok (.slice x60A x60N x60C) w9 ∧
  ∃ vk_4 : Nat, vk_4 < vk_3 ∧ vI_1 x60A x60N x60C (IntKind.i64.wrap (vk_6 + 1)) vk_4 w9) ∧
  (decide (vk_6 < (8 : Int)) = false →
  (2 : Int) ≠ 0 ∧
  ∀ w10 : World, w10 = w7.alloc (.cells #[(.int .i64 i)] 3 (0, 0)) →
  ∀ w11 : World, w11 = w10.alloc (.cells #[(.int .i64 0), (.int .i64 0), (.slice none 0 0), (.int .i64 0), (.slice none 0 0)] 32 (0, 0)) →
  (((∃ u, w11.cell? (⟨w10.heap.size, 0, none⟩ : Addr) = some u) ∧ w11.frozen? (⟨w10.heap.size, 0, none⟩ : Addr) = false) ∧ ((∃ u, w11.cell? (⟨w10.heap.size, 1, none⟩ : Addr) = some u) ∧ w11.frozen? (⟨w10.heap.size, 1, none⟩ : Addr) = false) ∧ ((∃ u, w11.cell? (⟨w10.heap.size, 2, none⟩ : Addr) = some u) ∧ w11.frozen? (⟨w10.heap.size, 2, none⟩ : Addr) = false) ∧ ((∃ u, w11.cell? (⟨w10.heap.size, 3, none⟩ : Addr) = some u) ∧ w11.frozen? (⟨w10.heap.size, 3, none⟩ : Addr) = false) ∧ ((∃ u, w11.cell? (⟨w10.heap.size, 4, none⟩ : Addr) = some u) ∧ w11.frozen? (⟨w10.heap.size, 4, none⟩ : Addr) = false)) ∧ ∀ w12 : World, w12 = (((((w11.setCell (⟨w10.heap.size, 0, none⟩ : Addr) (.int .i64 (IntKind.i64.wrap (10 + i)))).setCell (⟨w10.heap.size, 1, none⟩ : Addr) (.int .i64 (IntKind.i64.wrap (1 + (Int.tmod i 2))))).setCell (⟨w10.heap.size, 2, none⟩ : Addr) (.slice pA pN pC)).setCell (⟨w10.heap.size, 3, none⟩ : Addr) (.int .i64 3)).setCell (⟨w10.heap.size, 4, none⟩ : Addr) (.slice (some (⟨w7.heap.size, 0, none⟩ : Addr)) 1 1)) →
  ∃ (x720 : Int), ∃ (x721 : Int), ∃ (x722A : Option Addr), ∃ (x722N : Nat), ∃ (x722C : Nat), ∃ (x723 : Int), ∃ (x724A : Option Addr), ∃ (x724N : Nat), ∃ (x724C : Nat), (w12.cell? (⟨w10.heap.size, 0, none⟩ : Addr) = some (.int .i64 x720) ∧ w12.cell? (⟨w10.heap.size, 1, none⟩ : Addr) = some (.int .i64 x721) ∧ w12.cell? (⟨w10.heap.size, 2, none⟩ : Addr) = some (.slice x722A x722N x722C) ∧ w12.cell? (⟨w10.heap.size, 3, none⟩ : Addr) = some (.int .i64 x723) ∧ w12.cell? (⟨w10.heap.size, 4, none⟩ : Addr) = some (.slice x724A x724N x724C)) ∧
  Calls Try.prog 12 #[(.pointer x25), (.pointer x26), (.agg #[(.int .i64 x720), (.int .i64 x721), (.slice x722A x722N x722C), (.int .i64 x723), (.slice x724A x724N x724C)])] w12 (Ret fun v_3 w13 => ∃ (x73 : Int), v_3 = (.int .i64 x73) ∧
  ((!((x73 == (0 : Int)) == (decide (((pN : Nat) : Int) > (0 : Int))))) = true →
  R (.bool false) w13) ∧
  ((!((x73 == (0 : Int)) == (decide (((pN : Nat) : Int) > (0 : Int))))) = false →
  ((x73 == (0 : Int)) = true →
  ∃ (x830 : Int), ∃ (x831 : Int), ∃ (x832A : Option Addr), ∃ (x832N : Nat), ∃ (x832C : Nat), ∃ (x833 : Int), ∃ (x834A : Option Addr), ∃ (x834N : Nat), ∃ (x834C : Nat), (w13.cell? (⟨w10.heap.size, 0, none⟩ : Addr) = some (.int .i64 x830) ∧ w13.cell? (⟨w10.heap.size, 1, none⟩ : Addr) = some (.int .i64 x831) ∧ w13.cell? (⟨w10.heap.size, 2, none⟩ : Addr) = some (.slice x832A x832N x832C) ∧ w13.cell? (⟨w10.heap.size, 3, none⟩ : Addr) = some (.int .i64 x833) ∧ w13.cell? (⟨w10.heap.size, 4, none⟩ : Addr) = some (.slice x834A x834N x834C)) ∧
  Calls Try.prog 13 #[(.agg #[(.int .i64 x830), (.int .i64 x831), (.slice x832A x832N x832C), (.int .i64 x833), (.slice x834A x834N x834C)])] w13 (Ret fun v_4 w14 => ∃ (x840 : Int), ∃ (x841 : Int), ∃ (x842A : Option Addr), ∃ (x842N : Nat), ∃ (x842C : Nat), ∃ (x843 : Int), ∃ (x844A : Option Addr), ∃ (x844N : Nat), ∃ (x844C : Nat), v_4 = (.agg #[(.int .i64 x840), (.int .i64 x841), (.slice x842A x842N x842C), (.int .i64 x843), (.slice x844A x844N x844C)]) ∧
  ∀ w15 : World, w15 = w14.alloc (.cells #[(.int .i64 x840), (.int .i64 x841), (.slice x842A x842N x842C), (.int .i64 x843), (.slice x844A x844N x844C)] 32 (0, 0)) →
  ∃ (x86A : Option Addr), ∃ (x86N : Nat), ∃ (x86C : Nat), ∃ w16 : World, (Builtin.append_ #[28, 28] 28 #[(.slice cameA cameN cameC), (.slice (some (⟨w14.heap.size, 0, none⟩ : Addr)) 1 1)]).run Try.prog w15 = .ok (.slice x86A x86N x86C) w16 ∧
  ∃ (x88A : Option Addr), ∃ (x88N : Nat), ∃ (x88C : Nat), w16.cell? (⟨w10.heap.size, 4, none⟩ : Addr) = some (.slice x88A x88N x88C) ∧
  (0 ≤ (0 : Int) ∧ (0 : Int) < ((x88N : Nat) : Int)) ∧ someV x88A fun p_3 =>
  (((∃ u, w16.cell? p_3 = some u) ∧ w16.frozen? p_3 = false)) ∧ ∀ w17 : World, w17 = (w16.setCell p_3 (.int .i64 99)) →
  (0 ≤ (0 : Int) ∧ (0 : Int) < ((pN : Nat) : Int)) ∧ someV pA fun p_4 =>
  (((∃ u, w17.cell? p_4 = some u) ∧ w17.frozen? p_4 = false)) ∧ ∀ w18 : World, w18 = (w17.setCell p_4 (.int .i64 77)) →
  J x86A x86N x86C w18)) ∧
  ((x73 == (0 : Int)) = false →
  J cameA cameN cameC w13))))) ∧
  (decide (vk_6 < ((x39N : Nat) : Int)) = false →
  (2 : Int) ≠ 0 ∧
  ∀ w19 : World, w19 = w7.alloc (.cells #[(.int .i64 i)] 3 (0, 0)) →
  ∀ w20 : World, w20 = w19.alloc (.cells #[(.int .i64 0), (.int .i64 0), (.slice none 0 0), (.int .i64 0), (.slice none 0 0)] 32 (0, 0)) →
  (((∃ u, w20.cell? (⟨w19.heap.size, 0, none⟩ : Addr) = some u) ∧ w20.frozen? (⟨w19.heap.size, 0, none⟩ : Addr) = false) ∧ ((∃ u, w20.cell? (⟨w19.heap.size, 1, none⟩ : Addr) = some u) ∧ w20.frozen? (⟨w19.heap.size, 1, none⟩ : Addr) = false) ∧ ((∃ u, w20.cell? (⟨w19.heap.size, 2, none⟩ : Addr) = some u) ∧ w20.frozen? (⟨w19.heap.size, 2, none⟩ : Addr) = false) ∧ ((∃ u, w20.cell? (⟨w19.heap.size, 3, none⟩ : Addr) = some u) ∧ w20.frozen? (⟨w19.heap.size, 3, none⟩ : Addr) = false) ∧ ((∃ u, w20.cell? (⟨w19.heap.size, 4, none⟩ : Addr) = some u) ∧ w20.frozen? (⟨w19.heap.size, 4, none⟩ : Addr) = false)) ∧ ∀ w21 : World, w21 = (((((w20.setCell (⟨w19.heap.size, 0, none⟩ : Addr) (.int .i64 (IntKind.i64.wrap (10 + i)))).setCell (⟨w19.heap.size, 1, none⟩ : Addr) (.int .i64 (IntKind.i64.wrap (1 + (Int.tmod i 2))))).setCell (⟨w19.heap.size, 2, none⟩ : Addr) (.slice pA pN pC)).setCell (⟨w19.heap.size, 3, none⟩ : Addr) (.int .i64 3)).setCell (⟨w19.heap.size, 4, none⟩ : Addr) (.slice (some (⟨w7.heap.size, 0, none⟩ : Addr)) 1 1)) →
  ∃ (x720_1 : Int), ∃ (x721_1 : Int), ∃ (x722A_1 : Option Addr), ∃ (x722N_1 : Nat), ∃ (x722C_1 : Nat), ∃ (x723_1 : Int), ∃ (x724A_1 : Option Addr), ∃ (x724N_1 : Nat), ∃ (x724C_1 : Nat), (w21.cell? (⟨w19.heap.size, 0, none⟩ : Addr) = some (.int .i64 x720_1) ∧ w21.cell? (⟨w19.heap.size, 1, none⟩ : Addr) = some (.int .i64 x721_1) ∧ w21.cell? (⟨w19.heap.size, 2, none⟩ : Addr) = some (.slice x722A_1 x722N_1 x722C_1) ∧ w21.cell? (⟨w19.heap.size, 3, none⟩ : Addr) = some (.int .i64 x723_1) ∧ w21.cell? (⟨w19.heap.size, 4, none⟩ : Addr) = some (.slice x724A_1 x724N_1 x724C_1)) ∧
  Calls Try.prog 12 #[(.pointer x25), (.pointer x26), (.agg #[(.int .i64 x720_1), (.int .i64 x721_1), (.slice x722A_1 x722N_1 x722C_1), (.int .i64 x723_1), (.slice x724A_1 x724N_1 x724C_1)])] w21 (Ret fun v_5 w22 => ∃ (x73_1 : Int), v_5 = (.int .i64 x73_1) ∧
  ((!((x73_1 == (0 : Int)) == (decide (((pN : Nat) : Int) > (0 : Int))))) = true →
  R (.bool false) w22) ∧
  ((!((x73_1 == (0 : Int)) == (decide (((pN : Nat) : Int) > (0 : Int))))) = false →
  ((x73_1 == (0 : Int)) = true →
  ∃ (x830_1 : Int), ∃ (x831_1 : Int), ∃ (x832A_1 : Option Addr), ∃ (x832N_1 : Nat), ∃ (x832C_1 : Nat), ∃ (x833_1 : Int), ∃ (x834A_1 : Option Addr), ∃ (x834N_1 : Nat), ∃ (x834C_1 : Nat), (w22.cell? (⟨w19.heap.size, 0, none⟩ : Addr) = some (.int .i64 x830_1) ∧ w22.cell? (⟨w19.heap.size, 1, none⟩ : Addr) = some (.int .i64 x831_1) ∧ w22.cell? (⟨w19.heap.size, 2, none⟩ : Addr) = some (.slice x832A_1 x832N_1 x832C_1) ∧ w22.cell? (⟨w19.heap.size, 3, none⟩ : Addr) = some (.int .i64 x833_1) ∧ w22.cell? (⟨w19.heap.size, 4, none⟩ : Addr) = some (.slice x834A_1 x834N_1 x834C_1)) ∧
  Calls Try.prog 13 #[(.agg #[(.int .i64 x830_1), (.int .i64 x831_1), (.slice x832A_1 x832N_1 x832C_1), (.int .i64 x833_1), (.slice x834A_1 x834N_1 x834C_1)])] w22 (Ret fun v_6 w23 => ∃ (x840_1 : Int), ∃ (x841_1 : Int), ∃ (x842A_1 : Option Addr), ∃ (x842N_1 : Nat), ∃ (x842C_1 : Nat), ∃ (x843_1 : Int), ∃ (x844A_1 : Option Addr), ∃ (x844N_1 : Nat), ∃ (x844C_1 : Nat), v_6 = (.agg #[(.int .i64 x840_1), (.int .i64 x841_1), (.slice x842A_1 x842N_1 x842C_1), (.int .i64 x843_1), (.slice x844A_1 x844N_1 x844C_1)]) ∧
  ∀ w24 : World, w24 = w23.alloc (.cells #[(.int .i64 x840_1), (.int .i64 x841_1), (.slice x842A_1 x842N_1 x842C_1), (.int .i64 x843_1), (.slice x844A_1 x844N_1 x844C_1)] 32 (0, 0)) →
  ∃ (x86A_1 : Option Addr), ∃ (x86N_1 : Nat), ∃ (x86C_1 : Nat), ∃ w25 : World, (Builtin.append_ #[28, 28] 28 #[(.slice cameA cameN cameC), (.slice (some (⟨w23.heap.size, 0, none⟩ : Addr)) 1 1)]).run Try.prog w24 = .ok (.slice x86A_1 x86N_1 x86C_1) w25 ∧
  ∃ (x88A_1 : Option Addr), ∃ (x88N_1 : Nat), ∃ (x88C_1 : Nat), w25.cell? (⟨w19.heap.size, 4, none⟩ : Addr) = some (.slice x88A_1 x88N_1 x88C_1) ∧
  (0 ≤ (0 : Int) ∧ (0 : Int) < ((x88N_1 : Nat) : Int)) ∧ someV x88A_1 fun p_5 =>
  (((∃ u, w25.cell? p_5 = some u) ∧ w25.frozen? p_5 = false)) ∧ ∀ w26 : World, w26 = (w25.setCell p_5 (.int .i64 99)) →
  (0 ≤ (0 : Int) ∧ (0 : Int) < ((pN : Nat) : Int)) ∧ someV pA fun p_6 =>
  (((∃ u, w26.cell? p_6 = some u) ∧ w26.frozen? p_6 = false)) ∧ ∀ w27 : World, w27 = (w26.setCell p_6 (.int .i64 77)) →
  J x86A_1 x86N_1 x86C_1 w27)) ∧
  ((x73_1 == (0 : Int)) = false →
  J cameA cameN cameC w22))))) ∧
  ∀ (jk : Nat → Value) (cameA_1 : Option Addr) (cameN_1 : Nat) (cameC_1 : Nat), ∀ w28 : World, J cameA_1 cameN_1 cameC_1 w28 →
  ∃ vk_1 : Nat, vk_1 < vk ∧ vI cameA_1 cameN_1 cameC_1 (IntKind.i64.wrap (i + 1)) vk_1 w28) ∧
  (decide (i < ((promptsN : Nat) : Int)) = false →
  ∃ J_1 : Int → World → Prop, ((20 : Int) ≠ 0 ∧
  J_1 (IntKind.i64.wrap (10 + (IntKind.i64.wrap (Int.tmod (IntKind.u64.wrap cancel) 20)))) w5) ∧
  ∀ (jk : Nat → Value) (gone : Int), ∀ w29 : World, J_1 gone w29 →
  Calls Try.prog 14 #[(.pointer x25), (.int .i64 gone)] w29 (Ret fun v_7 w30 => ∃ (x99 : Int), v_7 = (.int .i64 x99) ∧
  ∃ vI_2 : Int → Nat → World → Prop, (∃ vk_9 : Nat, vI_2 0 vk_9 w30) ∧
  ∀ (jk : Nat → Value) (i_1 : Int), ∀ (vk_7 : Nat) (w31 : World), vI_2 i_1 vk_7 w31 →
  (decide (i_1 < ((cameN : Nat) : Int)) = true →
  (0 ≤ i_1 ∧ i_1 < ((cameN : Nat) : Int)) ∧ someV cameA fun p_7 =>
  ∃ (x110 : Int), w31.cell? (p_7.add (i_1.toNat * 5)) = some (.int .i64 x110) ∧
  ((x110 == gone) = true →
  ((x99 != (0 : Int)) = true →
  R (.bool false) w31) ∧
  ((x99 != (0 : Int)) = false →
  ∃ vk_8 : Nat, vk_8 < vk_7 ∧ vI_2 (IntKind.i64.wrap (i_1 + 1)) vk_8 w31)) ∧
  ((x110 == gone) = false →
  Calls Try.prog 15 #[(.pointer x25)] w31 (Ret fun v_8 w32 => ∃ (x117_00 : Int), ∃ (x117_01 : Int), ∃ (x117_02A : Option Addr), ∃ (x117_02N : Nat), ∃ (x117_02C : Nat), ∃ (x117_03 : Int), ∃ (x117_04A : Option Addr), ∃ (x117_04N : Nat), ∃ (x117_04C : Nat), ∃ (x117_1 : Bool), v_8 = (.tuple #[(.agg #[(.int .i64 x117_00), (.int .i64 x117_01), (.slice x117_02A x117_02N x117_02C), (.int .i64 x117_03), (.slice x117_04A x117_04N x117_04C)]), (.bool x117_1)]) ∧
  ∀ w33 : World, w33 = w32.alloc (.cells #[(.int .i64 0), (.int .i64 0), (.slice none 0 0), (.int .i64 0), (.slice none 0 0)] 32 (0, 0)) →
  (((∃ u, w33.cell? (⟨w32.heap.size, 0, none⟩ : Addr) = some u) ∧ w33.frozen? (⟨w32.heap.size, 0, none⟩ : Addr) = false) ∧ ((∃ u, w33.cell? (⟨w32.heap.size, 1, none⟩ : Addr) = some u) ∧ w33.frozen? (⟨w32.heap.size, 1, none⟩ : Addr) = false) ∧ ((∃ u, w33.cell? (⟨w32.heap.size, 2, none⟩ : Addr) = some u) ∧ w33.frozen? (⟨w32.heap.size, 2, none⟩ : Addr) = false) ∧ ((∃ u, w33.cell? (⟨w32.heap.size, 3, none⟩ : Addr) = some u) ∧ w33.frozen? (⟨w32.heap.size, 3, none⟩ : Addr) = false) ∧ ((∃ u, w33.cell? (⟨w32.heap.size, 4, none⟩ : Addr) = some u) ∧ w33.frozen? (⟨w32.heap.size, 4, none⟩ : Addr) = false)) ∧ ∀ w34 : World, w34 = (((((w33.setCell (⟨w32.heap.size, 0, none⟩ : Addr) (.int .i64 x117_00)).setCell (⟨w32.heap.size, 1, none⟩ : Addr) (.int .i64 x117_01)).setCell (⟨w32.heap.size, 2, none⟩ : Addr) (.slice x117_02A x117_02N x117_02C)).setCell (⟨w32.heap.size, 3, none⟩ : Addr) (.int .i64 x117_03)).setCell (⟨w32.heap.size, 4, none⟩ : Addr) (.slice x117_04A x117_04N x117_04C)) →
  ∃ vS : World → Prop, ∀ w35 : World, w35 = w34.drew → vS w35 ∧
  ((!x117_1) = true →
  R (.bool false) w35) ∧
  ((!x117_1) = false →
  ∃ (x1230 : Int), ∃ (x1231 : Int), ∃ (x1232A : Option Addr), ∃ (x1232N : Nat), ∃ (x1232C : Nat), ∃ (x1233 : Int), ∃ (x1234A : Option Addr), ∃ (x1234N : Nat), ∃ (x1234C : Nat), ((∀ w36, vS w36 → w36.cell? (⟨w32.heap.size, 0, none⟩ : Addr) = some (.int .i64 x1230)) ∧ (∀ w36, vS w36 → w36.cell? (⟨w32.heap.size, 1, none⟩ : Addr) = some (.int .i64 x1231)) ∧ (∀ w36, vS w36 → w36.cell? (⟨w32.heap.size, 2, none⟩ : Addr) = some (.slice x1232A x1232N x1232C)) ∧ (∀ w36, vS w36 → w36.cell? (⟨w32.heap.size, 3, none⟩ : Addr) = some (.int .i64 x1233)) ∧ (∀ w36, vS w36 → w36.cell? (⟨w32.heap.size, 4, none⟩ : Addr) = some (.slice x1234A x1234N x1234C))) ∧
  (0 ≤ i_1 ∧ i_1 < ((cameN : Nat) : Int)) ∧ someV cameA fun p_8 =>
  ∃ (x1270 : Int), ∃ (x1271 : Int), ∃ (x1272A : Option Addr), ∃ (x1272N : Nat), ∃ (x1272C : Nat), ∃ (x1273 : Int), ∃ (x1274A : Option Addr), ∃ (x1274N : Nat), ∃ (x1274C : Nat), ((∀ w37, vS w37 → w37.cell? (p_8.add (i_1.toNat * 5)) = some (.int .i64 x1270)) ∧ (∀ w37, vS w37 → w37.cell? ((p_8.add (i_1.toNat * 5)).add 1) = some (.int .i64 x1271)) ∧ (∀ w37, vS w37 → w37.cell? ((p_8.add (i_1.toNat * 5)).add 2) = some (.slice x1272A x1272N x1272C)) ∧ (∀ w37, vS w37 → w37.cell? ((p_8.add (i_1.toNat * 5)).add 3) = some (.int .i64 x1273)) ∧ (∀ w37, vS w37 → w37.cell? ((p_8.add (i_1.toNat * 5)).add 4) = some (.slice x1274A x1274N x1274C))) ∧
  Calls Try.prog 16 #[(.agg #[(.int .i64 x1230), (.int .i64 x1231), (.slice x1232A x1232N x1232C), (.int .i64 x1233), (.slice x1234A x1234N x1234C)]), (.agg #[(.int .i64 x1270), (.int .i64 x1271), (.slice x1272A x1272N x1272C), (.int .i64 x1273), (.slice x1274A x1274N x1274C)])] w35 (Ret fun v_9 w38 => ∃ (x128 : Bool), v_9 = (.bool x128) ∧
  vS w38 ∧
  ((!x128) = true →
  R (.bool false) w38) ∧
  ((!x128) = false →
  ∃ vk_8 : Nat, vk_8 < vk_7 ∧ vI_2 (IntKind.i64.wrap (i_1 + 1)) vk_8 w38)))))) ∧
  (decide (i_1 < ((cameN : Nat) : Int)) = false →
  ∃ J_2 : Bool → World → Prop, (Calls Try.prog 15 #[(.pointer x25)] w31 (Ret fun v_10 w39 => ∃ (x133_00 : Int), ∃ (x133_01 : Int), ∃ (x133_02A : Option Addr), ∃ (x133_02N : Nat), ∃ (x133_02C : Nat), ∃ (x133_03 : Int), ∃ (x133_04A : Option Addr), ∃ (x133_04N : Nat), ∃ (x133_04C : Nat), ∃ (x133_1 : Bool), v_10 = (.tuple #[(.agg #[(.int .i64 x133_00), (.int .i64 x133_01), (.slice x133_02A x133_02N x133_02C), (.int .i64 x133_03), (.slice x133_04A x133_04N x133_04C)]), (.bool x133_1)]) ∧
  ∀ w40 : World, w40 = w39.alloc (.cells #[(.int .i64 0), (.int .i64 0), (.slice none 0 0), (.int .i64 0), (.slice none 0 0)] 32 (0, 0)) →
  (((∃ u, w40.cell? (⟨w39.heap.size, 0, none⟩ : Addr) = some u) ∧ w40.frozen? (⟨w39.heap.size, 0, none⟩ : Addr) = false) ∧ ((∃ u, w40.cell? (⟨w39.heap.size, 1, none⟩ : Addr) = some u) ∧ w40.frozen? (⟨w39.heap.size, 1, none⟩ : Addr) = false) ∧ ((∃ u, w40.cell? (⟨w39.heap.size, 2, none⟩ : Addr) = some u) ∧ w40.frozen? (⟨w39.heap.size, 2, none⟩ : Addr) = false) ∧ ((∃ u, w40.cell? (⟨w39.heap.size, 3, none⟩ : Addr) = some u) ∧ w40.frozen? (⟨w39.heap.size, 3, none⟩ : Addr) = false) ∧ ((∃ u, w40.cell? (⟨w39.heap.size, 4, none⟩ : Addr) = some u) ∧ w40.frozen? (⟨w39.heap.size, 4, none⟩ : Addr) = false)) ∧ ∀ w41 : World, w41 = (((((w40.setCell (⟨w39.heap.size, 0, none⟩ : Addr) (.int .i64 x133_00)).setCell (⟨w39.heap.size, 1, none⟩ : Addr) (.int .i64 x133_01)).setCell (⟨w39.heap.size, 2, none⟩ : Addr) (.slice x133_02A x133_02N x133_02C)).setCell (⟨w39.heap.size, 3, none⟩ : Addr) (.int .i64 x133_03)).setCell (⟨w39.heap.size, 4, none⟩ : Addr) (.slice x133_04A x133_04N x133_04C)) →
  J_2 x133_1 w41)) ∧
  ∀ (jk : Nat → Value) (is : Bool), ∀ w42 : World, J_2 is w42 →
  ((!is) = true →
  Calls Try.prog 17 #[(.pointer x25)] w42 (Ret fun v_11 w43 => ∃ (x140A : Option Addr), ∃ (x140N : Nat), ∃ (x140C : Nat), v_11 = (.slice x140A x140N x140C) ∧
  R (.bool (((x140N : Nat) : Int) == (0 : Int))) w43)) ∧
  ((!is) = false →
  R (.bool false) w42)))))))))
theorem coadjutorlaw24_WardFirst.vc_eq (promptsA : Option Addr) (promptsN : Nat) (promptsC : Nat) (cancel : Int) (w : World) (R : Value → World → Prop) : fnV Try.prog Try.f3 (.c .nil (.c .nil (.lp [(4, none), (7, some (.slice)), (8, some (.int .i64)), (9, none), (10, none), (11, none), (12, none), (28, none), (29, none), (30, none), (31, none), (32, none), (33, none), (34, none), (35, none), (36, none), (37, none), (38, none), (39, none), (40, none), (41, none), (42, none), (43, none), (44, none), (45, none), (46, none), (47, none), (48, none), (49, none), (50, none), (51, none), (52, none), (53, none), (54, none), (55, none), (56, none), (57, none), (58, none), (59, none), (60, none), (61, none), (62, none), (63, none), (64, none), (65, none), (66, none), (67, none), (68, none), (69, none), (70, none), (71, none), (72, none), (73, none), (74, none), (75, none), (76, none), (77, none), (78, none), (79, none), (80, none), (81, none), (82, none), (83, none), (84, none), (85, none), (86, none), (87, none), (88, none), (89, none), (90, none), (91, none)] (.c (.cut 0 [(4, none), (7, some (.slice)), (9, none), (10, none), (11, none), (12, none), (34, none), (35, none), (36, none), (37, none), (38, none), (39, none), (40, none), (41, none), (42, none), (43, none), (44, none), (45, none), (46, none), (47, none), (48, none), (49, none), (50, none), (51, none), (52, none), (53, none), (54, none), (55, none), (56, none), (57, none), (58, none), (59, none), (60, none), (61, none), (62, none), (63, none), (64, none), (65, none), (66, none), (67, none), (68, none), (69, none), (70, none), (71, none), (72, none), (73, none), (74, none), (75, none), (76, none), (77, none), (78, none), (79, none), (80, none), (81, none), (82, none), (83, none), (84, none), (85, none), (86, none), (87, none), (88, none), (89, none), (90, none), (91, none)] (.lp [(9, some (.slice)), (10, some (.int .i64)), (35, none), (36, none), (37, none), (38, none), (39, none), (40, none), (41, none), (42, none), (43, none), (44, none), (45, none), (46, none), (47, none), (48, none), (49, none), (50, none), (51, none), (52, none), (53, none), (54, none), (55, none), (56, none), (57, none), (58, none), (59, none), (60, none)] (.at_ 13 7 (.c .nil (.c .nil (.c .nil .nil))) (.k (.c .nil (.c .nil .nil))))) .nil) (.cut 0 [(13, some (.int .i64)), (92, none), (93, none), (94, none), (95, none), (96, none)] .nil (.lp [(4, none), (15, some (.int .i64)), (16, none), (17, none), (100, none), (101, none), (102, none), (103, none), (104, none), (105, none), (106, none), (107, none), (108, none), (109, none), (110, none), (111, none), (112, none), (113, none), (114, none), (115, none), (116, none), (117, none), (118, none), (119, none), (120, none), (121, none), (122, none), (123, none), (124, none), (125, none), (126, none), (127, none), (128, none), (129, none), (130, none)] (.c (.c (.c .nil .nil) (.tk 0 (.tk 1 (.tks 2 (.tk 3 (.tk 4 (.tk 5 (.tk 6 (.tk 7 (.tk 8 (.tk 9 (.tk 10 (.fin (.k .nil)))))))))) (.tk 3 (.tk 4 (.tk 5 (.tk 6 (.tk 7 (.alt 8 (.tk 9 (.tk 10 (.fin (.c .nil .nil)))) .nil)))))))))) (.cut 0 [(18, none), (19, some (.bool)), (131, none), (132, none), (133, none), (134, none), (135, none)] .nil (.at_ 36 2 .nil .nil))))))))) [(.slice promptsA promptsN promptsC), (.int .i64 cancel)] w R = coadjutorlaw24_WardFirst.vc promptsA promptsN promptsC cancel w R := by kernel_rfl
theorem coadjutorlaw24_WardFirst.calls (promptsA : Option Addr) (promptsN : Nat) (promptsC : Nat) (cancel : Int) {w : World} {R : Value → World → Prop} (h : coadjutorlaw24_WardFirst.vc promptsA promptsN promptsC cancel w R) : Calls Try.prog 3 #[(.slice promptsA promptsN promptsC), (.int .i64 cancel)] w (Ret R) :=
  calls_V fit Try.func3 (.c .nil (.c .nil (.lp [(4, none), (7, some (.slice)), (8, some (.int .i64)), (9, none), (10, none), (11, none), (12, none), (28, none), (29, none), (30, none), (31, none), (32, none), (33, none), (34, none), (35, none), (36, none), (37, none), (38, none), (39, none), (40, none), (41, none), (42, none), (43, none), (44, none), (45, none), (46, none), (47, none), (48, none), (49, none), (50, none), (51, none), (52, none), (53, none), (54, none), (55, none), (56, none), (57, none), (58, none), (59, none), (60, none), (61, none), (62, none), (63, none), (64, none), (65, none), (66, none), (67, none), (68, none), (69, none), (70, none), (71, none), (72, none), (73, none), (74, none), (75, none), (76, none), (77, none), (78, none), (79, none), (80, none), (81, none), (82, none), (83, none), (84, none), (85, none), (86, none), (87, none), (88, none), (89, none), (90, none), (91, none)] (.c (.cut 0 [(4, none), (7, some (.slice)), (9, none), (10, none), (11, none), (12, none), (34, none), (35, none), (36, none), (37, none), (38, none), (39, none), (40, none), (41, none), (42, none), (43, none), (44, none), (45, none), (46, none), (47, none), (48, none), (49, none), (50, none), (51, none), (52, none), (53, none), (54, none), (55, none), (56, none), (57, none), (58, none), (59, none), (60, none), (61, none), (62, none), (63, none), (64, none), (65, none), (66, none), (67, none), (68, none), (69, none), (70, none), (71, none), (72, none), (73, none), (74, none), (75, none), (76, none), (77, none), (78, none), (79, none), (80, none), (81, none), (82, none), (83, none), (84, none), (85, none), (86, none), (87, none), (88, none), (89, none), (90, none), (91, none)] (.lp [(9, some (.slice)), (10, some (.int .i64)), (35, none), (36, none), (37, none), (38, none), (39, none), (40, none), (41, none), (42, none), (43, none), (44, none), (45, none), (46, none), (47, none), (48, none), (49, none), (50, none), (51, none), (52, none), (53, none), (54, none), (55, none), (56, none), (57, none), (58, none), (59, none), (60, none)] (.at_ 13 7 (.c .nil (.c .nil (.c .nil .nil))) (.k (.c .nil (.c .nil .nil))))) .nil) (.cut 0 [(13, some (.int .i64)), (92, none), (93, none), (94, none), (95, none), (96, none)] .nil (.lp [(4, none), (15, some (.int .i64)), (16, none), (17, none), (100, none), (101, none), (102, none), (103, none), (104, none), (105, none), (106, none), (107, none), (108, none), (109, none), (110, none), (111, none), (112, none), (113, none), (114, none), (115, none), (116, none), (117, none), (118, none), (119, none), (120, none), (121, none), (122, none), (123, none), (124, none), (125, none), (126, none), (127, none), (128, none), (129, none), (130, none)] (.c (.c (.c .nil .nil) (.tk 0 (.tk 1 (.tks 2 (.tk 3 (.tk 4 (.tk 5 (.tk 6 (.tk 7 (.tk 8 (.tk 9 (.tk 10 (.fin (.k .nil)))))))))) (.tk 3 (.tk 4 (.tk 5 (.tk 6 (.tk 7 (.alt 8 (.tk 9 (.tk 10 (.fin (.c .nil .nil)))) .nil)))))))))) (.cut 0 [(18, none), (19, some (.bool)), (131, none), (132, none), (133, none), (134, none), (135, none)] .nil (.at_ 36 2 .nil .nil))))))))) (by rw [show (#[(.slice promptsA promptsN promptsC), (.int .i64 cancel)] : Array Value).toList = [(.slice promptsA promptsN promptsC), (.int .i64 cancel)] from rfl, coadjutorlaw24_WardFirst.vc_eq]; exact h)
/-- function 4 -/
def coadjutorlaw24_WardFull.vc (n : Int) (w : World) (R : Value → World → Prop) : Prop :=
  Calls Try.prog 9 #[] w (Ret fun v w1 => ∃ (x11 : Bool), v = (.bool x11) ∧
  ((!x11) = true →
  R (.bool false) w1) ∧
  ((!x11) = false →
  Calls Try.prog 10 #[(.int .i64 64)] w1 (Ret fun v_1 w2 => ∃ (x13 : Option Addr), v_1 = (.pointer x13) ∧
  Calls Try.prog 11 #[] w2 (Ret fun v_2 w3 => ∃ (x14 : Option Addr), v_2 = (.pointer x14) ∧
  ∃ vI : Int → Nat → World → Prop, (∃ vk_2 : Nat, vI 1 vk_2 w3) ∧
  ∀ (jk : Nat → Value) (i : Int), ∀ (vk : Nat) (w4 : World), vI i vk w4 →
  (decide (i ≤ (16 : Int)) = true →
  ∀ w5 : World, w5 = w4.alloc (.cells #[(.int .i64 1)] 3 (0, 0)) →
  Calls Try.prog 12 #[(.pointer x13), (.pointer x14), (.agg #[(.int .i64 i), (.int .i64 0), (.slice (some (⟨w4.heap.size, 0, none⟩ : Addr)) 1 1), (.int .i64 1), (.slice none 0 0)])] w5 (Ret fun v_3 w6 => ∃ (x24 : Int), v_3 = (.int .i64 x24) ∧
  ((x24 != (0 : Int)) = true →
  R (.bool false) w6) ∧
  ((x24 != (0 : Int)) = false →
  ∃ vk_1 : Nat, vk_1 < vk ∧ vI (IntKind.i64.wrap (i + 1)) vk_1 w6))) ∧
  (decide (i ≤ (16 : Int)) = false →
  (100 : Int) ≠ 0 ∧
  ∀ w7 : World, w7 = w4.alloc (.cells #[(.int .i64 1)] 3 (0, 0)) →
  Calls Try.prog 12 #[(.pointer x13), (.pointer x14), (.agg #[(.int .i64 (IntKind.i64.wrap (100 + (IntKind.i64.wrap (Int.tmod (IntKind.u64.wrap n) 100))))), (.int .i64 0), (.slice (some (⟨w4.heap.size, 0, none⟩ : Addr)) 1 1), (.int .i64 1), (.slice none 0 0)])] w7 (Ret fun v_4 w8 => ∃ (x36 : Int), v_4 = (.int .i64 x36) ∧
  ((x36 != (10 : Int)) = true →
  R (.bool false) w8) ∧
  ((x36 != (10 : Int)) = false →
  ∀ w9 : World, w9 = w8.alloc (.cells #[(.int .i64 1)] 3 (0, 0)) →
  Calls Try.prog 18 #[(.pointer x13), (.agg #[(.int .i64 (IntKind.i64.wrap (100 + (IntKind.i64.wrap (Int.tmod (IntKind.u64.wrap n) 100))))), (.int .i64 0), (.slice (some (⟨w8.heap.size, 0, none⟩ : Addr)) 1 1), (.int .i64 1), (.slice none 0 0)])] w9 (Ret fun v_5 w10 => ∃ (x43 : Int), v_5 = (.int .i64 x43) ∧
  ((x43 != (0 : Int)) = true →
  R (.bool false) w10) ∧
  ((x43 != (0 : Int)) = false →
  Calls Try.prog 18 #[(.pointer x13), (.agg #[(.int .i64 3), (.int .i64 0), (.slice none 0 0), (.int .i64 0), (.slice none 0 0)])] w10 (Ret fun v_6 w11 => ∃ (x49 : Int), v_6 = (.int .i64 x49) ∧
  ((x49 != (9 : Int)) = true →
  R (.bool false) w11) ∧
  ((x49 != (9 : Int)) = false →
  Calls Try.prog 15 #[(.pointer x13)] w11 (Ret fun v_7 w12 => ∃ (x54_00 : Int), ∃ (x54_01 : Int), ∃ (x54_02A : Option Addr), ∃ (x54_02N : Nat), ∃ (x54_02C : Nat), ∃ (x54_03 : Int), ∃ (x54_04A : Option Addr), ∃ (x54_04N : Nat), ∃ (x54_04C : Nat), ∃ (x54_1 : Bool), v_7 = (.tuple #[(.agg #[(.int .i64 x54_00), (.int .i64 x54_01), (.slice x54_02A x54_02N x54_02C), (.int .i64 x54_03), (.slice x54_04A x54_04N x54_04C)]), (.bool x54_1)]) ∧
  ∀ w13 : World, w13 = w12.alloc (.cells #[(.int .i64 0), (.int .i64 0), (.slice none 0 0), (.int .i64 0), (.slice none 0 0)] 32 (0, 0)) →
  (((∃ u, w13.cell? (⟨w12.heap.size, 0, none⟩ : Addr) = some u) ∧ w13.frozen? (⟨w12.heap.size, 0, none⟩ : Addr) = false) ∧ ((∃ u, w13.cell? (⟨w12.heap.size, 1, none⟩ : Addr) = some u) ∧ w13.frozen? (⟨w12.heap.size, 1, none⟩ : Addr) = false) ∧ ((∃ u, w13.cell? (⟨w12.heap.size, 2, none⟩ : Addr) = some u) ∧ w13.frozen? (⟨w12.heap.size, 2, none⟩ : Addr) = false) ∧ ((∃ u, w13.cell? (⟨w12.heap.size, 3, none⟩ : Addr) = some u) ∧ w13.frozen? (⟨w12.heap.size, 3, none⟩ : Addr) = false) ∧ ((∃ u, w13.cell? (⟨w12.heap.size, 4, none⟩ : Addr) = some u) ∧ w13.frozen? (⟨w12.heap.size, 4, none⟩ : Addr) = false)) ∧ ∀ w14 : World, w14 = (((((w13.setCell (⟨w12.heap.size, 0, none⟩ : Addr) (.int .i64 x54_00)).setCell (⟨w12.heap.size, 1, none⟩ : Addr) (.int .i64 x54_01)).setCell (⟨w12.heap.size, 2, none⟩ : Addr) (.slice x54_02A x54_02N x54_02C)).setCell (⟨w12.heap.size, 3, none⟩ : Addr) (.int .i64 x54_03)).setCell (⟨w12.heap.size, 4, none⟩ : Addr) (.slice x54_04A x54_04N x54_04C)) →
  Calls Try.prog 15 #[(.pointer x13)] w14 (Ret fun v_8 w15 => ∃ (x59_00 : Int), ∃ (x59_01 : Int), ∃ (x59_02A : Option Addr), ∃ (x59_02N : Nat), ∃ (x59_02C : Nat), ∃ (x59_03 : Int), ∃ (x59_04A : Option Addr), ∃ (x59_04N : Nat), ∃ (x59_04C : Nat), ∃ (x59_1 : Bool), v_8 = (.tuple #[(.agg #[(.int .i64 x59_00), (.int .i64 x59_01), (.slice x59_02A x59_02N x59_02C), (.int .i64 x59_03), (.slice x59_04A x59_04N x59_04C)]), (.bool x59_1)]) ∧
  ∀ w16 : World, w16 = w15.alloc (.cells #[(.int .i64 0), (.int .i64 0), (.slice none 0 0), (.int .i64 0), (.slice none 0 0)] 32 (0, 0)) →
  (((∃ u, w16.cell? (⟨w15.heap.size, 0, none⟩ : Addr) = some u) ∧ w16.frozen? (⟨w15.heap.size, 0, none⟩ : Addr) = false) ∧ ((∃ u, w16.cell? (⟨w15.heap.size, 1, none⟩ : Addr) = some u) ∧ w16.frozen? (⟨w15.heap.size, 1, none⟩ : Addr) = false) ∧ ((∃ u, w16.cell? (⟨w15.heap.size, 2, none⟩ : Addr) = some u) ∧ w16.frozen? (⟨w15.heap.size, 2, none⟩ : Addr) = false) ∧ ((∃ u, w16.cell? (⟨w15.heap.size, 3, none⟩ : Addr) = some u) ∧ w16.frozen? (⟨w15.heap.size, 3, none⟩ : Addr) = false) ∧ ((∃ u, w16.cell? (⟨w15.heap.size, 4, none⟩ : Addr) = some u) ∧ w16.frozen? (⟨w15.heap.size, 4, none⟩ : Addr) = false)) ∧ ∀ w17 : World, w17 = (((((w16.setCell (⟨w15.heap.size, 0, none⟩ : Addr) (.int .i64 x59_00)).setCell (⟨w15.heap.size, 1, none⟩ : Addr) (.int .i64 x59_01)).setCell (⟨w15.heap.size, 2, none⟩ : Addr) (.slice x59_02A x59_02N x59_02C)).setCell (⟨w15.heap.size, 3, none⟩ : Addr) (.int .i64 x59_03)).setCell (⟨w15.heap.size, 4, none⟩ : Addr) (.slice x59_04A x59_04N x59_04C)) →
  (x54_1 = true →
  (x59_1 = true →
  ∃ (x68 : Int), w17.cell? (⟨w12.heap.size, 0, none⟩ : Addr) = some (.int .i64 x68) ∧
  ((x68 == (IntKind.i64.wrap (100 + (IntKind.i64.wrap (Int.tmod (IntKind.u64.wrap n) 100))))) = true →
  ∃ (x74 : Int), w17.cell? (⟨w15.heap.size, 0, none⟩ : Addr) = some (.int .i64 x74) ∧
  ((x74 == (1 : Int)) = true →
  Calls Try.prog 17 #[(.pointer x13)] w17 (Ret fun v_9 w18 => ∃ (x79A : Option Addr), ∃ (x79N : Nat), ∃ (x79C : Nat), v_9 = (.slice x79A x79N x79C) ∧
  R (.bool (((x79N : Nat) : Int) == (15 : Int))) w18)) ∧
  ((x74 == (1 : Int)) = false →
  R (.bool false) w17)) ∧
  ((x68 == (IntKind.i64.wrap (100 + (IntKind.i64.wrap (Int.tmod (IntKind.u64.wrap n) 100))))) = false →
  R (.bool false) w17)) ∧
  (x59_1 = false →
  R (.bool false) w17)) ∧
  (x54_1 = false →
  R (.bool false) w17))))))))))))))
theorem coadjutorlaw24_WardFull.vc_eq (n : Int) (w : World) (R : Value → World → Prop) : fnV Try.prog Try.f4 (.c .nil (.lp [(2, none), (5, some (.int .i64)), (15, none), (16, none), (17, none), (18, none), (19, none), (20, none), (21, none), (22, none), (23, none), (24, none), (25, none)] (.c (.c .nil .nil) (.at_ 11 7 (.k .nil) (.at_ 11 15 (.k .nil) (.c .nil (.at_ 15 1 (.at_ 15 4 (.at_ 15 10 (.at_ 15 15 .nil .nil) .nil) .nil) .nil))))))) [(.int .i64 n)] w R = coadjutorlaw24_WardFull.vc n w R := by kernel_rfl
theorem coadjutorlaw24_WardFull.calls (n : Int) {w : World} {R : Value → World → Prop} (h : coadjutorlaw24_WardFull.vc n w R) : Calls Try.prog 4 #[(.int .i64 n)] w (Ret R) :=
  calls_V fit Try.func4 (.c .nil (.lp [(2, none), (5, some (.int .i64)), (15, none), (16, none), (17, none), (18, none), (19, none), (20, none), (21, none), (22, none), (23, none), (24, none), (25, none)] (.c (.c .nil .nil) (.at_ 11 7 (.k .nil) (.at_ 11 15 (.k .nil) (.c .nil (.at_ 15 1 (.at_ 15 4 (.at_ 15 10 (.at_ 15 15 .nil .nil) .nil) .nil) .nil))))))) (by rw [show (#[(.int .i64 n)] : Array Value).toList = [(.int .i64 n)] from rfl, coadjutorlaw24_WardFull.vc_eq]; exact h)
end Go.Proofs.Ytamkffjmggbekaa.Vc
