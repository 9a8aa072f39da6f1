import Derived.Test.YtpcddfhfchempaaVc
import Derived.Test.YtpcddfhfchempaaH
import Derived.Test.YtpcddfhfchempaaProg
import Derived.KernelRfl
set_option linter.unusedVariables false
set_option maxRecDepth 100000
namespace Go.Proofs.Ytpcddfhfchempaa.Vc
open Go Go.Proofs Go.Proofs.Ytpcddfhfchempaa.V
/-- function 4 -/
def coadjutorlaw22_PagesApart.vc (putsA : Option Addr) (putsN : Nat) (putsC : Nat) (share : Int) (w : World) (R : Value → World → Prop) : Prop :=
  Calls Try.prog 11 #[] w (Ret fun v w1 => ∃ (x20 : Bool), v = (.bool x20) ∧
  ((!x20) = true →
  R (.bool false) w1) ∧
  ((!x20) = false →
  Calls Try.prog 12 #[(.int .i64 10)] w1 (Ret fun v_1 w2 => ∃ (x22 : Option Addr), v_1 = (.pointer x22) ∧
  ∃ vI : Int → Nat → World → Prop, (∃ vk_2 : Nat, vI 0 vk_2 w2) ∧
  ∀ (jk : Nat → Value) (i : Int), ∀ (vk : Nat) (w3 : World), vI i vk w3 →
  (decide (i < (10 : Int)) = true →
  Calls Try.prog 17 #[(.pointer x22), (.int .i64 (IntKind.i64.wrap (i + 1)))] w3 (Ret fun v_2 w4 => ∃ (x31_0 : Int), ∃ (x31_1 : Int), v_2 = (.tuple #[(.int .i64 x31_0), (.int .i64 x31_1)]) ∧
  ((x31_1 != (0 : Int)) = true →
  R (.bool false) w4) ∧
  ((x31_1 != (0 : Int)) = false →
  ((x31_0 != i) = true →
  R (.bool false) w4) ∧
  ((x31_0 != i) = false →
  ∃ vk_1 : Nat, vk_1 < vk ∧ vI (IntKind.i64.wrap (i + 1)) vk_1 w4)))) ∧
  (decide (i < (10 : Int)) = false →
  Calls Try.prog 17 #[(.pointer x22), (.int .i64 1)] w3 (Ret fun v_3 w5 => ∃ (x43_0 : Int), ∃ (x43_1 : Int), v_3 = (.tuple #[(.int .i64 x43_0), (.int .i64 x43_1)]) ∧
  ((x43_1 != (11 : Int)) = true →
  R (.bool false) w5) ∧
  ((x43_1 != (11 : Int)) = false →
  ∀ w6 : World, w6 = w5.alloc (.cells #[(.slice none 0 0), (.slice none 0 0), (.slice none 0 0), (.slice none 0 0), (.slice none 0 0), (.slice none 0 0), (.slice none 0 0), (.slice none 0 0), (.slice none 0 0), (.slice none 0 0)] 43 (0, 0)) →
  (((∃ u, w6.cell? (⟨w5.heap.size, 0, none⟩ : Addr) = some u) ∧ w6.frozen? (⟨w5.heap.size, 0, none⟩ : Addr) = false) ∧ ((∃ u, w6.cell? (⟨w5.heap.size, 1, none⟩ : Addr) = some u) ∧ w6.frozen? (⟨w5.heap.size, 1, none⟩ : Addr) = false) ∧ ((∃ u, w6.cell? (⟨w5.heap.size, 2, none⟩ : Addr) = some u) ∧ w6.frozen? (⟨w5.heap.size, 2, none⟩ : Addr) = false) ∧ ((∃ u, w6.cell? (⟨w5.heap.size, 3, none⟩ : Addr) = some u) ∧ w6.frozen? (⟨w5.heap.size, 3, none⟩ : Addr) = false) ∧ ((∃ u, w6.cell? (⟨w5.heap.size, 4, none⟩ : Addr) = some u) ∧ w6.frozen? (⟨w5.heap.size, 4, none⟩ : Addr) = false) ∧ ((∃ u, w6.cell? (⟨w5.heap.size, 5, none⟩ : Addr) = some u) ∧ w6.frozen? (⟨w5.heap.size, 5, none⟩ : Addr) = false) ∧ ((∃ u, w6.cell? (⟨w5.heap.size, 6, none⟩ : Addr) = some u) ∧ w6.frozen? (⟨w5.heap.size, 6, none⟩ : Addr) = false) ∧ ((∃ u, w6.cell? (⟨w5.heap.size, 7, none⟩ : Addr) = some u) ∧ w6.frozen? (⟨w5.heap.size, 7, none⟩ : Addr) = false) ∧ ((∃ u, w6.cell? (⟨w5.heap.size, 8, none⟩ : Addr) = some u) ∧ w6.frozen? (⟨w5.heap.size, 8, none⟩ : Addr) = false) ∧ ((∃ u, w6.cell? (⟨w5.heap.size, 9, none⟩ : Addr) = some u) ∧ w6.frozen? (⟨w5.heap.size, 9, none⟩ : Addr) = false)) ∧ ∀ w7 : World, w7 = ((((((((((w6.setCell (⟨w5.heap.size, 0, none⟩ : Addr) (.slice none 0 0)).setCell (⟨w5.heap.size, 1, none⟩ : Addr) (.slice none 0 0)).setCell (⟨w5.heap.size, 2, none⟩ : Addr) (.slice none 0 0)).setCell (⟨w5.heap.size, 3, none⟩ : Addr) (.slice none 0 0)).setCell (⟨w5.heap.size, 4, none⟩ : Addr) (.slice none 0 0)).setCell (⟨w5.heap.size, 5, none⟩ : Addr) (.slice none 0 0)).setCell (⟨w5.heap.size, 6, none⟩ : Addr) (.slice none 0 0)).setCell (⟨w5.heap.size, 7, none⟩ : Addr) (.slice none 0 0)).setCell (⟨w5.heap.size, 8, none⟩ : Addr) (.slice none 0 0)).setCell (⟨w5.heap.size, 9, none⟩ : Addr) (.slice none 0 0)) →
  ∃ J : World → Prop, (∃ vI_1 : Int → Nat → World → Prop, (∃ vk_5 : Nat, vI_1 0 vk_5 w7) ∧
  ∀ (jk : Nat → Value) (i_1 : Int), ∀ (vk_3 : Nat) (w8 : World), vI_1 i_1 vk_3 w8 →
  (decide (i_1 < ((putsN : Nat) : Int)) = true →
  (decide (i_1 < (40 : Int)) = true →
  (0 ≤ i_1 ∧ i_1 < ((putsN : Nat) : Int)) ∧ someV putsA fun p =>
  ∃ (x62 : Int), w8.cell? (p.add (i_1.toNat * 1)) = some (.int .i64 x62) ∧
  (10 : Int) ≠ 0 ∧
  (0 ≤ i_1 ∧ i_1 < ((putsN : Nat) : Int)) ∧ someV putsA fun p_1 =>
  ∃ (x69 : Int), w8.cell? (p_1.add (i_1.toNat * 1)) = some (.int .i64 x69) ∧
  Calls Try.prog 16 #[(.int .i64 x69)] w8 (Ret fun v_4 w9 => ∃ (x700A : Option Addr), ∃ (x700N : Nat), ∃ (x700C : Nat), ∃ (x701A : Option Addr), ∃ (x701N : Nat), ∃ (x701C : Nat), v_4 = (.agg #[(.slice x700A x700N x700C), (.slice x701A x701N x701C)]) ∧
  ∀ w10 : World, w10 = w9.alloc (.cells #[(.slice none 0 0), (.slice none 0 0)] 35 (0, 0)) →
  (((∃ u, w10.cell? (⟨w9.heap.size, 0, none⟩ : Addr) = some u) ∧ w10.frozen? (⟨w9.heap.size, 0, none⟩ : Addr) = false) ∧ ((∃ u, w10.cell? (⟨w9.heap.size, 1, none⟩ : Addr) = some u) ∧ w10.frozen? (⟨w9.heap.size, 1, none⟩ : Addr) = false)) ∧ ∀ w11 : World, w11 = ((w10.setCell (⟨w9.heap.size, 0, none⟩ : Addr) (.slice x700A x700N x700C)).setCell (⟨w9.heap.size, 1, none⟩ : Addr) (.slice x701A x701N x701C)) →
  ∃ (x730A : Option Addr), ∃ (x730N : Nat), ∃ (x730C : Nat), ∃ (x731A : Option Addr), ∃ (x731N : Nat), ∃ (x731C : Nat), (w11.cell? (⟨w9.heap.size, 0, none⟩ : Addr) = some (.slice x730A x730N x730C) ∧ w11.cell? (⟨w9.heap.size, 1, none⟩ : Addr) = some (.slice x731A x731N x731C)) ∧
  Calls Try.prog 15 #[(.pointer x22), (.int .i64 (IntKind.i64.wrap (Int.tmod (IntKind.u64.wrap x62) 10))), (.agg #[(.slice x730A x730N x730C), (.slice x731A x731N x731C)])] w11 (Ret fun v_5 w12 => ∃ (x74 : Int), v_5 = (.int .i64 x74) ∧
  (0 ≤ (IntKind.i64.wrap (Int.tmod (IntKind.u64.wrap x62) 10)) ∧ (IntKind.i64.wrap (Int.tmod (IntKind.u64.wrap x62) 10)) < (10 : Int)) ∧
  ∃ (x79A : Option Addr), ∃ (x79N : Nat), ∃ (x79C : Nat), w12.cell? ((⟨w5.heap.size, 0, none⟩ : Addr).add ((IntKind.i64.wrap (Int.tmod (IntKind.u64.wrap x62) 10)).toNat * 1)) = some (.slice x79A x79N x79C) ∧
  ((!((x74 == (0 : Int)) == (decide (((x79N : Nat) : Int) < (4 : Int))))) = true →
  R (.bool false) w12) ∧
  ((!((x74 == (0 : Int)) == (decide (((x79N : Nat) : Int) < (4 : Int))))) = false →
  ∃ J_1 : World → Prop, (((x74 == (0 : Int)) = true →
  ∃ vS : World → Prop, ∀ w13 : World, w13 = w12.drew → vS w13 ∧
  (0 ≤ (IntKind.i64.wrap (Int.tmod (IntKind.u64.wrap x62) 10)) ∧ (IntKind.i64.wrap (Int.tmod (IntKind.u64.wrap x62) 10)) < (10 : Int)) ∧
  ∃ (x88A : Option Addr), ∃ (x88N : Nat), ∃ (x88C : Nat), (∀ w14, vS w14 → w14.cell? ((⟨w5.heap.size, 0, none⟩ : Addr).add ((IntKind.i64.wrap (Int.tmod (IntKind.u64.wrap x62) 10)).toNat * 1)) = some (.slice x88A x88N x88C)) ∧
  (0 ≤ i_1 ∧ i_1 < ((putsN : Nat) : Int)) ∧ someV putsA fun p_2 =>
  ∃ (x92 : Int), (∀ w15, vS w15 → w15.cell? (p_2.add (i_1.toNat * 1)) = some (.int .i64 x92)) ∧
  ∀ w16 : World, w16 = w13.alloc (.cells #[(.int .i64 x92)] 3 (0, 0)) →
  vS w16 ∧
  ∃ (x94A : Option Addr), ∃ (x94N : Nat), ∃ (x94C : Nat), ∃ w17 : World, (Builtin.append_ #[27, 27] 27 #[(.slice x88A x88N x88C), (.slice (some (⟨w13.heap.size, 0, none⟩ : Addr)) 1 1)]).run Try.prog w16 = .ok (.slice x94A x94N x94C) w17 ∧
  vS w17 ∧
  (0 ≤ (IntKind.i64.wrap (Int.tmod (IntKind.u64.wrap x62) 10)) ∧ (IntKind.i64.wrap (Int.tmod (IntKind.u64.wrap x62) 10)) < (10 : Int)) ∧
  (((∃ u, w17.cell? ((⟨w5.heap.size, 0, none⟩ : Addr).add ((IntKind.i64.wrap (Int.tmod (IntKind.u64.wrap x62) 10)).toNat * 1)) = some u) ∧ w17.frozen? ((⟨w5.heap.size, 0, none⟩ : Addr).add ((IntKind.i64.wrap (Int.tmod (IntKind.u64.wrap x62) 10)).toNat * 1)) = false)) ∧ ∀ w18 : World, w18 = (w17.setCell ((⟨w5.heap.size, 0, none⟩ : Addr).add ((IntKind.i64.wrap (Int.tmod (IntKind.u64.wrap x62) 10)).toNat * 1)) (.slice x94A x94N x94C)) →
  J_1 w18) ∧
  ((x74 == (0 : Int)) = false →
  J_1 w12)) ∧
  ∀ (jk : Nat → Value), ∀ w19 : World, J_1 w19 →
  ∃ (x97A : Option Addr), ∃ (x97N : Nat), ∃ (x97C : Nat), w19.cell? (⟨w9.heap.size, 0, none⟩ : Addr) = some (.slice x97A x97N x97C) ∧
  (0 ≤ (0 : Int) ∧ (0 : Int) < ((x97N : Nat) : Int)) ∧ someV x97A fun p_3 =>
  ∃ (x99A : Option Addr), ∃ (x99N : Nat), ∃ (x99C : Nat), w19.cell? p_3 = some (.slice x99A x99N x99C) ∧
  (0 ≤ (0 : Int) ∧ (0 : Int) < ((x99N : Nat) : Int)) ∧ someV x99A fun p_4 =>
  (((∃ u, w19.cell? p_4 = some u) ∧ w19.frozen? p_4 = false)) ∧ ∀ w20 : World, w20 = (w19.setCell p_4 (.int .i64 12345)) →
  ∃ vk_4 : Nat, vk_4 < vk_3 ∧ vI_1 (IntKind.i64.wrap (i_1 + 1)) vk_4 w20)))) ∧
  (decide (i_1 < (40 : Int)) = false →
  J w8)) ∧
  (decide (i_1 < ((putsN : Nat) : Int)) = false →
  J w8)) ∧
  ∀ (jk : Nat → Value), ∀ w21 : World, J w21 →
  (10 : Int) ≠ 0 ∧
  ∃ J_2 : World → Prop, (∀ w22 : World, w22 = w21.alloc (.cells #[(.int .i64 (IntKind.i64.wrap (Int.tmod (IntKind.u64.wrap share) 10))), (.int .i64 (IntKind.i64.wrap (Int.tmod (IntKind.u64.wrap share) 10)))] 3 (0, 0)) →
  Calls Try.prog 13 #[(.pointer x22), (.slice (some (⟨w21.heap.size, 0, none⟩ : Addr)) 2 2)] w22 (Ret fun v_6 w23 => ∃ (x109 : Int), v_6 = (.int .i64 x109) ∧
  ((x109 != (0 : Int)) = true →
  R (.bool false) w23) ∧
  ((x109 != (0 : Int)) = false →
  Calls Try.prog 16 #[(.int .i64 1)] w23 (Ret fun v_7 w24 => ∃ (x1140A : Option Addr), ∃ (x1140N : Nat), ∃ (x1140C : Nat), ∃ (x1141A : Option Addr), ∃ (x1141N : Nat), ∃ (x1141C : Nat), v_7 = (.agg #[(.slice x1140A x1140N x1140C), (.slice x1141A x1141N x1141C)]) ∧
  Calls Try.prog 15 #[(.pointer x22), (.int .i64 (IntKind.i64.wrap (Int.tmod (IntKind.u64.wrap share) 10))), (.agg #[(.slice x1140A x1140N x1140C), (.slice x1141A x1141N x1141C)])] w24 (Ret fun v_8 w25 => ∃ (x115 : Int), v_8 = (.int .i64 x115) ∧
  ((x115 != (7 : Int)) = true →
  R (.bool false) w25) ∧
  ((x115 != (7 : Int)) = false →
  ∀ w26 : World, w26 = w25.alloc (.cells #[(.int .i64 (IntKind.i64.wrap (Int.tmod (IntKind.u64.wrap share) 10)))] 3 (0, 0)) →
  Calls Try.prog 14 #[(.pointer x22), (.slice (some (⟨w25.heap.size, 0, none⟩ : Addr)) 1 1)] w26 (Ret fun v_9 w27 => ∃ (x122 : Int), v_9 = (.int .i64 x122) ∧
  ((x122 != (0 : Int)) = true →
  R (.bool false) w27) ∧
  ((x122 != (0 : Int)) = false →
  Calls Try.prog 20 #[(.pointer x22), (.int .i64 (IntKind.i64.wrap (Int.tmod (IntKind.u64.wrap share) 10)))] w27 (Ret fun v_10 w28 => ∃ (x128 : Int), v_10 = (.int .i64 x128) ∧
  ((x128 != (2 : Int)) = true →
  R (.bool false) w28) ∧
  ((x128 != (2 : Int)) = false →
  J_2 w28)))))))))) ∧
  ∀ (jk : Nat → Value), ∀ w29 : World, J_2 w29 →
  ∃ vI_2 : Int → Nat → World → Prop, (∃ vk_8 : Nat, vI_2 0 vk_8 w29) ∧
  ∀ (jk : Nat → Value) (id : Int), ∀ (vk_6 : Nat) (w30 : World), vI_2 id vk_6 w30 →
  (decide (id < (10 : Int)) = true →
  ∀ w31 : World, w31 = w30.alloc (.cells #[(.int .i64 id)] 3 (0, 0)) →
  Calls Try.prog 21 #[(.pointer x22), (.slice (some (⟨w30.heap.size, 0, none⟩ : Addr)) 1 1)] w31 (Ret fun v_11 w32 => ∃ (x138A : Option Addr), ∃ (x138N : Nat), ∃ (x138C : Nat), v_11 = (.slice x138A x138N x138C) ∧
  (0 ≤ id ∧ id < (10 : Int)) ∧
  ∃ (x143A : Option Addr), ∃ (x143N : Nat), ∃ (x143C : Nat), w32.cell? ((⟨w5.heap.size, 0, none⟩ : Addr).add (id.toNat * 1)) = some (.slice x143A x143N x143C) ∧
  ((((x138N : Nat) : Int) != ((x143N : Nat) : Int)) = true →
  R (.bool false) w32) ∧
  ((((x138N : Nat) : Int) != ((x143N : Nat) : Int)) = false →
  ∃ vI_3 : Int → Nat → World → Prop, (∃ vk_11 : Nat, vI_3 0 vk_11 w32) ∧
  ∀ (jk : Nat → Value) (n : Int), ∀ (vk_9 : Nat) (w33 : World), vI_3 n vk_9 w33 →
  (decide (n < ((x138N : Nat) : Int)) = true →
  ∃ vS_1 : World → Prop, ∀ w34 : World, w34 = w33.drew → vS_1 w34 ∧
  (0 ≤ n ∧ n < ((x138N : Nat) : Int)) ∧ someV x138A fun p_5 =>
  ∃ (x1550A : Option Addr), ∃ (x1550N : Nat), ∃ (x1550C : Nat), ∃ (x1551A : Option Addr), ∃ (x1551N : Nat), ∃ (x1551C : Nat), ((∀ w35, vS_1 w35 → w35.cell? (p_5.add (n.toNat * 2)) = some (.slice x1550A x1550N x1550C)) ∧ (∀ w35, vS_1 w35 → w35.cell? ((p_5.add (n.toNat * 2)).add 1) = some (.slice x1551A x1551N x1551C))) ∧
  (0 ≤ id ∧ id < (10 : Int)) ∧
  ∃ (x158A : Option Addr), ∃ (x158N : Nat), ∃ (x158C : Nat), (∀ w36, vS_1 w36 → w36.cell? ((⟨w5.heap.size, 0, none⟩ : Addr).add (id.toNat * 1)) = some (.slice x158A x158N x158C)) ∧
  (0 ≤ n ∧ n < ((x158N : Nat) : Int)) ∧ someV x158A fun p_6 =>
  ∃ (x161 : Int), (∀ w37, vS_1 w37 → w37.cell? (p_6.add (n.toNat * 1)) = some (.int .i64 x161)) ∧
  Calls Try.prog 16 #[(.int .i64 x161)] w34 (Ret fun v_12 w38 => ∃ (x1620A : Option Addr), ∃ (x1620N : Nat), ∃ (x1620C : Nat), ∃ (x1621A : Option Addr), ∃ (x1621N : Nat), ∃ (x1621C : Nat), v_12 = (.agg #[(.slice x1620A x1620N x1620C), (.slice x1621A x1621N x1621C)]) ∧
  vS_1 w38 ∧
  Calls Try.prog 22 #[(.agg #[(.slice x1550A x1550N x1550C), (.slice x1551A x1551N x1551C)]), (.agg #[(.slice x1620A x1620N x1620C), (.slice x1621A x1621N x1621C)])] w38 (Ret fun v_13 w39 => ∃ (x163 : Bool), v_13 = (.bool x163) ∧
  vS_1 w39 ∧
  ((!x163) = true →
  R (.bool false) w39) ∧
  ((!x163) = false →
  (0 ≤ n ∧ n < ((x138N : Nat) : Int)) ∧ someV x138A fun p_7 =>
  ∃ (x169A : Option Addr), ∃ (x169N : Nat), ∃ (x169C : Nat), w39.cell? ((p_7.add (n.toNat * 2)).add 1) = some (.slice x169A x169N x169C) ∧
  (0 ≤ (0 : Int) ∧ (0 : Int) < ((x169N : Nat) : Int)) ∧ someV x169A fun p_8 =>
  ∃ (x171A : Option Addr), ∃ (x171N : Nat), ∃ (x171C : Nat), w39.cell? p_8 = some (.slice x171A x171N x171C) ∧
  (0 ≤ (0 : Int) ∧ (0 : Int) < ((x171N : Nat) : Int)) ∧ someV x171A fun p_9 =>
  (((∃ u, w39.cell? p_9 = some u) ∧ w39.frozen? p_9 = false)) ∧ ∀ w40 : World, w40 = (w39.setCell p_9 (.int .i64 777)) →
  ∃ vS_2 : World → Prop, ∀ w41 : World, w41 = w40.drew → vS_2 w41 ∧
  (0 ≤ id ∧ id < (10 : Int)) ∧
  ∃ (x182A : Option Addr), ∃ (x182N : Nat), ∃ (x182C : Nat), (∀ w42, vS_2 w42 → w42.cell? ((⟨w5.heap.size, 0, none⟩ : Addr).add (id.toNat * 1)) = some (.slice x182A x182N x182C)) ∧
  (0 ≤ n ∧ n < ((x182N : Nat) : Int)) ∧ someV x182A fun p_10 =>
  ∃ (x185 : Int), (∀ w43, vS_2 w43 → w43.cell? (p_10.add (n.toNat * 1)) = some (.int .i64 x185)) ∧
  ∀ w44 : World, w44 = w41.alloc (.cells #[(.int .i64 id)] 3 (0, 0)) →
  vS_2 w44 ∧
  Calls Try.prog 21 #[(.pointer x22), (.slice (some (⟨w41.heap.size, 0, none⟩ : Addr)) 1 1)] w44 (Ret fun v_14 w45 => ∃ (x176A : Option Addr), ∃ (x176N : Nat), ∃ (x176C : Nat), v_14 = (.slice x176A x176N x176C) ∧
  vS_2 w45 ∧
  (0 ≤ n ∧ n < ((x176N : Nat) : Int)) ∧ someV x176A fun p_11 =>
  (∃ (x1790A : Option Addr), ∃ (x1790N : Nat), ∃ (x1790C : Nat), ∃ (x1791A : Option Addr), ∃ (x1791N : Nat), ∃ (x1791C : Nat), (w45.cell? (p_11.add (n.toNat * 2)) = some (.slice x1790A x1790N x1790C) ∧ w45.cell? ((p_11.add (n.toNat * 2)).add 1) = some (.slice x1791A x1791N x1791C)) ∧
  vS_2 w45 ∧
  Calls Try.prog 16 #[(.int .i64 x185)] w45 (Ret fun v_15 w46 => ∃ (x1860A : Option Addr), ∃ (x1860N : Nat), ∃ (x1860C : Nat), ∃ (x1861A : Option Addr), ∃ (x1861N : Nat), ∃ (x1861C : Nat), v_15 = (.agg #[(.slice x1860A x1860N x1860C), (.slice x1861A x1861N x1861C)]) ∧
  vS_2 w46 ∧
  Calls Try.prog 22 #[(.agg #[(.slice x1790A x1790N x1790C), (.slice x1791A x1791N x1791C)]), (.agg #[(.slice x1860A x1860N x1860C), (.slice x1861A x1861N x1861C)])] w46 (Ret fun v_16 w47 => ∃ (x187 : Bool), v_16 = (.bool x187) ∧
  vS_2 w47 ∧
  ((!x187) = true →
  R (.bool false) w47) ∧
  ((!x187) = false →
  ∃ vk_10 : Nat, vk_10 < vk_9 ∧ vI_3 (IntKind.i64.wrap (n + 1)) vk_10 w47)))) ∧ (Calls Try.prog 16 #[(.int .i64 x185)] w45 (Ret fun v_17 w48 => ∃ (x1860A_1 : Option Addr), ∃ (x1860N_1 : Nat), ∃ (x1860C_1 : Nat), ∃ (x1861A_1 : Option Addr), ∃ (x1861N_1 : Nat), ∃ (x1861C_1 : Nat), v_17 = (.agg #[(.slice x1860A_1 x1860N_1 x1860C_1), (.slice x1861A_1 x1861N_1 x1861C_1)]) ∧
  vS_2 w48 ∧
  ∃ (x1790A_1 : Option Addr), ∃ (x1790N_1 : Nat), ∃ (x1790C_1 : Nat), ∃ (x1791A_1 : Option Addr), ∃ (x1791N_1 : Nat), ∃ (x1791C_1 : Nat), (w48.cell? (p_11.add (n.toNat * 2)) = some (.slice x1790A_1 x1790N_1 x1790C_1) ∧ w48.cell? ((p_11.add (n.toNat * 2)).add 1) = some (.slice x1791A_1 x1791N_1 x1791C_1)) ∧
  vS_2 w48 ∧
  Calls Try.prog 22 #[(.agg #[(.slice x1790A_1 x1790N_1 x1790C_1), (.slice x1791A_1 x1791N_1 x1791C_1)]), (.agg #[(.slice x1860A_1 x1860N_1 x1860C_1), (.slice x1861A_1 x1861N_1 x1861C_1)])] w48 (Ret fun v_18 w49 => ∃ (x187_1 : Bool), v_18 = (.bool x187_1) ∧
  vS_2 w49 ∧
  ((!x187_1) = true →
  R (.bool false) w49) ∧
  ((!x187_1) = false →
  ∃ vk_10 : Nat, vk_10 < vk_9 ∧ vI_3 (IntKind.i64.wrap (n + 1)) vk_10 w49)))) ∧ True))))) ∧
  (decide (n < ((x138N : Nat) : Int)) = false →
  ∃ vk_7 : Nat, vk_7 < vk_6 ∧ vI_2 (IntKind.i64.wrap (id + 1)) vk_7 w33)))) ∧
  (decide (id < (10 : Int)) = false →
  R (.bool true) w30)))))))
theorem coadjutorlaw22_PagesApart.vc_eq (putsA : Option Addr) (putsN : Nat) (putsC : Nat) (share : Int) (w : World) (R : Value → World → Prop) : fnV Try.prog Try.f4 (.c .nil (.lp [(4, none), (6, some (.int .i64)), (7, none), (8, none), (23, none), (24, none), (25, none), (26, none), (27, none), (28, none), (29, none), (30, none), (31, none), (32, none), (33, none), (34, none), (35, none), (36, none), (37, none), (38, none), (39, none), (40, none)] (.c (.at_ 8 2 (.k .nil) (.c .nil .nil)) (.c .nil (.cut 1 [(4, none), (12, none), (13, none), (14, none), (15, none), (49, none), (50, none), (51, none), (52, none), (53, none), (54, none), (55, none), (56, none), (57, none), (58, none), (59, none), (60, none), (61, none), (62, none), (63, none), (64, none), (65, none), (66, none), (67, none), (68, none), (69, none), (70, none), (71, none), (72, none), (73, none), (74, none), (75, none), (76, none), (77, none), (78, none), (79, none), (80, none), (81, none), (82, none), (83, none), (84, none), (85, none), (86, none), (87, none), (88, none), (89, none), (90, none), (91, none), (92, none), (93, none), (94, none), (95, none), (96, none), (97, none), (98, none), (99, none), (100, none)] (.lp [(4, none), (12, some (.int .i64)), (13, none), (14, none), (15, none), (49, none), (50, none), (51, none), (52, none), (53, none), (54, none), (55, none), (56, none), (57, none), (58, none), (59, none), (60, none), (61, none), (62, none), (63, none), (64, none), (65, none), (66, none), (67, none), (68, none), (69, none), (70, none), (71, none), (72, none), (73, none), (74, none), (75, none), (76, none), (77, none), (78, none), (79, none), (80, none), (81, none), (82, none), (83, none), (84, none), (85, none), (86, none), (87, none), (88, none), (89, none), (90, none), (91, none), (92, none), (93, none), (94, none), (95, none), (96, none), (97, none), (98, none), (99, none), (100, none)] (.at_ 15 4 (.c (.c .nil (.cut 0 [(83, none), (84, none), (85, none), (86, none), (87, none), (88, none), (89, none), (90, none), (91, none), (92, none), (93, none), (94, none), (95, none)] (.c (.tk 0 (.tk 1 (.tk 2 (.tk 3 (.tk 4 (.tk 5 (.tk 6 (.tk 7 (.alt 8 (.alt 9 (.tk 10 (.last 11 .nil)) .nil) .nil))))))))) .nil) .nil)) .nil) (.k .nil))) (.cut 1 [(4, none), (105, none), (106, none), (107, none), (108, none), (109, none), (110, none), (111, none), (112, none), (113, none), (114, none), (115, none), (116, none), (117, none), (118, none), (119, none), (120, none), (121, none), (122, none), (123, none), (124, none), (125, none), (126, none), (127, none), (128, none), (129, none), (130, none)] (.at_ 26 6 (.k .nil) (.at_ 26 13 (.k .nil) (.at_ 26 20 (.k .nil) (.c .nil .nil)))) (.lp [(4, none), (17, some (.int .i64)), (18, none), (19, none), (131, none), (132, none), (133, none), (134, none), (135, none), (136, none), (137, none), (138, none), (139, none), (140, none), (141, none), (142, none), (143, none), (144, none), (145, none), (146, none), (147, none), (148, none), (149, none), (150, none), (151, none), (152, none), (153, none), (154, none), (155, none), (156, none), (157, none), (158, none), (159, none), (160, none), (161, none), (162, none), (163, none), (164, none), (165, none), (166, none), (167, none), (168, none), (169, none), (170, none), (171, none), (172, none), (173, none), (174, none), (175, none), (176, none), (177, none), (178, none), (179, none), (180, none), (181, none), (182, none), (183, none), (184, none), (185, none), (186, none), (187, none), (188, none)] (.c (.c .nil (.lp [(4, none), (19, some (.int .i64)), (146, none), (147, none), (148, none), (149, none), (150, none), (151, none), (152, none), (153, none), (154, none), (155, none), (156, none), (157, none), (158, none), (159, none), (160, none), (161, none), (162, none), (163, none), (164, none), (165, none), (166, none), (167, none), (168, none), (169, none), (170, none), (171, none), (172, none), (173, none), (174, none), (175, none), (176, none), (177, none), (178, none), (179, none), (180, none), (181, none), (182, none), (183, none), (184, none), (185, none), (186, none), (187, none), (188, none)] (.c (.tk 0 (.tk 1 (.tk 2 (.tk 3 (.tk 4 (.tk 5 (.tk 6 (.tk 7 (.tk 8 (.tk 9 (.alt 10 (.alt 11 (.tk 12 (.fin (.c .nil (.tk 0 (.tk 1 (.tk 4 (.tk 7 (.tk 8 (.tk 9 (.tk 10 (.tk 11 (.tk 12 (.alt 2 (.alt 3 (.tk 5 (.alt 6 (.alt 13 (.alt 14 (.tk 15 (.fin (.c .nil .nil))) .nil) .nil) (.alt 13 (.alt 6 (.alt 14 (.tk 15 (.fin (.c .nil .nil))) .nil) .nil) .nil))) .nil) .nil))))))))))))) .nil) .nil))))))))))) .nil))) .nil)))))))) [(.slice putsA putsN putsC), (.int .i64 share)] w R = coadjutorlaw22_PagesApart.vc putsA putsN putsC share w R := by kernel_rfl
theorem coadjutorlaw22_PagesApart.calls (putsA : Option Addr) (putsN : Nat) (putsC : Nat) (share : Int) {w : World} {R : Value → World → Prop} (h : coadjutorlaw22_PagesApart.vc putsA putsN putsC share w R) : Calls Try.prog 4 #[(.slice putsA putsN putsC), (.int .i64 share)] w (Ret R) :=
  calls_V fit Try.func4 (.c .nil (.lp [(4, none), (6, some (.int .i64)), (7, none), (8, none), (23, none), (24, none), (25, none), (26, none), (27, none), (28, none), (29, none), (30, none), (31, none), (32, none), (33, none), (34, none), (35, none), (36, none), (37, none), (38, none), (39, none), (40, none)] (.c (.at_ 8 2 (.k .nil) (.c .nil .nil)) (.c .nil (.cut 1 [(4, none), (12, none), (13, none), (14, none), (15, none), (49, none), (50, none), (51, none), (52, none), (53, none), (54, none), (55, none), (56, none), (57, none), (58, none), (59, none), (60, none), (61, none), (62, none), (63, none), (64, none), (65, none), (66, none), (67, none), (68, none), (69, none), (70, none), (71, none), (72, none), (73, none), (74, none), (75, none), (76, none), (77, none), (78, none), (79, none), (80, none), (81, none), (82, none), (83, none), (84, none), (85, none), (86, none), (87, none), (88, none), (89, none), (90, none), (91, none), (92, none), (93, none), (94, none), (95, none), (96, none), (97, none), (98, none), (99, none), (100, none)] (.lp [(4, none), (12, some (.int .i64)), (13, none), (14, none), (15, none), (49, none), (50, none), (51, none), (52, none), (53, none), (54, none), (55, none), (56, none), (57, none), (58, none), (59, none), (60, none), (61, none), (62, none), (63, none), (64, none), (65, none), (66, none), (67, none), (68, none), (69, none), (70, none), (71, none), (72, none), (73, none), (74, none), (75, none), (76, none), (77, none), (78, none), (79, none), (80, none), (81, none), (82, none), (83, none), (84, none), (85, none), (86, none), (87, none), (88, none), (89, none), (90, none), (91, none), (92, none), (93, none), (94, none), (95, none), (96, none), (97, none), (98, none), (99, none), (100, none)] (.at_ 15 4 (.c (.c .nil (.cut 0 [(83, none), (84, none), (85, none), (86, none), (87, none), (88, none), (89, none), (90, none), (91, none), (92, none), (93, none), (94, none), (95, none)] (.c (.tk 0 (.tk 1 (.tk 2 (.tk 3 (.tk 4 (.tk 5 (.tk 6 (.tk 7 (.alt 8 (.alt 9 (.tk 10 (.last 11 .nil)) .nil) .nil))))))))) .nil) .nil)) .nil) (.k .nil))) (.cut 1 [(4, none), (105, none), (106, none), (107, none), (108, none), (109, none), (110, none), (111, none), (112, none), (113, none), (114, none), (115, none), (116, none), (117, none), (118, none), (119, none), (120, none), (121, none), (122, none), (123, none), (124, none), (125, none), (126, none), (127, none), (128, none), (129, none), (130, none)] (.at_ 26 6 (.k .nil) (.at_ 26 13 (.k .nil) (.at_ 26 20 (.k .nil) (.c .nil .nil)))) (.lp [(4, none), (17, some (.int .i64)), (18, none), (19, none), (131, none), (132, none), (133, none), (134, none), (135, none), (136, none), (137, none), (138, none), (139, none), (140, none), (141, none), (142, none), (143, none), (144, none), (145, none), (146, none), (147, none), (148, none), (149, none), (150, none), (151, none), (152, none), (153, none), (154, none), (155, none), (156, none), (157, none), (158, none), (159, none), (160, none), (161, none), (162, none), (163, none), (164, none), (165, none), (166, none), (167, none), (168, none), (169, none), (170, none), (171, none), (172, none), (173, none), (174, none), (175, none), (176, none), (177, none), (178, none), (179, none), (180, none), (181, none), (182, none), (183, none), (184, none), (185, none), (186, none), (187, none), (188, none)] (.c (.c .nil (.lp [(4, none), (19, some (.int .i64)), (146, none), (147, none), (148, none), (149, none), (150, none), (151, none), (152, none), (153, none), (154, none), (155, none), (156, none), (157, none), (158, none), (159, none), (160, none), (161, none), (162, none), (163, none), (164, none), (165, none), (166, none), (167, none), (168, none), (169, none), (170, none), (171, none), (172, none), (173, none), (174, none), (175, none), (176, none), (177, none), (178, none), (179, none), (180, none), (181, none), (182, none), (183, none), (184, none), (185, none), (186, none), (187, none), (188, none)] (.c (.tk 0 (.tk 1 (.tk 2 (.tk 3 (.tk 4 (.tk 5 (.tk 6 (.tk 7 (.tk 8 (.tk 9 (.alt 10 (.alt 11 (.tk 12 (.fin (.c .nil (.tk 0 (.tk 1 (.tk 4 (.tk 7 (.tk 8 (.tk 9 (.tk 10 (.tk 11 (.tk 12 (.alt 2 (.alt 3 (.tk 5 (.alt 6 (.alt 13 (.alt 14 (.tk 15 (.fin (.c .nil .nil))) .nil) .nil) (.alt 13 (.alt 6 (.alt 14 (.tk 15 (.fin (.c .nil .nil))) .nil) .nil) .nil))) .nil) .nil))))))))))))) .nil) .nil))))))))))) .nil))) .nil)))))))) (by rw [show (#[(.slice putsA putsN putsC), (.int .i64 share)] : Array Value).toList = [(.slice putsA putsN putsC), (.int .i64 share)] from rfl, coadjutorlaw22_PagesApart.vc_eq]; exact h)
end Go.Proofs.Ytpcddfhfchempaa.Vc
