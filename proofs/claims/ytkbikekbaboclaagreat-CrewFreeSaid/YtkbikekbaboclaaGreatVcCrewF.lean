import Derived.Test.YtkbikekbaboclaaGreatVc
import Derived.Test.YtkbikekbaboclaaGreatH
import Derived.Test.YtkbikekbaboclaaGreatProg
import Derived.KernelRfl
set_option linter.unusedVariables false
set_option maxRecDepth 100000
namespace Go.Proofs.YtkbikekbaboclaaGreat.Vc
open Go Go.Proofs Go.Proofs.YtkbikekbaboclaaGreat.V
/-- function 3 -/
def coadjutorlaw25_CrewFree.vc (weights : ByteArray) (actsA : Option Addr) (actsN : Nat) (actsC : Nat) (w : World) (R : Value → World → Prop) : Prop :=
  Calls Tryz.prog 7 #[] w (Ret fun v w1 => ∃ x12 : Bool, v = (.bool x12) ∧
  ((!x12) = true →
  R (.bool false) w1) ∧
  ((!x12) = false →
  Calls Tryz.prog 8 #[(.string weights)] w1 (Ret fun v_1 w2 => ∃ (x16_00 x16_01 : Option Addr) (x16_10 x16_11 x16_12 x16_13 x16_14 x16_15 : Int) (x16_16 : ByteArray) (x16_17 x16_18 x16_19 x16_110 x16_111 x16_112 : Int) (x16_113 : ByteArray), v_1 = (.tuple #[(.agg #[(.pointer x16_00), (.pointer x16_01)]), (.agg #[(.int .i64 x16_10), (.int .i64 x16_11), (.int .i64 x16_12), (.int .i64 x16_13), (.int .i64 x16_14), (.int .i64 x16_15), (.string x16_16), (.int .i64 x16_17), (.int .i64 x16_18), (.int .i64 x16_19), (.int .i64 x16_110), (.int .i64 x16_111), (.int .i64 x16_112), (.string x16_113)])]) ∧
  ∀ w3 : World, w3 = w2.alloc (.cells #[(.pointer none), (.pointer none)] 25 (0, 0)) →
  ∀ w4 : World, w4 = w3.alloc (.cells #[(.int .i64 0), (.int .i64 0), (.int .i64 0), (.int .i64 0), (.int .i64 0), (.int .i64 0), (.string ByteArray.empty), (.int .i64 0), (.int .i64 0), (.int .i64 0), (.int .i64 0), (.int .i64 0), (.int .i64 0), (.string ByteArray.empty)] 30 (0, 0)) →
  (Okc w4 ⟨w2.heap.size, 0, none⟩ ∧ Okc w4 ⟨w2.heap.size, 1, none⟩) ∧ ∀ w5 : World, w5 = ((w4.setCell ⟨w2.heap.size, 0, none⟩ (.pointer x16_00)).setCell ⟨w2.heap.size, 1, none⟩ (.pointer x16_01)) →
  (Okc w5 ⟨w3.heap.size, 0, none⟩ ∧ Okc w5 ⟨w3.heap.size, 1, none⟩ ∧ Okc w5 ⟨w3.heap.size, 2, none⟩ ∧ Okc w5 ⟨w3.heap.size, 3, none⟩ ∧ Okc w5 ⟨w3.heap.size, 4, none⟩ ∧ Okc w5 ⟨w3.heap.size, 5, none⟩ ∧ Okc w5 ⟨w3.heap.size, 6, none⟩ ∧ Okc w5 ⟨w3.heap.size, 7, none⟩ ∧ Okc w5 ⟨w3.heap.size, 8, none⟩ ∧ Okc w5 ⟨w3.heap.size, 9, none⟩ ∧ Okc w5 ⟨w3.heap.size, 10, none⟩ ∧ Okc w5 ⟨w3.heap.size, 11, none⟩ ∧ Okc w5 ⟨w3.heap.size, 12, none⟩ ∧ Okc w5 ⟨w3.heap.size, 13, none⟩) ∧ ∀ w6 : World, w6 = ((((((((((((((w5.setCell ⟨w3.heap.size, 0, none⟩ (.int .i64 x16_10)).setCell ⟨w3.heap.size, 1, none⟩ (.int .i64 x16_11)).setCell ⟨w3.heap.size, 2, none⟩ (.int .i64 x16_12)).setCell ⟨w3.heap.size, 3, none⟩ (.int .i64 x16_13)).setCell ⟨w3.heap.size, 4, none⟩ (.int .i64 x16_14)).setCell ⟨w3.heap.size, 5, none⟩ (.int .i64 x16_15)).setCell ⟨w3.heap.size, 6, none⟩ (.string x16_16)).setCell ⟨w3.heap.size, 7, none⟩ (.int .i64 x16_17)).setCell ⟨w3.heap.size, 8, none⟩ (.int .i64 x16_18)).setCell ⟨w3.heap.size, 9, none⟩ (.int .i64 x16_19)).setCell ⟨w3.heap.size, 10, none⟩ (.int .i64 x16_110)).setCell ⟨w3.heap.size, 11, none⟩ (.int .i64 x16_111)).setCell ⟨w3.heap.size, 12, none⟩ (.int .i64 x16_112)).setCell ⟨w3.heap.size, 13, none⟩ (.string x16_113)) →
  Calls Tryz.prog 9 #[(.int .i64 9)] w6 (Ret fun v_2 w7 => ∃ x19 : Option Addr, v_2 = (.pointer x19) ∧
  ∃ J : World → Prop, (∃ vI : Int → Nat → World → Prop, (∃ vk_2 : Nat, vI 0 vk_2 w7) ∧
  ∀ (jk : Nat → Value) (i : Int), ∀ (vk : Nat) (w8 : World), vI i vk w8 →
  (decide (i < (actsN : Int)) = true →
  (decide (i < (60 : Int)) = true →
  (0 ≤ i ∧ i < (actsN : Int)) ∧ someV actsA fun p =>
  ∃ (x330 x331 x332 x333 : Int) (x334A : Option Addr) (x334N x334C : Nat) (x335 : Int) (x336A : Option Addr) (x336N x336C : Nat), (w8.cell? (p.add (i.toNat * 7)) = some (.int .i64 x330) ∧ w8.cell? ((p.add (i.toNat * 7)).add 1) = some (.int .i64 x331) ∧ w8.cell? ((p.add (i.toNat * 7)).add 2) = some (.int .i64 x332) ∧ w8.cell? ((p.add (i.toNat * 7)).add 3) = some (.int .i64 x333) ∧ w8.cell? ((p.add (i.toNat * 7)).add 4) = some (.slice x334A x334N x334C) ∧ w8.cell? ((p.add (i.toNat * 7)).add 5) = some (.int .i64 x335) ∧ w8.cell? ((p.add (i.toNat * 7)).add 6) = some (.slice x336A x336N x336C)) ∧
  ∀ w9 : World, w9 = w8.alloc (.cells #[(.int .i64 0), (.int .i64 0), (.int .i64 0), (.int .i64 0), (.slice none 0 0), (.int .i64 0), (.slice none 0 0)] 39 (0, 0)) →
  (Okc w9 ⟨w8.heap.size, 0, none⟩ ∧ Okc w9 ⟨w8.heap.size, 1, none⟩ ∧ Okc w9 ⟨w8.heap.size, 2, none⟩ ∧ Okc w9 ⟨w8.heap.size, 3, none⟩ ∧ Okc w9 ⟨w8.heap.size, 4, none⟩ ∧ Okc w9 ⟨w8.heap.size, 5, none⟩ ∧ Okc w9 ⟨w8.heap.size, 6, none⟩) ∧ ∀ w10 : World, w10 = (((((((w9.setCell ⟨w8.heap.size, 0, none⟩ (.int .i64 x330)).setCell ⟨w8.heap.size, 1, none⟩ (.int .i64 x331)).setCell ⟨w8.heap.size, 2, none⟩ (.int .i64 x332)).setCell ⟨w8.heap.size, 3, none⟩ (.int .i64 x333)).setCell ⟨w8.heap.size, 4, none⟩ (.slice x334A x334N x334C)).setCell ⟨w8.heap.size, 5, none⟩ (.int .i64 x335)).setCell ⟨w8.heap.size, 6, none⟩ (.slice x336A x336N x336C)) →
  ∃ (x36A : Option Addr) (x36N x36C : Nat), w10.cell? ⟨w8.heap.size, 4, none⟩ = some (.slice x36A x36N x36C) ∧
  (decide ((x36N : Int) > (40 : Int)) = true →
  R (.bool true) w10) ∧
  (decide ((x36N : Int) > (40 : Int)) = false →
  ∃ (x42A : Option Addr) (x42N x42C : Nat), w10.cell? ⟨w8.heap.size, 6, none⟩ = some (.slice x42A x42N x42C) ∧
  (decide ((x42N : Int) > (40 : Int)) = true →
  R (.bool true) w10) ∧
  (decide ((x42N : Int) > (40 : Int)) = false →
  ∃ J_1 : World → Prop, (∃ x47 : Int, w10.cell? ⟨w8.heap.size, 0, none⟩ = some (.int .i64 x47) ∧
  (decide (x47 < (3 : Int)) = true →
  ∃ x51 : Int, w10.cell? ⟨w8.heap.size, 3, none⟩ = some (.int .i64 x51) ∧
  (2 : Int) ≠ 0 ∧
  (Okc w10 ⟨w8.heap.size, 3, none⟩) ∧ ∀ w11 : World, w11 = (w10.setCell ⟨w8.heap.size, 3, none⟩ (.int .i64 (IntKind.i64.wrap (1 + (IntKind.i64.wrap (Int.tmod (IntKind.u64.wrap x51) 2)))))) →
  ∃ vS : World → Prop, ∀ w12 : World, w12 = w11.drew → vS w12 ∧
  ∃ x61 : Int, (∀ w13, vS w13 → w13.cell? ⟨w8.heap.size, 3, none⟩ = some (.int .i64 x61)) ∧
  (2 : Int) ≠ 0 ∧
  (0 ≤ (Int.tmod x61 2) ∧ (Int.tmod x61 2) < (2 : Int)) ∧
  ∃ x64 : Option Addr, (∀ w14, vS w14 → w14.cell? ((⟨w2.heap.size, 0, none⟩ : Addr).add ((Int.tmod x61 2).toNat * 1)) = some (.pointer x64)) ∧
  ∃ (x660 x661 : Int) (x662A : Option Addr) (x662N x662C : Nat) (x663 : Int) (x664A : Option Addr) (x664N x664C : Nat), ((∀ w15, vS w15 → w15.cell? ⟨w8.heap.size, 2, none⟩ = some (.int .i64 x660)) ∧ (∀ w15, vS w15 → w15.cell? ⟨w8.heap.size, 3, none⟩ = some (.int .i64 x661)) ∧ (∀ w15, vS w15 → w15.cell? ⟨w8.heap.size, 4, none⟩ = some (.slice x662A x662N x662C)) ∧ (∀ w15, vS w15 → w15.cell? ⟨w8.heap.size, 5, none⟩ = some (.int .i64 x663)) ∧ (∀ w15, vS w15 → w15.cell? ⟨w8.heap.size, 6, none⟩ = some (.slice x664A x664N x664C))) ∧
  Calls Tryz.prog 10 #[(.pointer x19), (.pointer x64), (.agg #[(.int .i64 x660), (.int .i64 x661), (.slice x662A x662N x662C), (.int .i64 x663), (.slice x664A x664N x664C)])] w12 (Ret fun v_3 w16 => ∃ x67 : Int, v_3 = (.int .i64 x67) ∧
  vS w16 ∧
  J_1 w16)) ∧
  (decide (x47 < (3 : Int)) = false →
  ∃ x70 : Int, w10.cell? ⟨w8.heap.size, 1, none⟩ = some (.int .i64 x70) ∧
  Calls Tryz.prog 11 #[(.pointer x19), (.int .i64 x70)] w10 (Ret fun v_4 w17 => ∃ (x71_00 : Int) (x71_01 x71_02 : Bool) (x71_03A : Option Addr) (x71_03N x71_03C : Nat) (x71_04A : Option Addr) (x71_04N x71_04C : Nat) (x71_1 : Int), v_4 = (.tuple #[(.agg #[(.int .i64 x71_00), (.bool x71_01), (.bool x71_02), (.slice x71_03A x71_03N x71_03C), (.slice x71_04A x71_04N x71_04C)]), (.int .i64 x71_1)]) ∧
  J_1 w17))) ∧
  ∀ (jk : Nat → Value), ∀ w18 : World, J_1 w18 →
  Calls Tryz.prog 12 #[(.pointer x19)] w18 (Ret fun v_5 w19 => ∃ x73 : Int, v_5 = (.int .i64 x73) ∧
  (decide (x73 < (0 : Int)) = true →
  R (.bool false) w19) ∧
  (decide (x73 < (0 : Int)) = false →
  Calls Tryz.prog 12 #[(.pointer x19)] w19 (Ret fun v_6 w20 => ∃ x77 : Int, v_6 = (.int .i64 x77) ∧
  Calls Tryz.prog 13 #[(.pointer x19)] w20 (Ret fun v_7 w21 => ∃ x79 : Int, v_7 = (.int .i64 x79) ∧
  (decide ((IntKind.i64.wrap (x77 + x79)) > (9 : Int)) = true →
  R (.bool false) w21) ∧
  (decide ((IntKind.i64.wrap (x77 + x79)) > (9 : Int)) = false →
  ∃ vk_1 : Nat, vk_1 < vk ∧ vI (IntKind.i64.wrap (i + 1)) vk_1 w21)))))))) ∧
  (decide (i < (60 : Int)) = false →
  J w8)) ∧
  (decide (i < (actsN : Int)) = false →
  J w8)) ∧
  ∀ (jk : Nat → Value), ∀ w22 : World, J w22 →
  ∃ vI_1 : Nat → World → Prop, (∃ vk_5 : Nat, vI_1 vk_5 w22) ∧
  ∀ (jk : Nat → Value), ∀ (vk_3 : Nat) (w23 : World), vI_1 vk_3 w23 →
  Calls Tryz.prog 14 #[(.pointer x19)] w23 (Ret fun v_8 w24 => ∃ (x84A : Option Addr) (x84N x84C : Nat), v_8 = (.slice x84A x84N x84C) ∧
  (decide ((x84N : Int) > (0 : Int)) = true →
  Calls Tryz.prog 14 #[(.pointer x19)] w24 (Ret fun v_9 w25 => ∃ (x88A : Option Addr) (x88N x88C : Nat), v_9 = (.slice x88A x88N x88C) ∧
  (0 ≤ (0 : Int) ∧ (0 : Int) < (x88N : Int)) ∧ someV x88A fun p_1 =>
  ∃ x90 : Int, w25.cell? p_1 = some (.int .i64 x90) ∧
  Calls Tryz.prog 15 #[(.pointer x19), (.int .i64 x90)] w25 (Ret fun v_10 w26 => ∃ x93 : Bool, v_10 = (.bool x93) ∧
  ((!x93) = true →
  R (.bool false) w26) ∧
  ((!x93) = false →
  Calls Tryz.prog 15 #[(.pointer x19), (.int .i64 x90)] w26 (Ret fun v_11 w27 => ∃ x98 : Bool, v_11 = (.bool x98) ∧
  (x98 = true →
  R (.bool false) w27) ∧
  (x98 = false →
  ∃ vk_4 : Nat, vk_4 < vk_3 ∧ vI_1 vk_4 w27)))))) ∧
  (decide ((x84N : Int) > (0 : Int)) = false →
  Calls Tryz.prog 12 #[(.pointer x19)] w24 (Ret fun v_12 w28 => ∃ x101 : Int, v_12 = (.int .i64 x101) ∧
  Calls Tryz.prog 13 #[(.pointer x19)] w28 (Ret fun v_13 w29 => ∃ x103 : Int, v_13 = (.int .i64 x103) ∧
  (((IntKind.i64.wrap (x101 + x103)) != (9 : Int)) = true →
  R (.bool false) w29) ∧
  (((IntKind.i64.wrap (x101 + x103)) != (9 : Int)) = false →
  Calls Tryz.prog 13 #[(.pointer x19)] w29 (Ret fun v_14 w30 => ∃ x107 : Int, v_14 = (.int .i64 x107) ∧
  Calls Tryz.prog 16 #[(.pointer x19), (.int .i64 1)] w30 (Ret fun v_15 w31 => ∃ x109 : Int, v_15 = (.int .i64 x109) ∧
  Calls Tryz.prog 16 #[(.pointer x19), (.int .i64 2)] w31 (Ret fun v_16 w32 => ∃ x111 : Int, v_16 = (.int .i64 x111) ∧
  (((IntKind.i64.wrap (x109 + x111)) == x107) = true →
  Calls Tryz.prog 12 #[(.pointer x19)] w32 (Ret fun v_17 w33 => ∃ x117 : Int, v_17 = (.int .i64 x117) ∧
  R (.bool (x117 == (9 : Int))) w33)) ∧
  (((IntKind.i64.wrap (x109 + x111)) == x107) = false →
  R (.bool false) w32)))))))))))))
theorem coadjutorlaw25_CrewFree.calls (weights : ByteArray) (actsA : Option Addr) (actsN : Nat) (actsC : Nat) {w : World} {R : Value → World → Prop} (h : coadjutorlaw25_CrewFree.vc weights actsA actsN actsC w R) : Calls Tryz.prog 3 #[(.string weights), (.slice actsA actsN actsC)] w (Ret R) :=
  calls_V fit Tryz.func3 (.c .nil (.cut 2 ([(4, none), (8, none), (9, none)] ++ nn 20 63) (.lp ([(4, none), (8, some (.int .i64)), (9, none)] ++ nn 20 63) (.at_ 6 4 (.c (.at_ 9 5 (.k .nil) (.c .nil (.cut 0 (nn 46 26) (.c (.tk 0 (.tk 1 (.tk 2 (.tk 3 (.tk 4 (.tk 5 (.tk 6 (.tk 7 (.tk 8 (.alt 9 (.fin .nil) .nil)))))))))) .nil) (.at_ 15 3 (.k .nil) (.c .nil .nil))))) .nil) (.k .nil))) (.lp ([(4, none), (10, none)] ++ nn 83 17) (.c (.at_ 19 4 (.k .nil) (.c .nil .nil)) (.c .nil (.at_ 24 7 .nil .nil)))))) (Eq.mpr (by kernel_rfl) h)
end Go.Proofs.YtkbikekbaboclaaGreat.Vc
