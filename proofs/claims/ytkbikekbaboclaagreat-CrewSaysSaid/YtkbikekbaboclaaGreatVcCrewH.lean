import Derived.Test.YtkbikekbaboclaaGreatVc
import Derived.Test.YtkbikekbaboclaaGreatH
import Derived.Test.YtkbikekbaboclaaGreatProg
import Derived.KernelRfl
set_option linter.unusedVariables false
set_option maxRecDepth 100000
namespace Go.Proofs.YtkbikekbaboclaaGreat.Vc
open Go Go.Proofs V
def coadjutorlaw25_shape.vc (w : World) (R : Value → World → Prop) : Prop :=
 ∀ w1 : World, w1 = w.alloc (.cells #[(.int .i64 0), (.int .i64 0), (.int .i64 0), (.int .i64 0), (.int .i64 0), (.int .i64 0)] 27 (0, 0)) →
 (Okc w1 ⟨w.heap.size, 0, none⟩ ∧ Okc w1 ⟨w.heap.size, 1, none⟩ ∧ Okc w1 ⟨w.heap.size, 2, none⟩ ∧ Okc w1 ⟨w.heap.size, 3, none⟩ ∧ Okc w1 ⟨w.heap.size, 4, none⟩ ∧ Okc w1 ⟨w.heap.size, 5, none⟩) ∧ ∀ w2 : World, w2 = ((((((w1.setCell ⟨w.heap.size, 0, none⟩ (.int .i64 4)).setCell ⟨w.heap.size, 1, none⟩ (.int .i64 2)).setCell ⟨w.heap.size, 2, none⟩ (.int .i64 1)).setCell ⟨w.heap.size, 3, none⟩ (.int .i64 1)).setCell ⟨w.heap.size, 4, none⟩ (.int .i64 2)).setCell ⟨w.heap.size, 5, none⟩ (.int .i64 12)) →
 ∃ r00 r01 r02 r03 r04 r05 : Int, (w2.cell? ⟨w.heap.size, 0, none⟩ = some (.int .i64 r00) ∧ w2.cell? ⟨w.heap.size, 1, none⟩ = some (.int .i64 r01) ∧ w2.cell? ⟨w.heap.size, 2, none⟩ = some (.int .i64 r02) ∧ w2.cell? ⟨w.heap.size, 3, none⟩ = some (.int .i64 r03) ∧ w2.cell? ⟨w.heap.size, 4, none⟩ = some (.int .i64 r04) ∧ w2.cell? ⟨w.heap.size, 5, none⟩ = some (.int .i64 r05)) ∧
 R (.agg #[(.int .i64 r00), (.int .i64 r01), (.int .i64 r02), (.int .i64 r03), (.int .i64 r04), (.int .i64 r05)]) w2
theorem coadjutorlaw25_shape.calls {w : World} {R : Value → World → Prop} (h : coadjutorlaw25_shape.vc  w R) : Calls Tryz.prog 35 #[] w (Ret R) :=
 calls_V fit Tryz.func35 .nil (Eq.mpr (by kernel_rfl) h)
def coadjutorlaw25_models.vc (w1 : ByteArray) (w : World) (R : Value → World → Prop) : Prop :=
 ∀ w2 : World, w2 = w.alloc (.cells #[(.pointer none), (.pointer none)] 25 (0, 0)) →
 ∀ w3 : World, w3 = w2.alloc (.cells #[(.int .i64 0), (.int .i64 0), (.int .i64 0), (.int .i64 0), (.int .i64 0), (.int .i64 0), (.string ByteArray.empty), (.int .i64 0), (.int .i64 0), (.int .i64 0), (.int .i64 0), (.int .i64 0), (.int .i64 0), (.string ByteArray.empty)] 30 (0, 0)) →
 ∀ w4 : World, w4 = w3.alloc (.cells #[(.pointer none), (.pointer none)] 25 (0, 0)) →
 (Okc w4 ⟨w3.heap.size, 0, none⟩ ∧ Okc w4 ⟨w3.heap.size, 1, none⟩) ∧ ∀ w5 : World, w5 = ((w4.setCell ⟨w3.heap.size, 0, none⟩ (.pointer none)).setCell ⟨w3.heap.size, 1, none⟩ (.pointer none)) →
 ∀ w6 : World, w6 = w5.alloc (.cells #[(.int .i64 0), (.int .i64 0), (.int .i64 0), (.int .i64 0), (.int .i64 0), (.int .i64 0), (.string ByteArray.empty), (.int .i64 0), (.int .i64 0), (.int .i64 0), (.int .i64 0), (.int .i64 0), (.int .i64 0), (.string ByteArray.empty)] 30 (0, 0)) →
 (Okc w6 ⟨w5.heap.size, 0, none⟩ ∧ Okc w6 ⟨w5.heap.size, 1, none⟩ ∧ Okc w6 ⟨w5.heap.size, 2, none⟩ ∧ Okc w6 ⟨w5.heap.size, 3, none⟩ ∧ Okc w6 ⟨w5.heap.size, 4, none⟩ ∧ Okc w6 ⟨w5.heap.size, 5, none⟩ ∧ Okc w6 ⟨w5.heap.size, 6, none⟩ ∧ Okc w6 ⟨w5.heap.size, 7, none⟩ ∧ Okc w6 ⟨w5.heap.size, 8, none⟩ ∧ Okc w6 ⟨w5.heap.size, 9, none⟩ ∧ Okc w6 ⟨w5.heap.size, 10, none⟩ ∧ Okc w6 ⟨w5.heap.size, 11, none⟩ ∧ Okc w6 ⟨w5.heap.size, 12, none⟩ ∧ Okc w6 ⟨w5.heap.size, 13, none⟩) ∧ ∀ w7 : World, w7 = ((((((((((((((w6.setCell ⟨w5.heap.size, 0, none⟩ (.int .i64 0)).setCell ⟨w5.heap.size, 1, none⟩ (.int .i64 0)).setCell ⟨w5.heap.size, 2, none⟩ (.int .i64 0)).setCell ⟨w5.heap.size, 3, none⟩ (.int .i64 0)).setCell ⟨w5.heap.size, 4, none⟩ (.int .i64 0)).setCell ⟨w5.heap.size, 5, none⟩ (.int .i64 0)).setCell ⟨w5.heap.size, 6, none⟩ (.string ByteArray.empty)).setCell ⟨w5.heap.size, 7, none⟩ (.int .i64 0)).setCell ⟨w5.heap.size, 8, none⟩ (.int .i64 0)).setCell ⟨w5.heap.size, 9, none⟩ (.int .i64 0)).setCell ⟨w5.heap.size, 10, none⟩ (.int .i64 0)).setCell ⟨w5.heap.size, 11, none⟩ (.int .i64 0)).setCell ⟨w5.heap.size, 12, none⟩ (.int .i64 0)).setCell ⟨w5.heap.size, 13, none⟩ (.string ByteArray.empty)) →
 ∃ vI : Int → Nat → World → Prop, (∃ vk_2 : Nat, vI 0 vk_2 w7) ∧
 ∀ (jk : Nat → Value) (i : Int), ∀ (vk : Nat) (w8 : World), vI i vk w8 →
 (decide (i < (2 : Int)) = true →
 ((66 : Int) = (66 : Int) ∧ 0 ≤ (66 : Int) ∧ (66 : Int) * (1 : Int) ≤ 140737488355328) ∧ ∀ w9 : World, w9 = w8.alloc (.cells (zeroRow [(.int .u8 0)] (66 : Int).toNat).toArray 5 (0, 0)) →
 ∃ J : World → Prop, (∃ vI_1 : Int → Nat → World → Prop, (∃ vk_5 : Nat, vI_1 0 vk_5 w9) ∧
 ∀ (jk : Nat → Value) (vk_6 : Int), ∀ (vk_3 : Nat) (w10 : World), vI_1 vk_6 vk_3 w10 →
 (decide (vk_6 < (((66 : Int).toNat : Nat) : Int)) = true →
 (decide ((IntKind.i64.wrap (vk_6 + i)) < (w1.size : Int)) = true →
 (0 ≤ (IntKind.i64.wrap (vk_6 + i)) ∧ (IntKind.i64.wrap (vk_6 + i)) < (w1.size : Int)) ∧
 (0 ≤ vk_6 ∧ vk_6 < (((66 : Int).toNat : Nat) : Int)) ∧
 (Okc w10 ((⟨w8.heap.size, 0, none⟩ : Addr).add (vk_6.toNat * 1))) ∧ ∀ w11 : World, w11 = (w10.setCell ((⟨w8.heap.size, 0, none⟩ : Addr).add (vk_6.toNat * 1)) (.int .u8 (bt w1 (IntKind.i64.wrap (vk_6 + i))))) →
 ∃ vk_4 : Nat, vk_4 < vk_3 ∧ vI_1 (IntKind.i64.wrap (vk_6 + 1)) vk_4 w11) ∧
 (decide ((IntKind.i64.wrap (vk_6 + i)) < (w1.size : Int)) = false →
 J w10)) ∧
 (decide (vk_6 < (((66 : Int).toNat : Nat) : Int)) = false →
 J w10)) ∧
 ∀ (jk : Nat → Value), ∀ w12 : World, J w12 →
 ∃ J_1 : World → Prop, (∃ vS : World → Prop, ∀ w13 : World, w13 = w12.drew → vS w13 ∧
 (Calls Tryz.prog 35 #[] w13 (Ret fun v w14 => ∃ x400 x401 x402 x403 x404 x405 : Int, v = (.agg #[(.int .i64 x400), (.int .i64 x401), (.int .i64 x402), (.int .i64 x403), (.int .i64 x404), (.int .i64 x405)]) ∧
 vS w14 ∧
 ∃ x42 : ByteArray, ∃ w15 : World, (convert 85 9 (.slice (some ⟨w8.heap.size, 0, none⟩) ((66 : Int).toNat) ((66 : Int).toNat))).run Tryz.prog w14 = .ok (.string x42) w15 ∧
 vS w15 ∧
 Calls Tryz.prog 34 #[(.agg #[(.int .i64 x400), (.int .i64 x401), (.int .i64 x402), (.int .i64 x403), (.int .i64 x404), (.int .i64 x405)]), (.string x42)] w15 (Ret fun v_1 w16 => ∃ (x43_0 : Option Addr) (x43_1 : Int), v_1 = (.tuple #[(.pointer x43_0), (.int .i64 x43_1)]) ∧
 vS w16 ∧
 (0 ≤ i ∧ i < (2 : Int)) ∧
 (Okc w16 ((⟨w3.heap.size, 0, none⟩ : Addr).add (i.toNat * 1))) ∧ ∀ w17 : World, w17 = (w16.setCell ((⟨w3.heap.size, 0, none⟩ : Addr).add (i.toNat * 1)) (.pointer x43_0)) →
 J_1 w17))) ∧ (∃ x42_1 : ByteArray, ∃ w18 : World, (convert 85 9 (.slice (some ⟨w8.heap.size, 0, none⟩) ((66 : Int).toNat) ((66 : Int).toNat))).run Tryz.prog w13 = .ok (.string x42_1) w18 ∧
 vS w18 ∧
 Calls Tryz.prog 35 #[] w18 (Ret fun v_2 w19 => ∃ x400_1 x401_1 x402_1 x403_1 x404_1 x405_1 : Int, v_2 = (.agg #[(.int .i64 x400_1), (.int .i64 x401_1), (.int .i64 x402_1), (.int .i64 x403_1), (.int .i64 x404_1), (.int .i64 x405_1)]) ∧
 vS w19 ∧
 Calls Tryz.prog 34 #[(.agg #[(.int .i64 x400_1), (.int .i64 x401_1), (.int .i64 x402_1), (.int .i64 x403_1), (.int .i64 x404_1), (.int .i64 x405_1)]), (.string x42_1)] w19 (Ret fun v_3 w20 => ∃ (x43_0_1 : Option Addr) (x43_1_1 : Int), v_3 = (.tuple #[(.pointer x43_0_1), (.int .i64 x43_1_1)]) ∧
 vS w20 ∧
 (0 ≤ i ∧ i < (2 : Int)) ∧
 (Okc w20 ((⟨w3.heap.size, 0, none⟩ : Addr).add (i.toNat * 1))) ∧ ∀ w21 : World, w21 = (w20.setCell ((⟨w3.heap.size, 0, none⟩ : Addr).add (i.toNat * 1)) (.pointer x43_0_1)) →
 J_1 w21))) ∧ True) ∧
 ∀ (jk : Nat → Value), ∀ w22 : World, J_1 w22 →
 ∃ vS_1 : World → Prop, ∀ w23 : World, w23 = w22.drew → vS_1 w23 ∧
 (Calls Tryz.prog 35 #[] w23 (Ret fun v_4 w24 => ∃ x480 x481 x482 x483 x484 x485 : Int, v_4 = (.agg #[(.int .i64 x480), (.int .i64 x481), (.int .i64 x482), (.int .i64 x483), (.int .i64 x484), (.int .i64 x485)]) ∧
 vS_1 w24 ∧
 ∃ x50 : ByteArray, ∃ w25 : World, (convert 85 9 (.slice (some ⟨w8.heap.size, 0, none⟩) ((66 : Int).toNat) ((66 : Int).toNat))).run Tryz.prog w24 = .ok (.string x50) w25 ∧
 vS_1 w25 ∧
 (0 ≤ i ∧ i < (2 : Int)) ∧
 (Okc w25 ((⟨w5.heap.size, 0, none⟩ : Addr).add (i.toNat * 7)) ∧ Okc w25 (((⟨w5.heap.size, 0, none⟩ : Addr).add (i.toNat * 7)).add 1) ∧ Okc w25 (((⟨w5.heap.size, 0, none⟩ : Addr).add (i.toNat * 7)).add 2) ∧ Okc w25 (((⟨w5.heap.size, 0, none⟩ : Addr).add (i.toNat * 7)).add 3) ∧ Okc w25 (((⟨w5.heap.size, 0, none⟩ : Addr).add (i.toNat * 7)).add 4) ∧ Okc w25 (((⟨w5.heap.size, 0, none⟩ : Addr).add (i.toNat * 7)).add 5) ∧ Okc w25 (((⟨w5.heap.size, 0, none⟩ : Addr).add (i.toNat * 7)).add 6)) ∧ ∀ w26 : World, w26 = (((((((w25.setCell ((⟨w5.heap.size, 0, none⟩ : Addr).add (i.toNat * 7)) (.int .i64 x480)).setCell (((⟨w5.heap.size, 0, none⟩ : Addr).add (i.toNat * 7)).add 1) (.int .i64 x481)).setCell (((⟨w5.heap.size, 0, none⟩ : Addr).add (i.toNat * 7)).add 2) (.int .i64 x482)).setCell (((⟨w5.heap.size, 0, none⟩ : Addr).add (i.toNat * 7)).add 3) (.int .i64 x483)).setCell (((⟨w5.heap.size, 0, none⟩ : Addr).add (i.toNat * 7)).add 4) (.int .i64 x484)).setCell (((⟨w5.heap.size, 0, none⟩ : Addr).add (i.toNat * 7)).add 5) (.int .i64 x485)).setCell (((⟨w5.heap.size, 0, none⟩ : Addr).add (i.toNat * 7)).add 6) (.string x50)) →
 ∃ vk_1 : Nat, vk_1 < vk ∧ vI (IntKind.i64.wrap (i + 1)) vk_1 w26)) ∧ (∃ x50_1 : ByteArray, ∃ w27 : World, (convert 85 9 (.slice (some ⟨w8.heap.size, 0, none⟩) ((66 : Int).toNat) ((66 : Int).toNat))).run Tryz.prog w23 = .ok (.string x50_1) w27 ∧
 vS_1 w27 ∧
 Calls Tryz.prog 35 #[] w27 (Ret fun v_5 w28 => ∃ x480_1 x481_1 x482_1 x483_1 x484_1 x485_1 : Int, v_5 = (.agg #[(.int .i64 x480_1), (.int .i64 x481_1), (.int .i64 x482_1), (.int .i64 x483_1), (.int .i64 x484_1), (.int .i64 x485_1)]) ∧
 vS_1 w28 ∧
 (0 ≤ i ∧ i < (2 : Int)) ∧
 (Okc w28 ((⟨w5.heap.size, 0, none⟩ : Addr).add (i.toNat * 7)) ∧ Okc w28 (((⟨w5.heap.size, 0, none⟩ : Addr).add (i.toNat * 7)).add 1) ∧ Okc w28 (((⟨w5.heap.size, 0, none⟩ : Addr).add (i.toNat * 7)).add 2) ∧ Okc w28 (((⟨w5.heap.size, 0, none⟩ : Addr).add (i.toNat * 7)).add 3) ∧ Okc w28 (((⟨w5.heap.size, 0, none⟩ : Addr).add (i.toNat * 7)).add 4) ∧ Okc w28 (((⟨w5.heap.size, 0, none⟩ : Addr).add (i.toNat * 7)).add 5) ∧ Okc w28 (((⟨w5.heap.size, 0, none⟩ : Addr).add (i.toNat * 7)).add 6)) ∧ ∀ w29 : World, w29 = (((((((w28.setCell ((⟨w5.heap.size, 0, none⟩ : Addr).add (i.toNat * 7)) (.int .i64 x480_1)).setCell (((⟨w5.heap.size, 0, none⟩ : Addr).add (i.toNat * 7)).add 1) (.int .i64 x481_1)).setCell (((⟨w5.heap.size, 0, none⟩ : Addr).add (i.toNat * 7)).add 2) (.int .i64 x482_1)).setCell (((⟨w5.heap.size, 0, none⟩ : Addr).add (i.toNat * 7)).add 3) (.int .i64 x483_1)).setCell (((⟨w5.heap.size, 0, none⟩ : Addr).add (i.toNat * 7)).add 4) (.int .i64 x484_1)).setCell (((⟨w5.heap.size, 0, none⟩ : Addr).add (i.toNat * 7)).add 5) (.int .i64 x485_1)).setCell (((⟨w5.heap.size, 0, none⟩ : Addr).add (i.toNat * 7)).add 6) (.string x50_1)) →
 ∃ vk_1 : Nat, vk_1 < vk ∧ vI (IntKind.i64.wrap (i + 1)) vk_1 w29)) ∧ True) ∧
 (decide (i < (2 : Int)) = false →
 ∃ vS_2 : World → Prop, ∀ w30 : World, w30 = w8.drew → vS_2 w30 ∧
 ∃ x530 x531 : Option Addr, ((∀ w31, vS_2 w31 → w31.cell? ⟨w3.heap.size, 0, none⟩ = some (.pointer x530)) ∧ (∀ w31, vS_2 w31 → w31.cell? ⟨w3.heap.size, 1, none⟩ = some (.pointer x531))) ∧
 ∃ (x540 x541 x542 x543 x544 x545 : Int) (x546 : ByteArray) (x547 x548 x549 x5410 x5411 x5412 : Int) (x5413 : ByteArray), ((∀ w32, vS_2 w32 → w32.cell? ⟨w5.heap.size, 0, none⟩ = some (.int .i64 x540)) ∧ (∀ w32, vS_2 w32 → w32.cell? ⟨w5.heap.size, 1, none⟩ = some (.int .i64 x541)) ∧ (∀ w32, vS_2 w32 → w32.cell? ⟨w5.heap.size, 2, none⟩ = some (.int .i64 x542)) ∧ (∀ w32, vS_2 w32 → w32.cell? ⟨w5.heap.size, 3, none⟩ = some (.int .i64 x543)) ∧ (∀ w32, vS_2 w32 → w32.cell? ⟨w5.heap.size, 4, none⟩ = some (.int .i64 x544)) ∧ (∀ w32, vS_2 w32 → w32.cell? ⟨w5.heap.size, 5, none⟩ = some (.int .i64 x545)) ∧ (∀ w32, vS_2 w32 → w32.cell? ⟨w5.heap.size, 6, none⟩ = some (.string x546)) ∧ (∀ w32, vS_2 w32 → w32.cell? ⟨w5.heap.size, 7, none⟩ = some (.int .i64 x547)) ∧ (∀ w32, vS_2 w32 → w32.cell? ⟨w5.heap.size, 8, none⟩ = some (.int .i64 x548)) ∧ (∀ w32, vS_2 w32 → w32.cell? ⟨w5.heap.size, 9, none⟩ = some (.int .i64 x549)) ∧ (∀ w32, vS_2 w32 → w32.cell? ⟨w5.heap.size, 10, none⟩ = some (.int .i64 x5410)) ∧ (∀ w32, vS_2 w32 → w32.cell? ⟨w5.heap.size, 11, none⟩ = some (.int .i64 x5411)) ∧ (∀ w32, vS_2 w32 → w32.cell? ⟨w5.heap.size, 12, none⟩ = some (.int .i64 x5412)) ∧ (∀ w32, vS_2 w32 → w32.cell? ⟨w5.heap.size, 13, none⟩ = some (.string x5413))) ∧
 (Okc w30 ⟨w.heap.size, 0, none⟩ ∧ Okc w30 ⟨w.heap.size, 1, none⟩) ∧ ∀ w33 : World, w33 = ((w30.setCell ⟨w.heap.size, 0, none⟩ (.pointer x530)).setCell ⟨w.heap.size, 1, none⟩ (.pointer x531)) →
 vS_2 w33 ∧
 (Okc w33 ⟨w2.heap.size, 0, none⟩ ∧ Okc w33 ⟨w2.heap.size, 1, none⟩ ∧ Okc w33 ⟨w2.heap.size, 2, none⟩ ∧ Okc w33 ⟨w2.heap.size, 3, none⟩ ∧ Okc w33 ⟨w2.heap.size, 4, none⟩ ∧ Okc w33 ⟨w2.heap.size, 5, none⟩ ∧ Okc w33 ⟨w2.heap.size, 6, none⟩ ∧ Okc w33 ⟨w2.heap.size, 7, none⟩ ∧ Okc w33 ⟨w2.heap.size, 8, none⟩ ∧ Okc w33 ⟨w2.heap.size, 9, none⟩ ∧ Okc w33 ⟨w2.heap.size, 10, none⟩ ∧ Okc w33 ⟨w2.heap.size, 11, none⟩ ∧ Okc w33 ⟨w2.heap.size, 12, none⟩ ∧ Okc w33 ⟨w2.heap.size, 13, none⟩) ∧ ∀ w34 : World, w34 = ((((((((((((((w33.setCell ⟨w2.heap.size, 0, none⟩ (.int .i64 x540)).setCell ⟨w2.heap.size, 1, none⟩ (.int .i64 x541)).setCell ⟨w2.heap.size, 2, none⟩ (.int .i64 x542)).setCell ⟨w2.heap.size, 3, none⟩ (.int .i64 x543)).setCell ⟨w2.heap.size, 4, none⟩ (.int .i64 x544)).setCell ⟨w2.heap.size, 5, none⟩ (.int .i64 x545)).setCell ⟨w2.heap.size, 6, none⟩ (.string x546)).setCell ⟨w2.heap.size, 7, none⟩ (.int .i64 x547)).setCell ⟨w2.heap.size, 8, none⟩ (.int .i64 x548)).setCell ⟨w2.heap.size, 9, none⟩ (.int .i64 x549)).setCell ⟨w2.heap.size, 10, none⟩ (.int .i64 x5410)).setCell ⟨w2.heap.size, 11, none⟩ (.int .i64 x5411)).setCell ⟨w2.heap.size, 12, none⟩ (.int .i64 x5412)).setCell ⟨w2.heap.size, 13, none⟩ (.string x5413)) →
 vS_2 w34 ∧
 ∃ r00 r01 : Option Addr, (w34.cell? ⟨w.heap.size, 0, none⟩ = some (.pointer r00) ∧ w34.cell? ⟨w.heap.size, 1, none⟩ = some (.pointer r01)) ∧
 ∃ (r10 r11 r12 r13 r14 r15 : Int) (r16 : ByteArray) (r17 r18 r19 r110 r111 r112 : Int) (r113 : ByteArray), (w34.cell? ⟨w2.heap.size, 0, none⟩ = some (.int .i64 r10) ∧ w34.cell? ⟨w2.heap.size, 1, none⟩ = some (.int .i64 r11) ∧ w34.cell? ⟨w2.heap.size, 2, none⟩ = some (.int .i64 r12) ∧ w34.cell? ⟨w2.heap.size, 3, none⟩ = some (.int .i64 r13) ∧ w34.cell? ⟨w2.heap.size, 4, none⟩ = some (.int .i64 r14) ∧ w34.cell? ⟨w2.heap.size, 5, none⟩ = some (.int .i64 r15) ∧ w34.cell? ⟨w2.heap.size, 6, none⟩ = some (.string r16) ∧ w34.cell? ⟨w2.heap.size, 7, none⟩ = some (.int .i64 r17) ∧ w34.cell? ⟨w2.heap.size, 8, none⟩ = some (.int .i64 r18) ∧ w34.cell? ⟨w2.heap.size, 9, none⟩ = some (.int .i64 r19) ∧ w34.cell? ⟨w2.heap.size, 10, none⟩ = some (.int .i64 r110) ∧ w34.cell? ⟨w2.heap.size, 11, none⟩ = some (.int .i64 r111) ∧ w34.cell? ⟨w2.heap.size, 12, none⟩ = some (.int .i64 r112) ∧ w34.cell? ⟨w2.heap.size, 13, none⟩ = some (.string r113)) ∧
 R (.tuple #[(.agg #[(.pointer r00), (.pointer r01)]), (.agg #[(.int .i64 r10), (.int .i64 r11), (.int .i64 r12), (.int .i64 r13), (.int .i64 r14), (.int .i64 r15), (.string r16), (.int .i64 r17), (.int .i64 r18), (.int .i64 r19), (.int .i64 r110), (.int .i64 r111), (.int .i64 r112), (.string r113)])]) w34)
theorem coadjutorlaw25_models.calls (w1 : ByteArray) {w : World} {R : Value → World → Prop} (h : coadjutorlaw25_models.vc w1 w R) : Calls Tryz.prog 8 #[(.string w1)] w (Ret R) :=
 calls_V fit Tryz.func8 (.lp ([(6, some (.int .i64)), (7, none), (8, none)] ++ nn 11 42) (.c (.cut 2 ([(8, none)] ++ nn 16 22) (.lp ([(8, some (.int .i64))] ++ nn 16 22) (.at_ 8 4 (.c .nil .nil) (.k .nil))) (.cut 0 (nn 38 9) (.tk 0 (.tk 2 (.alt 1 (.alt 3 (.alt 4 (.tk 5 (.tk 6 (.tk 7 (.tk 8 (.last 9 (.fin .nil)))))) .nil) .nil) (.alt 3 (.alt 1 (.alt 4 (.tk 5 (.tk 6 (.tk 7 (.tk 8 (.last 9 (.fin .nil)))))) .nil) .nil) .nil)))) (.tk 0 (.tk 2 (.alt 1 (.alt 3 (.tk 4 (.tk 5 (.last 6 (.fin .nil)))) .nil) (.alt 3 (.alt 1 (.tk 4 (.tk 5 (.last 6 (.fin .nil)))) .nil) .nil)))))) (.tk 0 (.tk 1 (.alt 2 (.alt 3 (.fin .nil) .nil) .nil))))) (Eq.mpr (by kernel_rfl) h)
def coadjutorlaw25_awake.vc (w : World) (R : Value → World → Prop) : Prop :=
 Calls Tryz.prog 8 #[(.string (ByteArray.mk #[]))] w (Ret fun v w1 => ∃ (x12_00 x12_01 : Option Addr) (x12_10 x12_11 x12_12 x12_13 x12_14 x12_15 : Int) (x12_16 : ByteArray) (x12_17 x12_18 x12_19 x12_110 x12_111 x12_112 : Int) (x12_113 : ByteArray), v = (.tuple #[(.agg #[(.pointer x12_00), (.pointer x12_01)]), (.agg #[(.int .i64 x12_10), (.int .i64 x12_11), (.int .i64 x12_12), (.int .i64 x12_13), (.int .i64 x12_14), (.int .i64 x12_15), (.string x12_16), (.int .i64 x12_17), (.int .i64 x12_18), (.int .i64 x12_19), (.int .i64 x12_110), (.int .i64 x12_111), (.int .i64 x12_112), (.string x12_113)])]) ∧
 ∀ w2 : World, w2 = w1.alloc (.cells #[(.pointer none), (.pointer none)] 25 (0, 0)) →
 ∀ w3 : World, w3 = w2.alloc (.cells #[(.int .i64 0), (.int .i64 0), (.int .i64 0), (.int .i64 0), (.int .i64 0), (.int .i64 0), (.string ByteArray.empty), (.int .i64 0), (.int .i64 0), (.int .i64 0), (.int .i64 0), (.int .i64 0), (.int .i64 0), (.string ByteArray.empty)] 30 (0, 0)) →
 (Okc w3 ⟨w1.heap.size, 0, none⟩ ∧ Okc w3 ⟨w1.heap.size, 1, none⟩) ∧ ∀ w4 : World, w4 = ((w3.setCell ⟨w1.heap.size, 0, none⟩ (.pointer x12_00)).setCell ⟨w1.heap.size, 1, none⟩ (.pointer x12_01)) →
 (Okc w4 ⟨w2.heap.size, 0, none⟩ ∧ Okc w4 ⟨w2.heap.size, 1, none⟩ ∧ Okc w4 ⟨w2.heap.size, 2, none⟩ ∧ Okc w4 ⟨w2.heap.size, 3, none⟩ ∧ Okc w4 ⟨w2.heap.size, 4, none⟩ ∧ Okc w4 ⟨w2.heap.size, 5, none⟩ ∧ Okc w4 ⟨w2.heap.size, 6, none⟩ ∧ Okc w4 ⟨w2.heap.size, 7, none⟩ ∧ Okc w4 ⟨w2.heap.size, 8, none⟩ ∧ Okc w4 ⟨w2.heap.size, 9, none⟩ ∧ Okc w4 ⟨w2.heap.size, 10, none⟩ ∧ Okc w4 ⟨w2.heap.size, 11, none⟩ ∧ Okc w4 ⟨w2.heap.size, 12, none⟩ ∧ Okc w4 ⟨w2.heap.size, 13, none⟩) ∧ ∀ w5 : World, w5 = ((((((((((((((w4.setCell ⟨w2.heap.size, 0, none⟩ (.int .i64 x12_10)).setCell ⟨w2.heap.size, 1, none⟩ (.int .i64 x12_11)).setCell ⟨w2.heap.size, 2, none⟩ (.int .i64 x12_12)).setCell ⟨w2.heap.size, 3, none⟩ (.int .i64 x12_13)).setCell ⟨w2.heap.size, 4, none⟩ (.int .i64 x12_14)).setCell ⟨w2.heap.size, 5, none⟩ (.int .i64 x12_15)).setCell ⟨w2.heap.size, 6, none⟩ (.string x12_16)).setCell ⟨w2.heap.size, 7, none⟩ (.int .i64 x12_17)).setCell ⟨w2.heap.size, 8, none⟩ (.int .i64 x12_18)).setCell ⟨w2.heap.size, 9, none⟩ (.int .i64 x12_19)).setCell ⟨w2.heap.size, 10, none⟩ (.int .i64 x12_110)).setCell ⟨w2.heap.size, 11, none⟩ (.int .i64 x12_111)).setCell ⟨w2.heap.size, 12, none⟩ (.int .i64 x12_112)).setCell ⟨w2.heap.size, 13, none⟩ (.string x12_113)) →
 Calls Tryz.prog 9 #[(.int .i64 2)] w5 (Ret fun v_1 w6 => ∃ x15 : Option Addr, v_1 = (.pointer x15) ∧
 (0 ≤ (0 : Int) ∧ (0 : Int) < (2 : Int)) ∧
 ∃ x17 : Option Addr, w6.cell? ⟨w1.heap.size, 0, none⟩ = some (.pointer x17) ∧
 (x17.isNone = true →
 R (.bool false) w6) ∧
 (x17.isNone = false →
 (x15.isNone = true →
 R (.bool false) w6) ∧
 (x15.isNone = false →
 Calls Tryz.prog 9 #[(.int .i64 0)] w6 (Ret fun v_2 w7 => ∃ x24 : Option Addr, v_2 = (.pointer x24) ∧
 ((!x24.isNone) = true →
 R (.bool false) w7) ∧
 ((!x24.isNone) = false →
 (0 ≤ (0 : Int) ∧ (0 : Int) < (2 : Int)) ∧
 ∃ x29 : Option Addr, w7.cell? ⟨w1.heap.size, 0, none⟩ = some (.pointer x29) ∧
 ∀ w8 : World, w8 = w7.alloc (.cells #[(.int .i64 1), (.int .i64 2)] 3 (0, 0)) →
 ∀ w9 : World, w9 = w8.alloc (.cells #[(.int .i64 65536)] 3 (0, 0)) →
 Calls Tryz.prog 10 #[(.pointer x15), (.pointer x29), (.agg #[(.int .i64 5), (.int .i64 1), (.slice (some ⟨w7.heap.size, 0, none⟩) 2 2), (.int .i64 1), (.slice (some ⟨w8.heap.size, 0, none⟩) 1 1)])] w9 (Ret fun v_3 w10 => ∃ x33 : Int, v_3 = (.int .i64 x33) ∧
 Calls Tryz.prog 11 #[(.pointer x15), (.int .i64 0)] w10 (Ret fun v_4 w11 => ∃ (x36_00 : Int) (x36_01 x36_02 : Bool) (x36_03A : Option Addr) (x36_03N x36_03C : Nat) (x36_04A : Option Addr) (x36_04N x36_04C : Nat) (x36_1 : Int), v_4 = (.tuple #[(.agg #[(.int .i64 x36_00), (.bool x36_01), (.bool x36_02), (.slice x36_03A x36_03N x36_03C), (.slice x36_04A x36_04N x36_04C)]), (.int .i64 x36_1)]) ∧
 ∀ w12 : World, w12 = w11.alloc (.cells #[(.int .i64 0), (.bool false), (.bool false), (.slice none 0 0), (.slice none 0 0)] 45 (0, 0)) →
 (Okc w12 ⟨w11.heap.size, 0, none⟩ ∧ Okc w12 ⟨w11.heap.size, 1, none⟩ ∧ Okc w12 ⟨w11.heap.size, 2, none⟩ ∧ Okc w12 ⟨w11.heap.size, 3, none⟩ ∧ Okc w12 ⟨w11.heap.size, 4, none⟩) ∧ ∀ w13 : World, w13 = (((((w12.setCell ⟨w11.heap.size, 0, none⟩ (.int .i64 x36_00)).setCell ⟨w11.heap.size, 1, none⟩ (.bool x36_01)).setCell ⟨w11.heap.size, 2, none⟩ (.bool x36_02)).setCell ⟨w11.heap.size, 3, none⟩ (.slice x36_03A x36_03N x36_03C)).setCell ⟨w11.heap.size, 4, none⟩ (.slice x36_04A x36_04N x36_04C)) →
 Calls Tryz.prog 11 #[(.pointer x15), (.int .i64 (-3))] w13 (Ret fun v_5 w14 => ∃ (x41_00 : Int) (x41_01 x41_02 : Bool) (x41_03A : Option Addr) (x41_03N x41_03C : Nat) (x41_04A : Option Addr) (x41_04N x41_04C : Nat) (x41_1 : Int), v_5 = (.tuple #[(.agg #[(.int .i64 x41_00), (.bool x41_01), (.bool x41_02), (.slice x41_03A x41_03N x41_03C), (.slice x41_04A x41_04N x41_04C)]), (.int .i64 x41_1)]) ∧
 ∀ w15 : World, w15 = w14.alloc (.cells #[(.int .i64 0), (.bool false), (.bool false), (.slice none 0 0), (.slice none 0 0)] 45 (0, 0)) →
 (Okc w15 ⟨w14.heap.size, 0, none⟩ ∧ Okc w15 ⟨w14.heap.size, 1, none⟩ ∧ Okc w15 ⟨w14.heap.size, 2, none⟩ ∧ Okc w15 ⟨w14.heap.size, 3, none⟩ ∧ Okc w15 ⟨w14.heap.size, 4, none⟩) ∧ ∀ w16 : World, w16 = (((((w15.setCell ⟨w14.heap.size, 0, none⟩ (.int .i64 x41_00)).setCell ⟨w14.heap.size, 1, none⟩ (.bool x41_01)).setCell ⟨w14.heap.size, 2, none⟩ (.bool x41_02)).setCell ⟨w14.heap.size, 3, none⟩ (.slice x41_03A x41_03N x41_03C)).setCell ⟨w14.heap.size, 4, none⟩ (.slice x41_04A x41_04N x41_04C)) →
 Calls Tryz.prog 11 #[(.pointer x15), (.int .i64 0)] w16 (Ret fun v_6 w17 => ∃ (x46_00 : Int) (x46_01 x46_02 : Bool) (x46_03A : Option Addr) (x46_03N x46_03C : Nat) (x46_04A : Option Addr) (x46_04N x46_04C : Nat) (x46_1 : Int), v_6 = (.tuple #[(.agg #[(.int .i64 x46_00), (.bool x46_01), (.bool x46_02), (.slice x46_03A x46_03N x46_03C), (.slice x46_04A x46_04N x46_04C)]), (.int .i64 x46_1)]) ∧
 ∀ w18 : World, w18 = w17.alloc (.cells #[(.int .i64 0), (.bool false), (.bool false), (.slice none 0 0), (.slice none 0 0)] 45 (0, 0)) →
 (Okc w18 ⟨w17.heap.size, 0, none⟩ ∧ Okc w18 ⟨w17.heap.size, 1, none⟩ ∧ Okc w18 ⟨w17.heap.size, 2, none⟩ ∧ Okc w18 ⟨w17.heap.size, 3, none⟩ ∧ Okc w18 ⟨w17.heap.size, 4, none⟩) ∧ ∀ w19 : World, w19 = (((((w18.setCell ⟨w17.heap.size, 0, none⟩ (.int .i64 x46_00)).setCell ⟨w17.heap.size, 1, none⟩ (.bool x46_01)).setCell ⟨w17.heap.size, 2, none⟩ (.bool x46_02)).setCell ⟨w17.heap.size, 3, none⟩ (.slice x46_03A x46_03N x46_03C)).setCell ⟨w17.heap.size, 4, none⟩ (.slice x46_04A x46_04N x46_04C)) →
 ((x33 == (0 : Int)) = true →
 ((x36_1 == (0 : Int)) = true →
 ∃ x57 : Bool, w19.cell? ⟨w11.heap.size, 1, none⟩ = some (.bool x57) ∧
 ((!x57) = true →
 ((x41_1 == (0 : Int)) = true →
 ∃ x66 : Bool, w19.cell? ⟨w14.heap.size, 1, none⟩ = some (.bool x66) ∧
 (x66 = true →
 ∃ (x70A : Option Addr) (x70N x70C : Nat), w19.cell? ⟨w14.heap.size, 3, none⟩ = some (.slice x70A x70N x70C) ∧
 ∀ w20 : World, w20 = w19.alloc (.cells #[(.int .i64 1)] 3 (0, 0)) →
 Calls Tryz.prog 19 #[(.slice x70A x70N x70C), (.slice (some ⟨w19.heap.size, 0, none⟩) 1 1)] w20 (Ret fun v_7 w21 => ∃ x72 : Bool, v_7 = (.bool x72) ∧
 (x72 = true →
 ∃ x76 : Int, w21.cell? ⟨w14.heap.size, 0, none⟩ = some (.int .i64 x76) ∧
 ((x76 == (5 : Int)) = true →
 ((x46_1 == (8 : Int)) = true →
 Calls Tryz.prog 12 #[(.pointer x15)] w21 (Ret fun v_8 w22 => ∃ x85 : Int, v_8 = (.int .i64 x85) ∧
 R (.bool (x85 == (2 : Int))) w22)) ∧
 ((x46_1 == (8 : Int)) = false →
 R (.bool false) w21)) ∧
 ((x76 == (5 : Int)) = false →
 R (.bool false) w21)) ∧
 (x72 = false →
 R (.bool false) w21))) ∧
 (x66 = false →
 R (.bool false) w19)) ∧
 ((x41_1 == (0 : Int)) = false →
 R (.bool false) w19)) ∧
 ((!x57) = false →
 R (.bool false) w19)) ∧
 ((x36_1 == (0 : Int)) = false →
 R (.bool false) w19)) ∧
 ((x33 == (0 : Int)) = false →
 R (.bool false) w19)))))))))))
theorem coadjutorlaw25_awake.calls {w : World} {R : Value → World → Prop} (h : coadjutorlaw25_awake.vc  w R) : Calls Tryz.prog 7 #[] w (Ret R) :=
 calls_V fit Tryz.func7 (.at_ 3 3 (.k .nil) (.at_ 3 7 (.k .nil) (.c .nil (.at_ 9 2 (.at_ 9 6 (.at_ 9 11 (.at_ 9 15 (.at_ 9 19 (.at_ 9 25 (.at_ 9 30 (.at_ 9 34 .nil .nil) .nil) .nil) .nil) .nil) .nil) .nil) .nil)))) (Eq.mpr (by kernel_rfl) h)
end Go.Proofs.YtkbikekbaboclaaGreat.Vc
