import Derived.Test.YtkbikekbaboclaaGreatVc
import Derived.Test.YtkbikekbaboclaaGreatH
import Derived.Test.YtkbikekbaboclaaGreatProg
import Derived.KernelRfl
set_option linter.unusedVariables false
set_option maxRecDepth 100000
namespace Go.Proofs.YtkbikekbaboclaaGreat.Vc
open Go Go.Proofs V
def coadjutorlaw25_CrewSays.vc (weights : ByteArray) (asksA : Option Addr) (asksN : Nat) (asksC : Nat) (pages : Int) (picksA : Option Addr) (picksN : Nat) (picksC : Nat) (w : World) (R : Value → World → Prop) : Prop :=
 Calls Tryz.prog 7 #[] w (Ret fun v w1 => ∃ x27 : Bool, v = (.bool x27) ∧
 ((!x27) = true →
 R (.bool false) w1) ∧
 ((!x27) = false →
 (decide ((asksN : Int) > (8 : Int)) = true →
 R (.bool true) w1) ∧
 (decide ((asksN : Int) > (8 : Int)) = false →
 (decide ((picksN : Int) > (100 : Int)) = true →
 R (.bool true) w1) ∧
 (decide ((picksN : Int) > (100 : Int)) = false →
 (10 : Int) ≠ 0 ∧
 Calls Tryz.prog 8 #[(.string weights)] w1 (Ret fun v_1 w2 => ∃ (x44_00 x44_01 : Option Addr) (x44_10 x44_11 x44_12 x44_13 x44_14 x44_15 : Int) (x44_16 : ByteArray) (x44_17 x44_18 x44_19 x44_110 x44_111 x44_112 : Int) (x44_113 : ByteArray), v_1 = (.tuple #[(.agg #[(.pointer x44_00), (.pointer x44_01)]), (.agg #[(.int .i64 x44_10), (.int .i64 x44_11), (.int .i64 x44_12), (.int .i64 x44_13), (.int .i64 x44_14), (.int .i64 x44_15), (.string x44_16), (.int .i64 x44_17), (.int .i64 x44_18), (.int .i64 x44_19), (.int .i64 x44_110), (.int .i64 x44_111), (.int .i64 x44_112), (.string x44_113)])]) ∧
 ∀ w3 : World, w3 = w2.alloc (.cells #[(.pointer none), (.pointer none)] 25 (0, 0)) →
 ∀ w4 : World, w4 = w3.alloc (.cells #[(.int .i64 0), (.int .i64 0), (.int .i64 0), (.int .i64 0), (.int .i64 0), (.int .i64 0), (.string ByteArray.empty), (.int .i64 0), (.int .i64 0), (.int .i64 0), (.int .i64 0), (.int .i64 0), (.int .i64 0), (.string ByteArray.empty)] 30 (0, 0)) →
 (Okc w4 ⟨w2.heap.size, 0, none⟩ ∧ Okc w4 ⟨w2.heap.size, 1, none⟩) ∧ ∀ w5 : World, w5 = ((w4.setCell ⟨w2.heap.size, 0, none⟩ (.pointer x44_00)).setCell ⟨w2.heap.size, 1, none⟩ (.pointer x44_01)) →
 (Okc w5 ⟨w3.heap.size, 0, none⟩ ∧ Okc w5 ⟨w3.heap.size, 1, none⟩ ∧ Okc w5 ⟨w3.heap.size, 2, none⟩ ∧ Okc w5 ⟨w3.heap.size, 3, none⟩ ∧ Okc w5 ⟨w3.heap.size, 4, none⟩ ∧ Okc w5 ⟨w3.heap.size, 5, none⟩ ∧ Okc w5 ⟨w3.heap.size, 6, none⟩ ∧ Okc w5 ⟨w3.heap.size, 7, none⟩ ∧ Okc w5 ⟨w3.heap.size, 8, none⟩ ∧ Okc w5 ⟨w3.heap.size, 9, none⟩ ∧ Okc w5 ⟨w3.heap.size, 10, none⟩ ∧ Okc w5 ⟨w3.heap.size, 11, none⟩ ∧ Okc w5 ⟨w3.heap.size, 12, none⟩ ∧ Okc w5 ⟨w3.heap.size, 13, none⟩) ∧ ∀ w6 : World, w6 = ((((((((((((((w5.setCell ⟨w3.heap.size, 0, none⟩ (.int .i64 x44_10)).setCell ⟨w3.heap.size, 1, none⟩ (.int .i64 x44_11)).setCell ⟨w3.heap.size, 2, none⟩ (.int .i64 x44_12)).setCell ⟨w3.heap.size, 3, none⟩ (.int .i64 x44_13)).setCell ⟨w3.heap.size, 4, none⟩ (.int .i64 x44_14)).setCell ⟨w3.heap.size, 5, none⟩ (.int .i64 x44_15)).setCell ⟨w3.heap.size, 6, none⟩ (.string x44_16)).setCell ⟨w3.heap.size, 7, none⟩ (.int .i64 x44_17)).setCell ⟨w3.heap.size, 8, none⟩ (.int .i64 x44_18)).setCell ⟨w3.heap.size, 9, none⟩ (.int .i64 x44_19)).setCell ⟨w3.heap.size, 10, none⟩ (.int .i64 x44_110)).setCell ⟨w3.heap.size, 11, none⟩ (.int .i64 x44_111)).setCell ⟨w3.heap.size, 12, none⟩ (.int .i64 x44_112)).setCell ⟨w3.heap.size, 13, none⟩ (.string x44_113)) →
 Calls Tryz.prog 9 #[(.int .i64 (IntKind.i64.wrap (3 + (IntKind.i64.wrap (Int.tmod (IntKind.u64.wrap pages) 10)))))] w6 (Ret fun v_2 w7 => ∃ x48 : Option Addr, v_2 = (.pointer x48) ∧
 ∀ w8 : World, w8 = w7.alloc (.cells #[] 37 (0, 0)) →
 ∃ vI : Option Addr → Nat → Nat → Int → Nat → World → Prop, (∃ vk_2 : Nat, vI (some ⟨w7.heap.size, 0, none⟩) 0 0 0 vk_2 w8) ∧
 ∀ (jk : Nat → Value) (waitA : Option Addr) (waitN : Nat) (waitC : Nat) (i : Int), ∀ (vk : Nat) (w9 : World), vI waitA waitN waitC i vk w9 →
 (decide (i < (asksN : Int)) = true →
 (0 ≤ i ∧ i < (asksN : Int)) ∧ someV asksA fun p =>
 ∃ (x590 x591 : Int) (x592A : Option Addr) (x592N x592C : Nat) (x593 : Int) (x594A : Option Addr) (x594N x594C : Nat), (w9.cell? (p.add (i.toNat * 5)) = some (.int .i64 x590) ∧ w9.cell? ((p.add (i.toNat * 5)).add 1) = some (.int .i64 x591) ∧ w9.cell? ((p.add (i.toNat * 5)).add 2) = some (.slice x592A x592N x592C) ∧ w9.cell? ((p.add (i.toNat * 5)).add 3) = some (.int .i64 x593) ∧ w9.cell? ((p.add (i.toNat * 5)).add 4) = some (.slice x594A x594N x594C)) ∧
 Calls Tryz.prog 20 #[(.agg #[(.int .i64 x590), (.int .i64 x591), (.slice x592A x592N x592C), (.int .i64 x593), (.slice x594A x594N x594C)])] w9 (Ret fun v_3 w10 => ∃ (x600 x601 : Int) (x602A : Option Addr) (x602N x602C : Nat) (x603 : Int) (x604A : Option Addr) (x604N x604C : Nat), v_3 = (.agg #[(.int .i64 x600), (.int .i64 x601), (.slice x602A x602N x602C), (.int .i64 x603), (.slice x604A x604N x604C)]) ∧
 ∀ w11 : World, w11 = w10.alloc (.cells #[(.int .i64 0), (.int .i64 0), (.slice none 0 0), (.int .i64 0), (.slice none 0 0)] 37 (0, 0)) →
 (Okc w11 ⟨w10.heap.size, 0, none⟩ ∧ Okc w11 ⟨w10.heap.size, 1, none⟩ ∧ Okc w11 ⟨w10.heap.size, 2, none⟩ ∧ Okc w11 ⟨w10.heap.size, 3, none⟩ ∧ Okc w11 ⟨w10.heap.size, 4, none⟩) ∧ ∀ w12 : World, w12 = (((((w11.setCell ⟨w10.heap.size, 0, none⟩ (.int .i64 x600)).setCell ⟨w10.heap.size, 1, none⟩ (.int .i64 x601)).setCell ⟨w10.heap.size, 2, none⟩ (.slice x602A x602N x602C)).setCell ⟨w10.heap.size, 3, none⟩ (.int .i64 x603)).setCell ⟨w10.heap.size, 4, none⟩ (.slice x604A x604N x604C)) →
 (Okc w12 ⟨w10.heap.size, 0, none⟩) ∧ ∀ w13 : World, w13 = (w12.setCell ⟨w10.heap.size, 0, none⟩ (.int .i64 (IntKind.i64.wrap (i + 1)))) →
 ∃ x65 : Int, w13.cell? ⟨w10.heap.size, 1, none⟩ = some (.int .i64 x65) ∧
 (2 : Int) ≠ 0 ∧
 (Okc w13 ⟨w10.heap.size, 1, none⟩) ∧ ∀ w14 : World, w14 = (w13.setCell ⟨w10.heap.size, 1, none⟩ (.int .i64 (IntKind.i64.wrap (1 + (IntKind.i64.wrap (Int.tmod (IntKind.u64.wrap x65) 2)))))) →
 ∃ vS : World → Prop, ∀ w15 : World, w15 = w14.drew → vS w15 ∧
 ∃ (x72A : Option Addr) (x72N x72C : Nat), (∀ w16, vS w16 → w16.cell? ⟨w10.heap.size, 2, none⟩ = some (.slice x72A x72N x72C)) ∧
 (decide ((x72N : Int) > (40 : Int)) = true →
 R (.bool true) w15) ∧
 (decide ((x72N : Int) > (40 : Int)) = false →
 ∃ (x77A : Option Addr) (x77N x77C : Nat), (∀ w17, vS w17 → w17.cell? ⟨w10.heap.size, 4, none⟩ = some (.slice x77A x77N x77C)) ∧
 (decide ((x77N : Int) > (32 : Int)) = true →
 R (.bool true) w15) ∧
 (decide ((x77N : Int) > (32 : Int)) = false →
 ∃ x83 : Int, (∀ w18, vS w18 → w18.cell? ⟨w10.heap.size, 1, none⟩ = some (.int .i64 x83)) ∧
 (2 : Int) ≠ 0 ∧
 (0 ≤ (Int.tmod x83 2) ∧ (Int.tmod x83 2) < (2 : Int)) ∧
 ∃ x86 : Option Addr, (∀ w19, vS w19 → w19.cell? ((⟨w2.heap.size, 0, none⟩ : Addr).add ((Int.tmod x83 2).toNat * 1)) = some (.pointer x86)) ∧
 ∃ x88 : Int, (∀ w20, vS w20 → w20.cell? ⟨w10.heap.size, 3, none⟩ = some (.int .i64 x88)) ∧
 ∃ (x90A : Option Addr) (x90N x90C : Nat), (∀ w21, vS w21 → w21.cell? ⟨w10.heap.size, 2, none⟩ = some (.slice x90A x90N x90C)) ∧
 Calls Tryz.prog 21 #[(.pointer x86), (.int .i64 x88), (.slice x90A x90N x90C)] w15 (Ret fun v_4 w22 => ∃ x91 : Int, v_4 = (.int .i64 x91) ∧
 vS w22 ∧
 ((x91 != (0 : Int)) = true →
 R (.bool true) w22) ∧
 ((x91 != (0 : Int)) = false →
 ∃ (x940 x941 : Int) (x942A : Option Addr) (x942N x942C : Nat) (x943 : Int) (x944A : Option Addr) (x944N x944C : Nat), (w22.cell? ⟨w10.heap.size, 0, none⟩ = some (.int .i64 x940) ∧ w22.cell? ⟨w10.heap.size, 1, none⟩ = some (.int .i64 x941) ∧ w22.cell? ⟨w10.heap.size, 2, none⟩ = some (.slice x942A x942N x942C) ∧ w22.cell? ⟨w10.heap.size, 3, none⟩ = some (.int .i64 x943) ∧ w22.cell? ⟨w10.heap.size, 4, none⟩ = some (.slice x944A x944N x944C)) ∧
 Calls Tryz.prog 22 #[(.agg #[(.int .i64 x940), (.int .i64 x941), (.slice x942A x942N x942C), (.int .i64 x943), (.slice x944A x944N x944C)])] w22 (Ret fun v_5 w23 => ∃ x95 : Int, v_5 = (.int .i64 x95) ∧
 (decide (x95 > (IntKind.i64.wrap (3 + (IntKind.i64.wrap (Int.tmod (IntKind.u64.wrap pages) 10))))) = true →
 R (.bool true) w23) ∧
 (decide (x95 > (IntKind.i64.wrap (3 + (IntKind.i64.wrap (Int.tmod (IntKind.u64.wrap pages) 10))))) = false →
 ∃ (x990 x991 : Int) (x992A : Option Addr) (x992N x992C : Nat) (x993 : Int) (x994A : Option Addr) (x994N x994C : Nat), (w23.cell? ⟨w10.heap.size, 0, none⟩ = some (.int .i64 x990) ∧ w23.cell? ⟨w10.heap.size, 1, none⟩ = some (.int .i64 x991) ∧ w23.cell? ⟨w10.heap.size, 2, none⟩ = some (.slice x992A x992N x992C) ∧ w23.cell? ⟨w10.heap.size, 3, none⟩ = some (.int .i64 x993) ∧ w23.cell? ⟨w10.heap.size, 4, none⟩ = some (.slice x994A x994N x994C)) ∧
 ∀ w24 : World, w24 = w23.alloc (.cells #[(.int .i64 x990), (.int .i64 x991), (.slice x992A x992N x992C), (.int .i64 x993), (.slice x994A x994N x994C)] 37 (0, 0)) →
 ∃ (x101A : Option Addr) (x101N x101C : Nat), ∃ w25 : World, (Builtin.append_ #[43, 43] 43 #[(.slice waitA waitN waitC), (.slice (some ⟨w23.heap.size, 0, none⟩) 1 1)]).run Tryz.prog w24 = .ok (.slice x101A x101N x101C) w25 ∧
 ∃ vk_1 : Nat, vk_1 < vk ∧ vI x101A x101N x101C (IntKind.i64.wrap (i + 1)) vk_1 w25)))))))) ∧
 (decide (i < (asksN : Int)) = false →
 ∀ w26 : World, w26 = w9.alloc (.cells #[] 37 (0, 0)) →
 ∃ (x104A : Option Addr) (x104N x104C : Nat), ∃ w27 : World, (Builtin.append_ #[43, 43] 43 #[(.slice (some ⟨w9.heap.size, 0, none⟩) 0 0), (.slice waitA waitN waitC)]).run Tryz.prog w26 = .ok (.slice x104A x104N x104C) w27 ∧
 ∃ J : Int → World → Prop, (∃ vI_1 : Option Addr → Nat → Nat → Int → Int → Nat → World → Prop, (∃ vk_5 : Nat, vI_1 waitA waitN waitC 0 0 vk_5 w27) ∧
 ∀ (jk : Nat → Value) (waitA_1 : Option Addr) (waitN_1 : Nat) (waitC_1 : Nat) (done : Int) (i_1 : Int), ∀ (vk_3 : Nat) (w28 : World), vI_1 waitA_1 waitN_1 waitC_1 done i_1 vk_3 w28 →
 (decide (i_1 < (3000 : Int)) = true →
 (decide (done < (x104N : Int)) = true →
 ∃ J_1 : Option Addr → Nat → Nat → World → Prop, (∃ vI_2 : Option Addr → Nat → Nat → Nat → World → Prop, (∃ vk_8 : Nat, vI_2 waitA_1 waitN_1 waitC_1 vk_8 w28) ∧
 ∀ (jk : Nat → Value) (waitA_2 : Option Addr) (waitN_2 : Nat) (waitC_2 : Nat), ∀ (vk_6 : Nat) (w29 : World), vI_2 waitA_2 waitN_2 waitC_2 vk_6 w29 →
 (decide ((waitN_2 : Int) > (0 : Int)) = true →
 Calls Tryz.prog 14 #[(.pointer x48)] w29 (Ret fun v_6 w30 => ∃ (x120A : Option Addr) (x120N x120C : Nat), v_6 = (.slice x120A x120N x120C) ∧
 (decide ((x120N : Int) < (3 : Int)) = true →
 ∃ vS_1 : World → Prop, ∀ w31 : World, w31 = w30.drew → vS_1 w31 ∧
 (0 ≤ (0 : Int) ∧ (0 : Int) < (waitN_2 : Int)) ∧ someV waitA_2 fun p_1 =>
 ∃ x128 : Int, (∀ w32, vS_1 w32 → w32.cell? (p_1.add 1) = some (.int .i64 x128)) ∧
 (2 : Int) ≠ 0 ∧
 (0 ≤ (Int.tmod x128 2) ∧ (Int.tmod x128 2) < (2 : Int)) ∧
 ∃ x131 : Option Addr, (∀ w33, vS_1 w33 → w33.cell? ((⟨w2.heap.size, 0, none⟩ : Addr).add ((Int.tmod x128 2).toNat * 1)) = some (.pointer x131)) ∧
 (0 ≤ (0 : Int) ∧ (0 : Int) < (waitN_2 : Int)) ∧ someV waitA_2 fun p_2 =>
 ∃ (x1340 x1341 : Int) (x1342A : Option Addr) (x1342N x1342C : Nat) (x1343 : Int) (x1344A : Option Addr) (x1344N x1344C : Nat), ((∀ w34, vS_1 w34 → w34.cell? p_2 = some (.int .i64 x1340)) ∧ (∀ w34, vS_1 w34 → w34.cell? (p_2.add 1) = some (.int .i64 x1341)) ∧ (∀ w34, vS_1 w34 → w34.cell? (p_2.add 2) = some (.slice x1342A x1342N x1342C)) ∧ (∀ w34, vS_1 w34 → w34.cell? (p_2.add 3) = some (.int .i64 x1343)) ∧ (∀ w34, vS_1 w34 → w34.cell? (p_2.add 4) = some (.slice x1344A x1344N x1344C))) ∧
 Calls Tryz.prog 10 #[(.pointer x48), (.pointer x131), (.agg #[(.int .i64 x1340), (.int .i64 x1341), (.slice x1342A x1342N x1342C), (.int .i64 x1343), (.slice x1344A x1344N x1344C)])] w31 (Ret fun v_7 w35 => ∃ x135 : Int, v_7 = (.int .i64 x135) ∧
 vS_1 w35 ∧
 ((x135 != (0 : Int)) = true →
 R (.bool false) w35) ∧
 ((x135 != (0 : Int)) = false →
 (0 ≤ (1 : Int) ∧ (1 : Int) ≤ (waitN_2 : Int)) ∧
 ∃ vk_7 : Nat, vk_7 < vk_6 ∧ vI_2 (if waitC_2 = (1 : Int).toNat then waitA_2 else waitA_2.map (·.add ((1 : Int).toNat * 5))) (waitN_2 - (1 : Int).toNat) (waitC_2 - (1 : Int).toNat) vk_7 w35))) ∧
 (decide ((x120N : Int) < (3 : Int)) = false →
 J_1 waitA_2 waitN_2 waitC_2 w30))) ∧
 (decide ((waitN_2 : Int) > (0 : Int)) = false →
 J_1 waitA_2 waitN_2 waitC_2 w29)) ∧
 ∀ (jk : Nat → Value) (waitA_3 : Option Addr) (waitN_3 : Nat) (waitC_3 : Nat), ∀ w36 : World, J_1 waitA_3 waitN_3 waitC_3 w36 →
 ∃ J_2 : Int → World → Prop, ((decide (i_1 < (picksN : Int)) = true →
 (0 ≤ i_1 ∧ i_1 < (picksN : Int)) ∧ someV picksA fun p_3 =>
 ∃ x146 : Int, w36.cell? (p_3.add (i_1.toNat * 1)) = some (.int .i64 x146) ∧
 J_2 x146 w36) ∧
 (decide (i_1 < (picksN : Int)) = false →
 J_2 0 w36)) ∧
 ∀ (jk : Nat → Value) (vk_9 : Int), ∀ w37 : World, J_2 vk_9 w37 →
 Calls Tryz.prog 14 #[(.pointer x48)] w37 (Ret fun v_8 w38 => ∃ (x148A : Option Addr) (x148N x148C : Nat), v_8 = (.slice x148A x148N x148C) ∧
 (0 ≤ (0 : Int) ∧ (0 : Int) < (x148N : Int)) ∧ someV x148A fun p_4 =>
 ∃ x150 : Int, w38.cell? p_4 = some (.int .i64 x150) ∧
 Calls Tryz.prog 11 #[(.pointer x48), (.int .i64 vk_9)] w38 (Ret fun v_9 w39 => ∃ (x154_00 : Int) (x154_01 x154_02 : Bool) (x154_03A : Option Addr) (x154_03N x154_03C : Nat) (x154_04A : Option Addr) (x154_04N x154_04C : Nat) (x154_1 : Int), v_9 = (.tuple #[(.agg #[(.int .i64 x154_00), (.bool x154_01), (.bool x154_02), (.slice x154_03A x154_03N x154_03C), (.slice x154_04A x154_04N x154_04C)]), (.int .i64 x154_1)]) ∧
 ∀ w40 : World, w40 = w39.alloc (.cells #[(.int .i64 0), (.bool false), (.bool false), (.slice none 0 0), (.slice none 0 0)] 45 (0, 0)) →
 (Okc w40 ⟨w39.heap.size, 0, none⟩ ∧ Okc w40 ⟨w39.heap.size, 1, none⟩ ∧ Okc w40 ⟨w39.heap.size, 2, none⟩ ∧ Okc w40 ⟨w39.heap.size, 3, none⟩ ∧ Okc w40 ⟨w39.heap.size, 4, none⟩) ∧ ∀ w41 : World, w41 = (((((w40.setCell ⟨w39.heap.size, 0, none⟩ (.int .i64 x154_00)).setCell ⟨w39.heap.size, 1, none⟩ (.bool x154_01)).setCell ⟨w39.heap.size, 2, none⟩ (.bool x154_02)).setCell ⟨w39.heap.size, 3, none⟩ (.slice x154_03A x154_03N x154_03C)).setCell ⟨w39.heap.size, 4, none⟩ (.slice x154_04A x154_04N x154_04C)) →
 ((x154_1 != (0 : Int)) = true →
 R (.bool false) w41) ∧
 ((x154_1 != (0 : Int)) = false →
 ∃ vI_3 : Option Addr → Nat → Nat → Int → Nat → World → Prop, (∃ vk_12 : Nat, vI_3 waitA_3 waitN_3 waitC_3 0 vk_12 w41) ∧
 ∀ (jk : Nat → Value) (waitA_4 : Option Addr) (waitN_4 : Nat) (waitC_4 : Nat) (j : Int), ∀ (vk_10 : Nat) (w42 : World), vI_3 waitA_4 waitN_4 waitC_4 j vk_10 w42 →
 ∃ (x161A : Option Addr) (x161N x161C : Nat), w42.cell? ⟨w39.heap.size, 4, none⟩ = some (.slice x161A x161N x161C) ∧
 (decide (j < (x161N : Int)) = true →
 ∃ (x167A : Option Addr) (x167N x167C : Nat), w42.cell? ⟨w39.heap.size, 4, none⟩ = some (.slice x167A x167N x167C) ∧
 (0 ≤ j ∧ j < (x167N : Int)) ∧ someV x167A fun p_5 =>
 ∃ x171 : Int, w42.cell? (p_5.add (j.toNat * 5)) = some (.int .i64 x171) ∧
 ((x171 == x150) = true →
 R (.bool false) w42) ∧
 ((x171 == x150) = false →
 ∃ (x176A : Option Addr) (x176N x176C : Nat), w42.cell? ⟨w39.heap.size, 4, none⟩ = some (.slice x176A x176N x176C) ∧
 (0 ≤ j ∧ j < (x176N : Int)) ∧ someV x176A fun p_6 =>
 ∃ (x1790 x1791 : Int) (x1792A : Option Addr) (x1792N x1792C : Nat) (x1793 : Int) (x1794A : Option Addr) (x1794N x1794C : Nat), (w42.cell? (p_6.add (j.toNat * 5)) = some (.int .i64 x1790) ∧ w42.cell? ((p_6.add (j.toNat * 5)).add 1) = some (.int .i64 x1791) ∧ w42.cell? ((p_6.add (j.toNat * 5)).add 2) = some (.slice x1792A x1792N x1792C) ∧ w42.cell? ((p_6.add (j.toNat * 5)).add 3) = some (.int .i64 x1793) ∧ w42.cell? ((p_6.add (j.toNat * 5)).add 4) = some (.slice x1794A x1794N x1794C)) ∧
 ∀ w43 : World, w43 = w42.alloc (.cells #[(.int .i64 x1790), (.int .i64 x1791), (.slice x1792A x1792N x1792C), (.int .i64 x1793), (.slice x1794A x1794N x1794C)] 37 (0, 0)) →
 ∃ (x181A : Option Addr) (x181N x181C : Nat), ∃ w44 : World, (Builtin.append_ #[43, 43] 43 #[(.slice waitA_4 waitN_4 waitC_4), (.slice (some ⟨w42.heap.size, 0, none⟩) 1 1)]).run Tryz.prog w43 = .ok (.slice x181A x181N x181C) w44 ∧
 ∃ vk_11 : Nat, vk_11 < vk_10 ∧ vI_3 x181A x181N x181C (IntKind.i64.wrap (j + 1)) vk_11 w44)) ∧
 (decide (j < (x161N : Int)) = false →
 ∃ x183 : Bool, w42.cell? ⟨w39.heap.size, 1, none⟩ = some (.bool x183) ∧
 ((!x183) = true →
 ∃ vk_4 : Nat, vk_4 < vk_3 ∧ vI_1 waitA_4 waitN_4 waitC_4 done (IntKind.i64.wrap (i_1 + 1)) vk_4 w42) ∧
 ((!x183) = false →
 ∃ x187 : Int, w42.cell? ⟨w39.heap.size, 0, none⟩ = some (.int .i64 x187) ∧
 (0 ≤ (IntKind.i64.wrap (x187 - 1)) ∧ (IntKind.i64.wrap (x187 - 1)) < (x104N : Int)) ∧ someV x104A fun p_7 =>
 ∃ (x1900 x1901 : Int) (x1902A : Option Addr) (x1902N x1902C : Nat) (x1903 : Int) (x1904A : Option Addr) (x1904N x1904C : Nat), (w42.cell? (p_7.add ((IntKind.i64.wrap (x187 - 1)).toNat * 5)) = some (.int .i64 x1900) ∧ w42.cell? ((p_7.add ((IntKind.i64.wrap (x187 - 1)).toNat * 5)).add 1) = some (.int .i64 x1901) ∧ w42.cell? ((p_7.add ((IntKind.i64.wrap (x187 - 1)).toNat * 5)).add 2) = some (.slice x1902A x1902N x1902C) ∧ w42.cell? ((p_7.add ((IntKind.i64.wrap (x187 - 1)).toNat * 5)).add 3) = some (.int .i64 x1903) ∧ w42.cell? ((p_7.add ((IntKind.i64.wrap (x187 - 1)).toNat * 5)).add 4) = some (.slice x1904A x1904N x1904C)) ∧
 ∀ w45 : World, w45 = w42.alloc (.cells #[(.int .i64 0), (.int .i64 0), (.slice none 0 0), (.int .i64 0), (.slice none 0 0)] 37 (0, 0)) →
 (Okc w45 ⟨w42.heap.size, 0, none⟩ ∧ Okc w45 ⟨w42.heap.size, 1, none⟩ ∧ Okc w45 ⟨w42.heap.size, 2, none⟩ ∧ Okc w45 ⟨w42.heap.size, 3, none⟩ ∧ Okc w45 ⟨w42.heap.size, 4, none⟩) ∧ ∀ w46 : World, w46 = (((((w45.setCell ⟨w42.heap.size, 0, none⟩ (.int .i64 x1900)).setCell ⟨w42.heap.size, 1, none⟩ (.int .i64 x1901)).setCell ⟨w42.heap.size, 2, none⟩ (.slice x1902A x1902N x1902C)).setCell ⟨w42.heap.size, 3, none⟩ (.int .i64 x1903)).setCell ⟨w42.heap.size, 4, none⟩ (.slice x1904A x1904N x1904C)) →
 ∃ vS_2 : World → Prop, ∀ w47 : World, w47 = w46.drew → vS_2 w47 ∧
 ∃ x193 : Int, (∀ w48, vS_2 w48 → w48.cell? ⟨w42.heap.size, 1, none⟩ = some (.int .i64 x193)) ∧
 (2 : Int) ≠ 0 ∧
 (0 ≤ (Int.tmod x193 2) ∧ (Int.tmod x193 2) < (2 : Int)) ∧
 ∃ x196 : Option Addr, (∀ w49, vS_2 w49 → w49.cell? ((⟨w2.heap.size, 0, none⟩ : Addr).add ((Int.tmod x193 2).toNat * 1)) = some (.pointer x196)) ∧
 ∃ (x198A : Option Addr) (x198N x198C : Nat), (∀ w50, vS_2 w50 → w50.cell? ⟨w42.heap.size, 2, none⟩ = some (.slice x198A x198N x198C)) ∧
 ∃ x200 : Int, (∀ w51, vS_2 w51 → w51.cell? ⟨w42.heap.size, 3, none⟩ = some (.int .i64 x200)) ∧
 ∃ (x202A : Option Addr) (x202N x202C : Nat), (∀ w52, vS_2 w52 → w52.cell? ⟨w42.heap.size, 4, none⟩ = some (.slice x202A x202N x202C)) ∧
 Calls Tryz.prog 17 #[(.pointer x196), (.slice x198A x198N x198C), (.int .i64 x200), (.slice x202A x202N x202C)] w47 (Ret fun v_10 w53 => ∃ (x203_0A : Option Addr) (x203_0N x203_0C : Nat) (x203_1 : Int), v_10 = (.tuple #[(.slice x203_0A x203_0N x203_0C), (.int .i64 x203_1)]) ∧
 vS_2 w53 ∧
 ((x203_1 != (0 : Int)) = true →
 R (.bool false) w53) ∧
 ((x203_1 != (0 : Int)) = false →
 ∃ (x211A : Option Addr) (x211N x211C : Nat), w53.cell? ⟨w39.heap.size, 3, none⟩ = some (.slice x211A x211N x211C) ∧
 Calls Tryz.prog 19 #[(.slice x203_0A x203_0N x203_0C), (.slice x211A x211N x211C)] w53 (Ret fun v_11 w54 => ∃ x212 : Bool, v_11 = (.bool x212) ∧
 ((!x212) = true →
 R (.bool false) w54) ∧
 ((!x212) = false →
 ∃ vk_4 : Nat, vk_4 < vk_3 ∧ vI_1 waitA_4 waitN_4 waitC_4 (IntKind.i64.wrap (done + 1)) (IntKind.i64.wrap (i_1 + 1)) vk_4 w54)))))))))) ∧
 (decide (done < (x104N : Int)) = false →
 J done w28)) ∧
 (decide (i_1 < (3000 : Int)) = false →
 J done w28)) ∧
 ∀ (jk : Nat → Value) (done_1 : Int), ∀ w55 : World, J done_1 w55 →
 ((done_1 == (x104N : Int)) = true →
 Calls Tryz.prog 14 #[(.pointer x48)] w55 (Ret fun v_12 w56 => ∃ (x223A : Option Addr) (x223N x223C : Nat), v_12 = (.slice x223A x223N x223C) ∧
 (((x223N : Int) == (0 : Int)) = true →
 Calls Tryz.prog 12 #[(.pointer x48)] w56 (Ret fun v_13 w57 => ∃ x229 : Int, v_13 = (.int .i64 x229) ∧
 Calls Tryz.prog 13 #[(.pointer x48)] w57 (Ret fun v_14 w58 => ∃ x231 : Int, v_14 = (.int .i64 x231) ∧
 R (.bool ((IntKind.i64.wrap (x229 + x231)) == (IntKind.i64.wrap (3 + (IntKind.i64.wrap (Int.tmod (IntKind.u64.wrap pages) 10)))))) w58))) ∧
 (((x223N : Int) == (0 : Int)) = false →
 R (.bool false) w56))) ∧
 ((done_1 == (x104N : Int)) = false →
 R (.bool false) w55))))))))
theorem coadjutorlaw25_CrewSays.calls (weights : ByteArray) (asksA : Option Addr) (asksN : Nat) (asksC : Nat) (pages : Int) (picksA : Option Addr) (picksN : Nat) (picksC : Nat) {w : World} {R : Value → World → Prop} (h : coadjutorlaw25_CrewSays.vc weights asksA asksN asksC pages picksA picksN picksC w R) : Calls Tryz.prog 5 #[(.string weights), (.slice asksA asksN asksC), (.int .i64 pages), (.slice picksA picksN picksC)] w (Ret R) :=
 calls_V fit Tryz.func5 (.c .nil (.at_ 3 3 (.k .nil) (.c .nil (.lp ([(8, none), (13, some (.slice)), (14, some (.int .i64)), (15, none)] ++ nn 50 52) (.c (.tk 0 (.tk 1 (.tk 2 (.tk 3 (.tks 4 (.tk 5 (.tk 6 (.tk 7 (.tk 8 (.tk 9 (.tk 10 (.tk 11 (.tk 12 (.tk 13 (.tk 14 (.tk 15 (.tk 16 (.tk 17 (.tk 18 (.tk 19 (.tk 20 (.tk 21 (.tk 22 (.fin (.k .nil)))))))))))))))))))) (.tk 5 (.tk 6 (.tk 7 (.tk 8 (.tk 9 (.tks 10 (.tk 11 (.tk 12 (.tk 13 (.tk 14 (.tk 15 (.tk 16 (.tk 17 (.tk 18 (.tk 19 (.tk 20 (.tk 21 (.tk 22 (.fin (.k .nil)))))))))))))) (.tk 11 (.tk 12 (.tk 13 (.tk 14 (.tk 15 (.tk 16 (.tk 17 (.tk 18 (.tk 19 (.alt 20 (.tk 21 (.tk 22 (.fin (.c .nil (.c .nil .nil))))) .nil))))))))))))))))))))) (.cut 2 ([(8, none), (13, none), (17, some (.int .i64))] ++ nn 18 9 ++ nn 105 112) (.lp ([(8, none), (13, some (.slice)), (17, some (.int .i64)), (18, some (.int .i64))] ++ nn 19 8 ++ nn 105 112) (.at_ 23 2 (.c (.cut 1 ([(8, none), (13, some (.slice))] ++ nn 115 24) (.lp ([(8, none), (13, some (.slice))] ++ nn 115 24) (.at_ 25 3 (.c (.tk 0 (.tk 1 (.tk 2 (.tk 3 (.tk 4 (.tk 5 (.tk 6 (.tk 7 (.tk 8 (.tk 9 (.tk 10 (.alt 11 (.tk 12 (.fin (.c .nil .nil))) .nil)))))))))))) .nil) (.k .nil))) (.cut 1 ([(19, some (.int .i64))] ++ nn 139 8) (.c .nil .nil) (.c .nil (.lp ([(8, none), (13, some (.slice)), (23, some (.int .i64))] ++ nn 159 23) (.c (.c .nil .nil) (.c .nil (.tk 0 (.tk 1 (.tk 2 (.tk 3 (.tk 4 (.tk 5 (.tk 6 (.tk 7 (.tk 8 (.tk 9 (.tk 10 (.alt 11 (.tk 12 (.tk 13 (.tk 14 (.tk 15 (.tk 16 (.fin (.at_ 45 2 (.k .nil) (.c .nil .nil)))))))) .nil)))))))))))))))))) .nil) (.k .nil))) (.at_ 48 4 (.at_ 48 10 .nil .nil) .nil))))))) (Eq.mpr (by kernel_rfl) h)
end Go.Proofs.YtkbikekbaboclaaGreat.Vc
