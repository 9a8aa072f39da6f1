import Derived.Test.YtkbikekbaboclaaGreatVc
import Derived.Test.YtkbikekbaboclaaGreatH
import Derived.Test.YtkbikekbaboclaaGreatProg
import Derived.KernelRfl
set_option linter.unusedVariables false
set_option maxRecDepth 100000
namespace Go.Proofs.YtkbikekbaboclaaGreat.Vc
open Go Go.Proofs V
def prefix_New.vc (pB : Nat) (w : World) (R : Value → World → Prop) : Prop :=
 ∀ w1 : World, w1 = w.alloc (.cells #[(.pointer (some ⟨pB, 0, none⟩)), (.slice none 0 0)] 145 (0, 0)) →
 R (.pointer (some ⟨w.heap.size, 0, none⟩)) w1
theorem prefix_New.calls (pB : Nat) {w : World} {R : Value → World → Prop} (h : prefix_New.vc pB w R) : Calls Tryz.prog 37 #[(.pointer (some (⟨pB, 0, none⟩ : Addr)))] w (Ret R) :=
 calls_V fit Tryz.func37 (.k .nil) (Eq.mpr (by kernel_rfl) h)
def prefix_isBeginning.vc (n : Int) (w : World) (R : Value → World → Prop) : Prop :=
 (decide (n > (0 : Int)) = true →
 (decide (n ≤ (32 : Int)) = true →
 (4 : Int) ≠ 0 ∧
 R (.bool ((Int.tmod n 4) == (0 : Int))) w) ∧
 (decide (n ≤ (32 : Int)) = false →
 R (.bool false) w)) ∧
 (decide (n > (0 : Int)) = false →
 R (.bool false) w)
theorem prefix_isBeginning.calls (n : Int) {w : World} {R : Value → World → Prop} (h : prefix_isBeginning.vc n w R) : Calls Tryz.prog 120 #[(.int .i64 n)] w (Ret R) :=
 calls_V fit Tryz.func120 (.at_ 1 2 (.at_ 1 6 .nil .nil) .nil) (Eq.mpr (by kernel_rfl) h)
def prefix_Index_find_c1.vc (e0 : Int) (e1A : Option Addr) (e1N : Nat) (e1C : Nat) (e2 : Int) (c0B : Nat) (c1B : Nat) (w : World) (R : Value → World → Prop) : Prop :=
 ∀ w1 : World, w1 = w.alloc (.cells #[(.int .i64 e0), (.slice e1A e1N e1C), (.int .i64 e2)] 151 (0, 0)) →
 ∃ x6 : Int, w1.cell? ⟨w.heap.size, 0, none⟩ = some (.int .i64 x6) ∧
 ∃ x7 : Int, w1.cell? ⟨c0B, 0, none⟩ = some (.int .i64 x7) ∧
 ((x6 == x7) = true →
 ∃ (x11A : Option Addr) (x11N x11C : Nat), w1.cell? ⟨w.heap.size, 1, none⟩ = some (.slice x11A x11N x11C) ∧
 ∃ (x12A : Option Addr) (x12N x12C : Nat), w1.cell? ⟨c1B, 0, none⟩ = some (.slice x12A x12N x12C) ∧
 Calls Tryz.prog 105 #[(.slice x11A x11N x11C), (.slice x12A x12N x12C)] w1 (Ret fun v w2 => ∃ x13 : Bool, v = (.bool x13) ∧
 R (.bool x13) w2)) ∧
 ((x6 == x7) = false →
 R (.bool false) w1)
theorem prefix_Index_find_c1.calls (e0 : Int) (e1A : Option Addr) (e1N : Nat) (e1C : Nat) (e2 : Int) (c0B : Nat) (c1B : Nat) {w : World} {R : Value → World → Prop} (h : prefix_Index_find_c1.vc e0 e1A e1N e1C e2 c0B c1B w R) : Calls Tryz.prog 104 #[(.agg #[(.int .i64 e0), (.slice e1A e1N e1C), (.int .i64 e2)]), (.pointer (some (⟨c0B, 0, none⟩ : Addr))), (.pointer (some (⟨c1B, 0, none⟩ : Addr)))] w (Ret R) :=
 calls_V fit Tryz.func104 (.at_ 1 4 .nil .nil) (Eq.mpr (by kernel_rfl) h)
def slices_IndexFunc.vc_fi (sA : Option Addr) (sN : Nat) (sC : Nat) (c0B : Nat) (c1B : Nat) (w : World) (R : Value → World → Prop) : Prop :=
 ∃ vI : Int → Nat → World → Prop, (∃ vk_2 : Nat, vI 0 vk_2 w) ∧
 ∀ (jk : Nat → Value) (x8 : Int), ∀ (vk : Nat) (w1 : World), vI x8 vk w1 →
 (decide (x8 < (sN : Int)) = true →
 (0 ≤ x8 ∧ x8 < (sN : Int)) ∧ someV sA fun p =>
 ∃ (x150 : Int) (x151A : Option Addr) (x151N x151C : Nat) (x152 : Int), (w1.cell? (p.add (x8.toNat * 3)) = some (.int .i64 x150) ∧ w1.cell? ((p.add (x8.toNat * 3)).add 1) = some (.slice x151A x151N x151C) ∧ w1.cell? ((p.add (x8.toNat * 3)).add 2) = some (.int .i64 x152)) ∧
 Calls Tryz.prog 104 #[(.agg #[(.int .i64 x150), (.slice x151A x151N x151C), (.int .i64 x152)]), (.pointer (some ⟨c0B, 0, none⟩)), (.pointer (some ⟨c1B, 0, none⟩))] w1 (Ret fun v w2 => ∃ x16 : Bool, v = (.bool x16) ∧
 (x16 = true →
 R (.int .i64 x8) w2) ∧
 (x16 = false →
 ∃ vk_1 : Nat, vk_1 < vk ∧ vI (IntKind.i64.wrap (x8 + 1)) vk_1 w2))) ∧
 (decide (x8 < (sN : Int)) = false →
 R (.int .i64 (-1)) w1)
theorem slices_IndexFunc.calls_fi (sA : Option Addr) (sN : Nat) (sC : Nat) (c0B : Nat) (c1B : Nat) {w : World} {R : Value → World → Prop} (h : slices_IndexFunc.vc_fi sA sN sC c0B c1B w R) : Calls Tryz.prog 103 #[(.slice sA sN sC), (.func (.func 104) #[] #[(.pointer (some (⟨c0B, 0, none⟩ : Addr))), (.pointer (some (⟨c1B, 0, none⟩ : Addr)))])] w (Ret R) :=
 calls_V fit Tryz.func103 (.lp ([(4, none), (5, none), (8, some (.int .i64))] ++ nn 9 10) (.c (.c .nil .nil) .nil)) (Eq.mpr (by kernel_rfl) h)
def prefix_Index_find.vc (xB : Nat) (version : Int) (tokensA : Option Addr) (tokensN : Nat) (tokensC : Nat) (w : World) (R : Value → World → Prop) : Prop :=
 ∀ w1 : World, w1 = w.alloc (.cells #[(.int .i64 version)] 3 (0, 0)) →
 ∀ w2 : World, w2 = w1.alloc (.cells #[(.slice tokensA tokensN tokensC)] 35 (0, 0)) →
 ∃ (x10A : Option Addr) (x10N x10C : Nat), w2.cell? ⟨xB, 1, none⟩ = some (.slice x10A x10N x10C) ∧
 Calls Tryz.prog 103 #[(.slice x10A x10N x10C), (.func (.func 104) #[] #[(.pointer (some ⟨w.heap.size, 0, none⟩)), (.pointer (some ⟨w1.heap.size, 0, none⟩))])] w2 (Ret fun v w3 => ∃ x12 : Int, v = (.int .i64 x12) ∧
 R (.int .i64 x12) w3)
theorem prefix_Index_find.calls (xB : Nat) (version : Int) (tokensA : Option Addr) (tokensN : Nat) (tokensC : Nat) {w : World} {R : Value → World → Prop} (h : prefix_Index_find.vc xB version tokensA tokensN tokensC w R) : Calls Tryz.prog 73 #[(.pointer (some (⟨xB, 0, none⟩ : Addr))), (.int .i64 version), (.slice tokensA tokensN tokensC)] w (Ret R) :=
 calls_V fit Tryz.func73 .nil (Eq.mpr (by kernel_rfl) h)
def slices_Delete.vc (sA : Option Addr) (sN : Nat) (sC : Nat) (i : Int) (j : Int) (w : World) (R : Value → World → Prop) : Prop :=
 (0 ≤ i ∧ i ≤ j ∧ j ≤ (sN : Int) ∧ (sN : Int) ≤ (sC : Int)) ∧
 ((i == j) = true →
 R (.slice sA sN sC) w) ∧
 ((i == j) = false →
 ∃ vS : World → Prop, ∀ w1 : World, w1 = w.drew → vS w1 ∧
 (0 ≤ i ∧ i ≤ (sC : Int)) ∧
 (0 ≤ j ∧ j ≤ (sN : Int)) ∧
 ∃ (x26A : Option Addr) (x26N x26C : Nat), ∃ w2 : World, (Builtin.append_ #[143, 143] 143 #[(.slice (if sC = 0 then sA else sA.map (·.add (0 * 3))) (i.toNat - 0) (sC - 0)), (.slice (if sC = j.toNat then sA else sA.map (·.add (j.toNat * 3))) (sN - j.toNat) (sC - j.toNat))]).run Tryz.prog w1 = .ok (.slice x26A x26N x26C) w2 ∧
 vS w2 ∧
 (0 ≤ (x26N : Int) ∧ (x26N : Int) ≤ (sN : Int) ∧ (sN : Int) ≤ (x26C : Int)) ∧
 ∃ x : Value, ∃ w3 : World, (Builtin.clear_ #[143] 0 #[(.slice (if x26C = (x26N : Int).toNat then x26A else x26A.map (·.add ((x26N : Int).toNat * 3))) ((sN : Int).toNat - (x26N : Int).toNat) (x26C - (x26N : Int).toNat))]).run Tryz.prog w2 = .ok x w3 ∧
 R (.slice x26A x26N x26C) w3)
theorem slices_Delete.calls (sA : Option Addr) (sN : Nat) (sC : Nat) (i : Int) (j : Int) {w : World} {R : Value → World → Prop} (h : slices_Delete.vc sA sN sC i j w R) : Calls Tryz.prog 74 #[(.slice sA sN sC), (.int .i64 i), (.int .i64 j)] w (Ret R) :=
 calls_V fit Tryz.func74 (.c .nil (.tk 0 (.tk 1 (.tk 2 (.tk 3 (.tk 4 (.tk 5 (.alt 6 (.tk 7 (.fin .nil)) .nil)))))))) (Eq.mpr (by kernel_rfl) h)
def prefix_Index_Add.vc (xB : Nat) (id : Int) (version : Int) (tokensA : Option Addr) (tokensN : Nat) (tokensC : Nat) (w : World) (R : Value → World → Prop) : Prop :=
 Calls Tryz.prog 120 #[(.int .i64 (tokensN : Int))] w (Ret fun v w1 => ∃ x15 : Bool, v = (.bool x15) ∧
 ((!x15) = true →
 R (.int .i64 1) w1) ∧
 ((!x15) = false →
 Calls Tryz.prog 73 #[(.pointer (some ⟨xB, 0, none⟩)), (.int .i64 version), (.slice tokensA tokensN tokensC)] w1 (Ret fun v_1 w2 => ∃ x21 : Int, v_1 = (.int .i64 x21) ∧
 (decide (x21 ≥ (0 : Int)) = true →
 R (.int .i64 9) w2) ∧
 (decide (x21 ≥ (0 : Int)) = false →
 ∃ x27 : Option Addr, w2.cell? ⟨xB, 0, none⟩ = some (.pointer x27) ∧
 Calls Tryz.prog 110 #[(.pointer x27), (.int .i64 id)] w2 (Ret fun v_2 w3 => ∃ x29 : Int, v_2 = (.int .i64 x29) ∧
 ((x29 == (0 : Int)) = true →
 R (.int .i64 8) w3) ∧
 ((x29 == (0 : Int)) = false →
 ∃ x35 : Option Addr, w3.cell? ⟨xB, 0, none⟩ = some (.pointer x35) ∧
 Calls Tryz.prog 121 #[(.pointer x35), (.int .i64 id)] w3 (Ret fun v_3 w4 => ∃ x37 : Int, v_3 = (.int .i64 x37) ∧
 ((x37 != version) = true →
 R (.int .i64 8) w4) ∧
 ((x37 != version) = false →
 ∃ x45 : Option Addr, w4.cell? ⟨xB, 0, none⟩ = some (.pointer x45) ∧
 ∀ w5 : World, w5 = w4.alloc (.cells #[(.int .i64 id)] 3 (0, 0)) →
 Calls Tryz.prog 80 #[(.pointer x45), (.slice (some ⟨w4.heap.size, 0, none⟩) 1 1)] w5 (Ret fun v_4 w6 => ∃ (x48A : Option Addr) (x48N x48C : Nat), v_4 = (.slice x48A x48N x48C) ∧
 (((x48N : Int) != (4 : Int)) = true →
 R (.int .i64 8) w6) ∧
 (((x48N : Int) != (4 : Int)) = false →
 ∃ vS : World → Prop, ∀ w7 : World, w7 = w6.drew → vS w7 ∧
 ∃ (x56A : Option Addr) (x56N x56C : Nat), (∀ w8, vS w8 → w8.cell? ⟨xB, 1, none⟩ = some (.slice x56A x56N x56C)) ∧
 Calls Tryz.prog 51 #[(.slice tokensA tokensN tokensC)] w7 (Ret fun v_5 w9 => ∃ (x59A : Option Addr) (x59N x59C : Nat), v_5 = (.slice x59A x59N x59C) ∧
 vS w9 ∧
 ∀ w10 : World, w10 = w9.alloc (.cells #[(.int .i64 version), (.slice x59A x59N x59C), (.int .i64 id)] 151 (0, 0)) →
 vS w10 ∧
 ∃ (x63A : Option Addr) (x63N x63C : Nat), ∃ w11 : World, (Builtin.append_ #[143, 143] 143 #[(.slice x56A x56N x56C), (.slice (some ⟨w9.heap.size, 0, none⟩) 1 1)]).run Tryz.prog w10 = .ok (.slice x63A x63N x63C) w11 ∧
 vS w11 ∧
 (Okc w11 ⟨xB, 1, none⟩) ∧ ∀ w12 : World, w12 = (w11.setCell ⟨xB, 1, none⟩ (.slice x63A x63N x63C)) →
 ∃ x69 : Option Addr, w12.cell? ⟨xB, 0, none⟩ = some (.pointer x69) ∧
 ∀ w13 : World, w13 = w12.alloc (.cells #[(.int .i64 id)] 3 (0, 0)) →
 Calls Tryz.prog 75 #[(.pointer x69), (.slice (some ⟨w12.heap.size, 0, none⟩) 1 1)] w13 (Ret fun v_6 w14 => ∃ x72 : Int, v_6 = (.int .i64 x72) ∧
 R (.int .i64 x72) w14))))))))))))
theorem prefix_Index_Add.calls (xB : Nat) (id : Int) (version : Int) (tokensA : Option Addr) (tokensN : Nat) (tokensC : Nat) {w : World} {R : Value → World → Prop} (h : prefix_Index_Add.vc xB id version tokensA tokensN tokensC w R) : Calls Tryz.prog 82 #[(.pointer (some (⟨xB, 0, none⟩ : Addr))), (.int .i64 id), (.int .i64 version), (.slice tokensA tokensN tokensC)] w (Ret R) :=
 calls_V fit Tryz.func82 (.k (.c .nil (.c .nil (.at_ 7 7 (.k .nil) (.at_ 7 17 (.k .nil) (.c .nil (.tk 0 (.tk 1 (.tk 2 (.tk 3 (.tk 4 (.tk 5 (.tk 6 (.tk 8 (.alt 7 (.tk 9 (.alt 10 (.alt 11 (.tk 12 (.tk 13 (.last 14 (.fin .nil)))) .nil) .nil)) .nil))))))))))))))) (Eq.mpr (by kernel_rfl) h)
def prefix_Index_Find.vc (xB : Nat) (version : Int) (tokensA : Option Addr) (tokensN : Nat) (tokensC : Nat) (w : World) (R : Value → World → Prop) : Prop :=
 ∃ J : Option Addr → Nat → Nat → World → Prop, (∃ vI : Option Addr → Nat → Nat → Int → Nat → World → Prop, (∃ vk_2 : Nat, vI none 0 0 4 vk_2 w) ∧
 ∀ (jk : Nat → Value) (outA : Option Addr) (outN : Nat) (outC : Nat) (n : Int), ∀ (vk : Nat) (w1 : World), vI outA outN outC n vk w1 →
 (decide (n < (tokensN : Int)) = true →
 (0 ≤ n ∧ n ≤ (tokensC : Int)) ∧
 Calls Tryz.prog 73 #[(.pointer (some ⟨xB, 0, none⟩)), (.int .i64 version), (.slice (if tokensC = 0 then tokensA else tokensA.map (·.add (0 * 1))) (n.toNat - 0) (tokensC - 0))] w1 (Ret fun v w2 => ∃ x23 : Int, v = (.int .i64 x23) ∧
 (decide (x23 < (0 : Int)) = true →
 J outA outN outC w2) ∧
 (decide (x23 < (0 : Int)) = false →
 ∃ (x29A : Option Addr) (x29N x29C : Nat), w2.cell? ⟨xB, 1, none⟩ = some (.slice x29A x29N x29C) ∧
 (0 ≤ x23 ∧ x23 < (x29N : Int)) ∧ someV x29A fun p =>
 ∃ (x320 : Int) (x321A : Option Addr) (x321N x321C : Nat) (x322 : Int), (w2.cell? (p.add (x23.toNat * 3)) = some (.int .i64 x320) ∧ w2.cell? ((p.add (x23.toNat * 3)).add 1) = some (.slice x321A x321N x321C) ∧ w2.cell? ((p.add (x23.toNat * 3)).add 2) = some (.int .i64 x322)) ∧
 ∀ w3 : World, w3 = w2.alloc (.cells #[(.int .i64 0), (.slice none 0 0), (.int .i64 0)] 151 (0, 0)) →
 (Okc w3 ⟨w2.heap.size, 0, none⟩ ∧ Okc w3 ⟨w2.heap.size, 1, none⟩ ∧ Okc w3 ⟨w2.heap.size, 2, none⟩) ∧ ∀ w4 : World, w4 = (((w3.setCell ⟨w2.heap.size, 0, none⟩ (.int .i64 x320)).setCell ⟨w2.heap.size, 1, none⟩ (.slice x321A x321N x321C)).setCell ⟨w2.heap.size, 2, none⟩ (.int .i64 x322)) →
 ∃ vS : World → Prop, ∀ w5 : World, w5 = w4.drew → vS w5 ∧
 ∃ (x37A : Option Addr) (x37N x37C : Nat), (∀ w6, vS w6 → w6.cell? ⟨xB, 1, none⟩ = some (.slice x37A x37N x37C)) ∧
 ∃ (x420 : Int) (x421A : Option Addr) (x421N x421C : Nat) (x422 : Int), ((∀ w7, vS w7 → w7.cell? ⟨w2.heap.size, 0, none⟩ = some (.int .i64 x420)) ∧ (∀ w7, vS w7 → w7.cell? ⟨w2.heap.size, 1, none⟩ = some (.slice x421A x421N x421C)) ∧ (∀ w7, vS w7 → w7.cell? ⟨w2.heap.size, 2, none⟩ = some (.int .i64 x422))) ∧
 (Calls Tryz.prog 74 #[(.slice x37A x37N x37C), (.int .i64 x23), (.int .i64 (IntKind.i64.wrap (x23 + 1)))] w5 (Ret fun v_1 w8 => ∃ (x41A : Option Addr) (x41N x41C : Nat), v_1 = (.slice x41A x41N x41C) ∧
 vS w8 ∧
 ∀ w9 : World, w9 = w8.alloc (.cells #[(.int .i64 x420), (.slice x421A x421N x421C), (.int .i64 x422)] 151 (0, 0)) →
 vS w9 ∧
 ∃ (x44A : Option Addr) (x44N x44C : Nat), ∃ w10 : World, (Builtin.append_ #[143, 143] 143 #[(.slice x41A x41N x41C), (.slice (some ⟨w8.heap.size, 0, none⟩) 1 1)]).run Tryz.prog w9 = .ok (.slice x44A x44N x44C) w10 ∧
 vS w10 ∧
 (Okc w10 ⟨xB, 1, none⟩) ∧ ∀ w11 : World, w11 = (w10.setCell ⟨xB, 1, none⟩ (.slice x44A x44N x44C)) →
 ∃ x49 : Int, w11.cell? ⟨w2.heap.size, 2, none⟩ = some (.int .i64 x49) ∧
 ∀ w12 : World, w12 = w11.alloc (.cells #[(.int .i64 x49)] 3 (0, 0)) →
 ∃ (x51A : Option Addr) (x51N x51C : Nat), ∃ w13 : World, (Builtin.append_ #[35, 35] 35 #[(.slice outA outN outC), (.slice (some ⟨w11.heap.size, 0, none⟩) 1 1)]).run Tryz.prog w12 = .ok (.slice x51A x51N x51C) w13 ∧
 ∃ vk_1 : Nat, vk_1 < vk ∧ vI x51A x51N x51C (IntKind.i64.wrap (n + 4)) vk_1 w13)) ∧ (∀ w14 : World, w14 = w5.alloc (.cells #[(.int .i64 x420), (.slice x421A x421N x421C), (.int .i64 x422)] 151 (0, 0)) →
 vS w14 ∧
 Calls Tryz.prog 74 #[(.slice x37A x37N x37C), (.int .i64 x23), (.int .i64 (IntKind.i64.wrap (x23 + 1)))] w14 (Ret fun v_2 w15 => ∃ (x41A_1 : Option Addr) (x41N_1 x41C_1 : Nat), v_2 = (.slice x41A_1 x41N_1 x41C_1) ∧
 vS w15 ∧
 ∃ (x44A_1 : Option Addr) (x44N_1 x44C_1 : Nat), ∃ w16 : World, (Builtin.append_ #[143, 143] 143 #[(.slice x41A_1 x41N_1 x41C_1), (.slice (some ⟨w5.heap.size, 0, none⟩) 1 1)]).run Tryz.prog w15 = .ok (.slice x44A_1 x44N_1 x44C_1) w16 ∧
 vS w16 ∧
 (Okc w16 ⟨xB, 1, none⟩) ∧ ∀ w17 : World, w17 = (w16.setCell ⟨xB, 1, none⟩ (.slice x44A_1 x44N_1 x44C_1)) →
 ∃ x49_1 : Int, w17.cell? ⟨w2.heap.size, 2, none⟩ = some (.int .i64 x49_1) ∧
 ∀ w18 : World, w18 = w17.alloc (.cells #[(.int .i64 x49_1)] 3 (0, 0)) →
 ∃ (x51A_1 : Option Addr) (x51N_1 x51C_1 : Nat), ∃ w19 : World, (Builtin.append_ #[35, 35] 35 #[(.slice outA outN outC), (.slice (some ⟨w17.heap.size, 0, none⟩) 1 1)]).run Tryz.prog w18 = .ok (.slice x51A_1 x51N_1 x51C_1) w19 ∧
 ∃ vk_1 : Nat, vk_1 < vk ∧ vI x51A_1 x51N_1 x51C_1 (IntKind.i64.wrap (n + 4)) vk_1 w19)) ∧ True))) ∧
 (decide (n < (tokensN : Int)) = false →
 J outA outN outC w1)) ∧
 ∀ (jk : Nat → Value) (outA_1 : Option Addr) (outN_1 : Nat) (outC_1 : Nat), ∀ w20 : World, J outA_1 outN_1 outC_1 w20 →
 ∃ x55 : Option Addr, w20.cell? ⟨xB, 0, none⟩ = some (.pointer x55) ∧
 Calls Tryz.prog 75 #[(.pointer x55), (.slice outA_1 outN_1 outC_1)] w20 (Ret fun v_3 w21 => ∃ x57 : Int, v_3 = (.int .i64 x57) ∧
 R (.slice outA_1 outN_1 outC_1) w21)
theorem prefix_Index_Find.calls (xB : Nat) (version : Int) (tokensA : Option Addr) (tokensN : Nat) (tokensC : Nat) {w : World} {R : Value → World → Prop} (h : prefix_Index_Find.vc xB version tokensA tokensN tokensC w R) : Calls Tryz.prog 40 #[(.pointer (some (⟨xB, 0, none⟩ : Addr))), (.int .i64 version), (.slice tokensA tokensN tokensC)] w (Ret R) :=
 calls_V fit Tryz.func40 (.k (.cut 0 ([(6, some (.slice))] ++ nn 7 3 ++ nn 12 40) (.lp ([(6, some (.slice)), (7, some (.int .i64)), (8, none), (9, none)] ++ nn 12 40) (.c (.c .nil (.tk 0 (.tk 1 (.tk 2 (.tk 3 (.tk 4 (.tk 5 (.tk 6 (.tk 7 (.tk 9 (.alt 8 (.alt 10 (.alt 11 (.tk 12 (.tk 13 (.last 14 (.fin .nil)))) .nil) .nil) (.alt 10 (.alt 8 (.alt 11 (.tk 12 (.tk 13 (.last 14 (.fin .nil)))) .nil) .nil) .nil)))))))))))) .nil)) .nil)) (Eq.mpr (by kernel_rfl) h)
def prefix_Index_Evict_c1.vc (e0 : Int) (e1A : Option Addr) (e1N : Nat) (e1C : Nat) (e2 : Int) (c0B : Nat) (w : World) (R : Value → World → Prop) : Prop :=
 ∀ w1 : World, w1 = w.alloc (.cells #[(.int .i64 e0), (.slice e1A e1N e1C), (.int .i64 e2)] 151 (0, 0)) →
 ∃ vS : World → Prop, ∀ w2 : World, w2 = w1.drew → vS w2 ∧
 ∃ x4 : Option Addr, (∀ w3, vS w3 → w3.cell? ⟨c0B, 0, none⟩ = some (.pointer x4)) ∧
 someV x4 fun p =>
 ∃ x7 : Option Addr, (∀ w4, vS w4 → w4.cell? p = some (.pointer x7)) ∧
 ∃ x9 : Int, (∀ w5, vS w5 → w5.cell? ⟨w.heap.size, 2, none⟩ = some (.int .i64 x9)) ∧
 Calls Tryz.prog 110 #[(.pointer x7), (.int .i64 x9)] w2 (Ret fun v w6 => ∃ x10 : Int, v = (.int .i64 x10) ∧
 vS w6 ∧
 R (.bool (x10 == (1 : Int))) w6)
theorem prefix_Index_Evict_c1.calls (e0 : Int) (e1A : Option Addr) (e1N : Nat) (e1C : Nat) (e2 : Int) (c0B : Nat) {w : World} {R : Value → World → Prop} (h : prefix_Index_Evict_c1.vc e0 e1A e1N e1C e2 c0B w R) : Calls Tryz.prog 109 #[(.agg #[(.int .i64 e0), (.slice e1A e1N e1C), (.int .i64 e2)]), (.pointer (some (⟨c0B, 0, none⟩ : Addr)))] w (Ret R) :=
 calls_V fit Tryz.func109 (.tk 0 (.tk 1 (.tk 2 (.tk 3 (.tk 4 (.tk 5 (.alt 6 (.tk 7 (.tk 8 (.fin .nil))) .nil))))))) (Eq.mpr (by kernel_rfl) h)
def slices_IndexFunc.vc_ev (sA : Option Addr) (sN : Nat) (sC : Nat) (c0B : Nat) (w : World) (R : Value → World → Prop) : Prop :=
 ∃ vI : Int → Nat → World → Prop, (∃ vk_2 : Nat, vI 0 vk_2 w) ∧
 ∀ (jk : Nat → Value) (x8 : Int), ∀ (vk : Nat) (w1 : World), vI x8 vk w1 →
 (decide (x8 < (sN : Int)) = true →
 (0 ≤ x8 ∧ x8 < (sN : Int)) ∧ someV sA fun p =>
 ∃ (x150 : Int) (x151A : Option Addr) (x151N x151C : Nat) (x152 : Int), (w1.cell? (p.add (x8.toNat * 3)) = some (.int .i64 x150) ∧ w1.cell? ((p.add (x8.toNat * 3)).add 1) = some (.slice x151A x151N x151C) ∧ w1.cell? ((p.add (x8.toNat * 3)).add 2) = some (.int .i64 x152)) ∧
 Calls Tryz.prog 109 #[(.agg #[(.int .i64 x150), (.slice x151A x151N x151C), (.int .i64 x152)]), (.pointer (some ⟨c0B, 0, none⟩))] w1 (Ret fun v w2 => ∃ x16 : Bool, v = (.bool x16) ∧
 (x16 = true →
 R (.int .i64 x8) w2) ∧
 (x16 = false →
 ∃ vk_1 : Nat, vk_1 < vk ∧ vI (IntKind.i64.wrap (x8 + 1)) vk_1 w2))) ∧
 (decide (x8 < (sN : Int)) = false →
 R (.int .i64 (-1)) w1)
theorem slices_IndexFunc.calls_ev (sA : Option Addr) (sN : Nat) (sC : Nat) (c0B : Nat) {w : World} {R : Value → World → Prop} (h : slices_IndexFunc.vc_ev sA sN sC c0B w R) : Calls Tryz.prog 103 #[(.slice sA sN sC), (.func (.func 109) #[] #[(.pointer (some (⟨c0B, 0, none⟩ : Addr)))])] w (Ret R) :=
 calls_V fit Tryz.func103 (.lp ([(4, none), (5, none), (8, some (.int .i64))] ++ nn 9 10) (.c (.c .nil .nil) .nil)) (Eq.mpr (by kernel_rfl) h)
def prefix_Index_Evict.vc (xB : Nat) (w : World) (R : Value → World → Prop) : Prop :=
 ∀ w1 : World, w1 = w.alloc (.cells #[(.pointer (some ⟨xB, 0, none⟩))] 91 (0, 0)) →
 ∃ x4 : Option Addr, w1.cell? ⟨w.heap.size, 0, none⟩ = some (.pointer x4) ∧
 (x4.isNone = true →
 R (.bool false) w1) ∧
 (x4.isNone = false →
 ∃ x6 : Option Addr, w1.cell? ⟨w.heap.size, 0, none⟩ = some (.pointer x6) ∧
 someV x6 fun p =>
 ∃ (x9A : Option Addr) (x9N x9C : Nat), w1.cell? (p.add 1) = some (.slice x9A x9N x9C) ∧
 Calls Tryz.prog 103 #[(.slice x9A x9N x9C), (.func (.func 109) #[] #[(.pointer (some ⟨w.heap.size, 0, none⟩))])] w1 (Ret fun v w2 => ∃ x11 : Int, v = (.int .i64 x11) ∧
 (decide (x11 < (0 : Int)) = true →
 R (.bool false) w2) ∧
 (decide (x11 < (0 : Int)) = false →
 ∃ vS : World → Prop, ∀ w3 : World, w3 = w2.drew → vS w3 ∧
 ∃ x14 : Option Addr, (∀ w4, vS w4 → w4.cell? ⟨w.heap.size, 0, none⟩ = some (.pointer x14)) ∧
 someV x14 fun p_1 =>
 ∃ x17 : Option Addr, (∀ w5, vS w5 → w5.cell? p_1 = some (.pointer x17)) ∧
 ∃ x18 : Option Addr, (∀ w6, vS w6 → w6.cell? ⟨w.heap.size, 0, none⟩ = some (.pointer x18)) ∧
 someV x18 fun p_2 =>
 ∃ (x21A : Option Addr) (x21N x21C : Nat), (∀ w7, vS w7 → w7.cell? (p_2.add 1) = some (.slice x21A x21N x21C)) ∧
 (0 ≤ x11 ∧ x11 < (x21N : Int)) ∧ someV x21A fun p_3 =>
 ∃ x25 : Int, (∀ w8, vS w8 → w8.cell? ((p_3.add (x11.toNat * 3)).add 2) = some (.int .i64 x25)) ∧
 ∀ w9 : World, w9 = w3.alloc (.cells #[(.int .i64 x25)] 3 (0, 0)) →
 vS w9 ∧
 Calls Tryz.prog 83 #[(.pointer x17), (.slice (some ⟨w3.heap.size, 0, none⟩) 1 1)] w9 (Ret fun v_1 w10 => ∃ x27 : Int, v_1 = (.int .i64 x27) ∧
 vS w10 ∧
 ∃ vS_1 : World → Prop, ∀ w11 : World, w11 = w10.drew → vS_1 w11 ∧
 ∃ x28 : Option Addr, (∀ w12, vS_1 w12 → w12.cell? ⟨w.heap.size, 0, none⟩ = some (.pointer x28)) ∧
 ∃ x29 : Option Addr, (∀ w13, vS_1 w13 → w13.cell? ⟨w.heap.size, 0, none⟩ = some (.pointer x29)) ∧
 someV x29 fun p_4 =>
 ∃ (x32A : Option Addr) (x32N x32C : Nat), (∀ w14, vS_1 w14 → w14.cell? (p_4.add 1) = some (.slice x32A x32N x32C)) ∧
 Calls Tryz.prog 74 #[(.slice x32A x32N x32C), (.int .i64 x11), (.int .i64 (IntKind.i64.wrap (x11 + 1)))] w11 (Ret fun v_2 w15 => ∃ (x36A : Option Addr) (x36N x36C : Nat), v_2 = (.slice x36A x36N x36C) ∧
 vS_1 w15 ∧
 someV x28 fun p_5 =>
 (Okc w15 (p_5.add 1)) ∧ ∀ w16 : World, w16 = (w15.setCell (p_5.add 1) (.slice x36A x36N x36C)) →
 R (.bool true) w16)))))
theorem prefix_Index_Evict.calls (xB : Nat) {w : World} {R : Value → World → Prop} (h : prefix_Index_Evict.vc xB w R) : Calls Tryz.prog 77 #[(.pointer (some (⟨xB, 0, none⟩ : Addr)))] w (Ret R) :=
 calls_V fit Tryz.func77 (.c .nil (.c .nil (.tk 0 (.tk 1 (.tk 2 (.tk 3 (.tk 4 (.tk 5 (.tk 6 (.tk 7 (.tk 8 (.tk 9 (.tk 10 (.tk 11 (.alt 12 (.alt 13 (.fin (.tk 0 (.tk 1 (.tk 2 (.tk 3 (.tk 4 (.tk 5 (.tk 6 (.tk 7 (.alt 8 (.tk 9 (.tk 10 (.last 11 (.fin .nil)))) .nil)))))))))) .nil) .nil))))))))))))))) (Eq.mpr (by kernel_rfl) h)
def prefix_Index_Forget_c1.vc (e0 : Int) (e1A : Option Addr) (e1N : Nat) (e1C : Nat) (e2 : Int) (c0B : Nat) (c1B : Nat) (w : World) (R : Value → World → Prop) : Prop :=
 ∀ w1 : World, w1 = w.alloc (.cells #[(.int .i64 e0), (.slice e1A e1N e1C), (.int .i64 e2)] 151 (0, 0)) →
 ∃ x6 : Int, w1.cell? ⟨w.heap.size, 0, none⟩ = some (.int .i64 x6) ∧
 ∃ x7 : Int, w1.cell? ⟨c0B, 0, none⟩ = some (.int .i64 x7) ∧
 ((x6 == x7) = true →
 ∃ vS : World → Prop, ∀ w2 : World, w2 = w1.drew → vS w2 ∧
 ∃ x9 : Option Addr, (∀ w3, vS w3 → w3.cell? ⟨c1B, 0, none⟩ = some (.pointer x9)) ∧
 someV x9 fun p =>
 ∃ x12 : Option Addr, (∀ w4, vS w4 → w4.cell? p = some (.pointer x12)) ∧
 ∃ x14 : Int, (∀ w5, vS w5 → w5.cell? ⟨w.heap.size, 2, none⟩ = some (.int .i64 x14)) ∧
 ∀ w6 : World, w6 = w2.alloc (.cells #[(.int .i64 x14)] 3 (0, 0)) →
 vS w6 ∧
 Calls Tryz.prog 83 #[(.pointer x12), (.slice (some ⟨w2.heap.size, 0, none⟩) 1 1)] w6 (Ret fun v w7 => ∃ x16 : Int, v = (.int .i64 x16) ∧
 vS w7 ∧
 ∃ x18 : Int, w7.cell? ⟨w.heap.size, 0, none⟩ = some (.int .i64 x18) ∧
 ∃ x19 : Int, w7.cell? ⟨c0B, 0, none⟩ = some (.int .i64 x19) ∧
 R (.bool (x18 == x19)) w7)) ∧
 ((x6 == x7) = false →
 ∃ x18_1 : Int, w1.cell? ⟨w.heap.size, 0, none⟩ = some (.int .i64 x18_1) ∧
 ∃ x19_1 : Int, w1.cell? ⟨c0B, 0, none⟩ = some (.int .i64 x19_1) ∧
 R (.bool (x18_1 == x19_1)) w1)
def prefix_Index_Forget.vc (xB : Nat) (version : Int) (w : World) (R : Value → World → Prop) : Prop :=
 ∀ w1 : World, w1 = w.alloc (.cells #[(.pointer (some ⟨xB, 0, none⟩))] 91 (0, 0)) →
 ∀ w2 : World, w2 = w1.alloc (.cells #[(.int .i64 version)] 3 (0, 0)) →
 ∃ x6 : Option Addr, w2.cell? ⟨w.heap.size, 0, none⟩ = some (.pointer x6) ∧
 Calls Tryz.prog 46 #[(.pointer x6)] w2 (Ret fun v w3 => ∃ x7 : Int, v = (.int .i64 x7) ∧
 ((x7 == (0 : Int)) = true →
 R (.int .i64 0) w3) ∧
 ((x7 == (0 : Int)) = false →
 ∃ vS : World → Prop, ∀ w4 : World, w4 = w3.drew → vS w4 ∧
 ∃ x10 : Option Addr, (∀ w5, vS w5 → w5.cell? ⟨w.heap.size, 0, none⟩ = some (.pointer x10)) ∧
 ∃ x11 : Option Addr, (∀ w6, vS w6 → w6.cell? ⟨w.heap.size, 0, none⟩ = some (.pointer x11)) ∧
 someV x11 fun p =>
 ∃ (x14A : Option Addr) (x14N x14C : Nat), (∀ w7, vS w7 → w7.cell? (p.add 1) = some (.slice x14A x14N x14C)) ∧
 Calls Tryz.prog 86 #[(.slice x14A x14N x14C), (.func (.func 87) #[] #[(.pointer (some ⟨w1.heap.size, 0, none⟩)), (.pointer (some ⟨w.heap.size, 0, none⟩))])] w4 (Ret fun v_1 w8 => ∃ (x16A : Option Addr) (x16N x16C : Nat), v_1 = (.slice x16A x16N x16C) ∧
 vS w8 ∧
 someV x10 fun p_1 =>
 (Okc w8 (p_1.add 1)) ∧ ∀ w9 : World, w9 = (w8.setCell (p_1.add 1) (.slice x16A x16N x16C)) →
 ∃ x20 : Option Addr, w9.cell? ⟨w.heap.size, 0, none⟩ = some (.pointer x20) ∧
 Calls Tryz.prog 46 #[(.pointer x20)] w9 (Ret fun v_2 w10 => ∃ x21 : Int, v_2 = (.int .i64 x21) ∧
 R (.int .i64 (IntKind.i64.wrap (x7 - x21))) w10))))
def prefix_Index_Len.vc (xB : Nat) (w : World) (R : Value → World → Prop) : Prop :=
 ∃ (x8A : Option Addr) (x8N x8C : Nat), w.cell? ⟨xB, 1, none⟩ = some (.slice x8A x8N x8C) ∧
 R (.int .i64 (x8N : Int)) w
theorem prefix_Index_Len.calls (xB : Nat) {w : World} {R : Value → World → Prop} (h : prefix_Index_Len.vc xB w R) : Calls Tryz.prog 46 #[(.pointer (some (⟨xB, 0, none⟩ : Addr)))] w (Ret R) :=
 calls_V fit Tryz.func46 (.k .nil) (Eq.mpr (by kernel_rfl) h)
end Go.Proofs.YtkbikekbaboclaaGreat.Vc
