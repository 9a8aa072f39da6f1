import Derived.Test.YtkbikekbaboclaaGreatVc
import Derived.Test.YtkbikekbaboclaaGreatH
import Derived.Test.YtkbikekbaboclaaGreatProg
import Derived.KernelRfl
set_option linter.unusedVariables false
set_option maxRecDepth 100000
namespace Go.Proofs.YtkbikekbaboclaaGreat.Vc
open Go Go.Proofs V
def step_isRows_c1.vc (x : Int) (w : World) (R : Value → World → Prop) : Prop :=
 Calls Tryz.prog 115 #[(.int .i64 x)] w (Ret fun v w1 => ∃ x4 : Int, v = (.int .i64 x4) ∧
 R (.bool (x4 != x)) w1)
theorem step_isRows_c1.calls (x : Int) {w : World} {R : Value → World → Prop} (h : step_isRows_c1.vc x w R) : Calls Tryz.prog 195 #[(.int .i64 x)] w (Ret R) :=
 calls_V fit Tryz.func195 .nil (Eq.mpr (by kernel_rfl) h)
def slices_ContainsFunc.vc_ir (sA : Option Addr) (sN : Nat) (sC : Nat) (w : World) (R : Value → World → Prop) : Prop :=
 Calls Tryz.prog 91 #[(.slice sA sN sC), (.func (.func 195) #[] #[])] w (Ret fun v w1 => ∃ x7 : Int, v = (.int .i64 x7) ∧
 R (.bool (decide (x7 ≥ (0 : Int)))) w1)
theorem slices_ContainsFunc.calls_ir (sA : Option Addr) (sN : Nat) (sC : Nat) {w : World} {R : Value → World → Prop} (h : slices_ContainsFunc.vc_ir sA sN sC w R) : Calls Tryz.prog 52 #[(.slice sA sN sC), (.func (.func 195) #[] #[])] w (Ret R) :=
 calls_V fit Tryz.func52 .nil (Eq.mpr (by kernel_rfl) h)
def slices_IndexFunc.vc_ir (sA : Option Addr) (sN : Nat) (sC : Nat) (w : World) (R : Value → World → Prop) : Prop :=
 ∃ vI : Int → Nat → World → Prop, (∃ vk_2 : Nat, vI 0 vk_2 w) ∧
 ∀ (jk : Nat → Value) (x8 : Int), ∀ (vk : Nat) (w1 : World), vI x8 vk w1 →
 (decide (x8 < (sN : Int)) = true →
 (0 ≤ x8 ∧ x8 < (sN : Int)) ∧ someV sA fun p =>
 ∃ x15 : Int, w1.cell? (p.add (x8.toNat * 1)) = some (.int .i64 x15) ∧
 Calls Tryz.prog 195 #[(.int .i64 x15)] w1 (Ret fun v w2 => ∃ x16 : Bool, v = (.bool x16) ∧
 (x16 = true →
 R (.int .i64 x8) w2) ∧
 (x16 = false →
 ∃ vk_1 : Nat, vk_1 < vk ∧ vI (IntKind.i64.wrap (x8 + 1)) vk_1 w2))) ∧
 (decide (x8 < (sN : Int)) = false →
 R (.int .i64 (-1)) w1)
theorem slices_IndexFunc.calls_ir (sA : Option Addr) (sN : Nat) (sC : Nat) {w : World} {R : Value → World → Prop} (h : slices_IndexFunc.vc_ir sA sN sC w R) : Calls Tryz.prog 91 #[(.slice sA sN sC), (.func (.func 195) #[] #[])] w (Ret R) :=
 calls_V fit Tryz.func91 (.lp ([(4, none), (5, none), (8, some (.int .i64))] ++ nn 9 10) (.c (.c .nil .nil) .nil)) (Eq.mpr (by kernel_rfl) h)
def step_isRows.vc (listA : Option Addr) (listN : Nat) (listC : Nat) (n : Int) (dim : Int) (w : World) (R : Value → World → Prop) : Prop :=
 ∃ vI : Int → Nat → World → Prop, (∃ vk_2 : Nat, vI 0 vk_2 w) ∧
 ∀ (jk : Nat → Value) (x12 : Int), ∀ (vk : Nat) (w1 : World), vI x12 vk w1 →
 (decide (x12 < (listN : Int)) = true →
 (0 ≤ x12 ∧ x12 < (listN : Int)) ∧ someV listA fun p =>
 ∃ (x15A : Option Addr) (x15N x15C : Nat), w1.cell? (p.add (x12.toNat * 1)) = some (.slice x15A x15N x15C) ∧
 (((x15N : Int) != dim) = true →
 R (.bool false) w1) ∧
 (((x15N : Int) != dim) = false →
 Calls Tryz.prog 52 #[(.slice x15A x15N x15C), (.func (.func 195) #[] #[])] w1 (Ret fun v w2 => ∃ x23 : Bool, v = (.bool x23) ∧
 (x23 = true →
 R (.bool false) w2) ∧
 (x23 = false →
 ∃ vk_1 : Nat, vk_1 < vk ∧ vI (IntKind.i64.wrap (x12 + 1)) vk_1 w2)))) ∧
 (decide (x12 < (listN : Int)) = false →
 R (.bool ((listN : Int) == n)) w1)
theorem step_isRows.calls (listA : Option Addr) (listN : Nat) (listC : Nat) (n : Int) (dim : Int) {w : World} {R : Value → World → Prop} (h : step_isRows.vc listA listN listC n dim w R) : Calls Tryz.prog 178 #[(.slice listA listN listC), (.int .i64 n), (.int .i64 dim)] w (Ret R) :=
 calls_V fit Tryz.func178 (.lp ([(6, none), (9, none), (12, some (.int .i64))] ++ nn 13 13) (.c (.at_ 5 4 (.k .nil) (.c .nil .nil)) .nil)) (Eq.mpr (by kernel_rfl) h)
def step_Good.vc (bB : Nat) (e0A : Option Addr) (e0N : Nat) (e0C : Nat) (e1A : Option Addr) (e1N : Nat) (e1C : Nat) (w : World) (R : Value → World → Prop) : Prop :=
 ∀ w1 : World, w1 = w.alloc (.cells #[(.slice e0A e0N e0C), (.slice e1A e1N e1C)] 157 (0, 0)) →
 ∃ vS : World → Prop, ∀ w2 : World, w2 = w1.drew → vS w2 ∧
 ∃ (x9A : Option Addr) (x9N x9C : Nat), (∀ w3, vS w3 → w3.cell? ⟨w.heap.size, 0, none⟩ = some (.slice x9A x9N x9C)) ∧
 ∃ x15 : Int, (∀ w4, vS w4 → w4.cell? ⟨bB, 3, none⟩ = some (.int .i64 x15)) ∧
 ∃ x21 : Int, (∀ w5, vS w5 → w5.cell? ⟨bB, 1, none⟩ = some (.int .i64 x21)) ∧
 Calls Tryz.prog 178 #[(.slice x9A x9N x9C), (.int .i64 x15), (.int .i64 x21)] w2 (Ret fun v w6 => ∃ x22 : Bool, v = (.bool x22) ∧
 vS w6 ∧
 (x22 = true →
 ∃ (x26A : Option Addr) (x26N x26C : Nat), (∀ w7, vS w7 → w7.cell? ⟨w.heap.size, 1, none⟩ = some (.slice x26A x26N x26C)) ∧
 ∃ x32 : Int, (∀ w8, vS w8 → w8.cell? ⟨bB, 3, none⟩ = some (.int .i64 x32)) ∧
 ∃ x38 : Int, w6.cell? ⟨bB, 1, none⟩ = some (.int .i64 x38) ∧
 vS w6 ∧
 Calls Tryz.prog 178 #[(.slice x26A x26N x26C), (.int .i64 x32), (.int .i64 x38)] w6 (Ret fun v_1 w9 => ∃ x39 : Bool, v_1 = (.bool x39) ∧
 vS w9 ∧
 R (.bool x39) w9)) ∧
 (x22 = false →
 R (.bool false) w6))
theorem step_Good.calls (bB : Nat) (e0A : Option Addr) (e0N : Nat) (e0C : Nat) (e1A : Option Addr) (e1N : Nat) (e1C : Nat) {w : World} {R : Value → World → Prop} (h : step_Good.vc bB e0A e0N e0C e1A e1N e1C w R) : Calls Tryz.prog 150 #[(.pointer (some (⟨bB, 0, none⟩ : Addr))), (.agg #[(.slice e0A e0N e0C), (.slice e1A e1N e1C)])] w (Ret R) :=
 calls_V fit Tryz.func150 (.tk 0 (.tk 1 (.tk 2 (.tk 3 (.tk 4 (.tk 5 (.tk 6 (.tk 7 (.tk 8 (.tk 9 (.tk 10 (.tk 11 (.tk 12 (.tk 13 (.tk 14 (.tk 15 (.tk 16 (.alt 17 (.tk 18 (.tks 19 (.tk 20 (.tk 21 (.tk 22 (.tk 23 (.tk 24 (.tk 25 (.tk 26 (.tk 27 (.tk 28 (.tk 29 (.tk 30 (.tk 31 (.tk 32 (.alt 33 (.alt 34 (.tk 35 (.tk 36 (.fin .nil))) .nil) .nil)))))))))))))) (.tk 20 (.tk 21 (.tk 22 (.tk 23 (.tk 24 (.tk 25 (.tk 26 (.tk 27 (.tk 28 (.tk 29 (.tk 30 (.tk 31 (.tk 32 (.tk 33 (.tk 34 (.tk 35 (.tk 36 (.fin .nil)))))))))))))))))))) .nil)))))))))))))))))) (Eq.mpr (by kernel_rfl) h)
def step_check_c1.vc (e0A : Option Addr) (e0N : Nat) (e0C : Nat) (e1A : Option Addr) (e1N : Nat) (e1C : Nat) (c0B : Nat) (w : World) (R : Value → World → Prop) : Prop :=
 ∀ w1 : World, w1 = w.alloc (.cells #[(.slice e0A e0N e0C), (.slice e1A e1N e1C)] 157 (0, 0)) →
 ∃ x4 : Option Addr, w1.cell? ⟨c0B, 0, none⟩ = some (.pointer x4) ∧
 ∃ (x50A : Option Addr) (x50N x50C : Nat) (x51A : Option Addr) (x51N x51C : Nat), (w1.cell? ⟨w.heap.size, 0, none⟩ = some (.slice x50A x50N x50C) ∧ w1.cell? ⟨w.heap.size, 1, none⟩ = some (.slice x51A x51N x51C)) ∧
 Calls Tryz.prog 150 #[(.pointer x4), (.agg #[(.slice x50A x50N x50C), (.slice x51A x51N x51C)])] w1 (Ret fun v w2 => ∃ x6 : Bool, v = (.bool x6) ∧
 R (.bool (!x6)) w2)
theorem step_check_c1.calls (e0A : Option Addr) (e0N : Nat) (e0C : Nat) (e1A : Option Addr) (e1N : Nat) (e1C : Nat) (c0B : Nat) {w : World} {R : Value → World → Prop} (h : step_check_c1.vc e0A e0N e0C e1A e1N e1C c0B w R) : Calls Tryz.prog 149 #[(.agg #[(.slice e0A e0N e0C), (.slice e1A e1N e1C)]), (.pointer (some (⟨c0B, 0, none⟩ : Addr)))] w (Ret R) :=
 calls_V fit Tryz.func149 .nil (Eq.mpr (by kernel_rfl) h)
def slices_ContainsFunc.vc_ck (sA : Option Addr) (sN : Nat) (sC : Nat) (c0B : Nat) (w : World) (R : Value → World → Prop) : Prop :=
 Calls Tryz.prog 177 #[(.slice sA sN sC), (.func (.func 149) #[] #[(.pointer (some ⟨c0B, 0, none⟩))])] w (Ret fun v w1 => ∃ x7 : Int, v = (.int .i64 x7) ∧
 R (.bool (decide (x7 ≥ (0 : Int)))) w1)
theorem slices_ContainsFunc.calls_ck (sA : Option Addr) (sN : Nat) (sC : Nat) (c0B : Nat) {w : World} {R : Value → World → Prop} (h : slices_ContainsFunc.vc_ck sA sN sC c0B w R) : Calls Tryz.prog 148 #[(.slice sA sN sC), (.func (.func 149) #[] #[(.pointer (some (⟨c0B, 0, none⟩ : Addr)))])] w (Ret R) :=
 calls_V fit Tryz.func148 .nil (Eq.mpr (by kernel_rfl) h)
def slices_IndexFunc.vc_ck (sA : Option Addr) (sN : Nat) (sC : Nat) (c0B : Nat) (w : World) (R : Value → World → Prop) : Prop :=
 ∃ vI : Int → Nat → World → Prop, (∃ vk_2 : Nat, vI 0 vk_2 w) ∧
 ∀ (jk : Nat → Value) (x8 : Int), ∀ (vk : Nat) (w1 : World), vI x8 vk w1 →
 (decide (x8 < (sN : Int)) = true →
 (0 ≤ x8 ∧ x8 < (sN : Int)) ∧ someV sA fun p =>
 ∃ (x150A : Option Addr) (x150N x150C : Nat) (x151A : Option Addr) (x151N x151C : Nat), (w1.cell? (p.add (x8.toNat * 2)) = some (.slice x150A x150N x150C) ∧ w1.cell? ((p.add (x8.toNat * 2)).add 1) = some (.slice x151A x151N x151C)) ∧
 Calls Tryz.prog 149 #[(.agg #[(.slice x150A x150N x150C), (.slice x151A x151N x151C)]), (.pointer (some ⟨c0B, 0, none⟩))] w1 (Ret fun v w2 => ∃ x16 : Bool, v = (.bool x16) ∧
 (x16 = true →
 R (.int .i64 x8) w2) ∧
 (x16 = false →
 ∃ vk_1 : Nat, vk_1 < vk ∧ vI (IntKind.i64.wrap (x8 + 1)) vk_1 w2))) ∧
 (decide (x8 < (sN : Int)) = false →
 R (.int .i64 (-1)) w1)
theorem slices_IndexFunc.calls_ck (sA : Option Addr) (sN : Nat) (sC : Nat) (c0B : Nat) {w : World} {R : Value → World → Prop} (h : slices_IndexFunc.vc_ck sA sN sC c0B w R) : Calls Tryz.prog 177 #[(.slice sA sN sC), (.func (.func 149) #[] #[(.pointer (some (⟨c0B, 0, none⟩ : Addr)))])] w (Ret R) :=
 calls_V fit Tryz.func177 (.lp ([(4, none), (5, none), (8, some (.int .i64))] ++ nn 9 10) (.c (.c .nil .nil) .nil)) (Eq.mpr (by kernel_rfl) h)
def step_check.vc (bB : Nat) (pastA : Option Addr) (pastN : Nat) (pastC : Nat) (w : World) (R : Value → World → Prop) : Prop :=
 ∀ w1 : World, w1 = w.alloc (.cells #[(.pointer (some ⟨bB, 0, none⟩))] 24 (0, 0)) →
 ∃ x6 : Option Addr, w1.cell? ⟨w.heap.size, 0, none⟩ = some (.pointer x6) ∧
 (x6.isNone = true →
 R (.int .i64 2) w1) ∧
 (x6.isNone = false →
 Calls Tryz.prog 148 #[(.slice pastA pastN pastC), (.func (.func 149) #[] #[(.pointer (some ⟨w.heap.size, 0, none⟩))])] w1 (Ret fun v w2 => ∃ x11 : Bool, v = (.bool x11) ∧
 (x11 = true →
 R (.int .i64 1) w2) ∧
 (x11 = false →
 R (.int .i64 0) w2)))
theorem step_check.calls (bB : Nat) (pastA : Option Addr) (pastN : Nat) (pastC : Nat) {w : World} {R : Value → World → Prop} (h : step_check.vc bB pastA pastN pastC w R) : Calls Tryz.prog 112 #[(.pointer (some (⟨bB, 0, none⟩ : Addr))), (.slice pastA pastN pastC)] w (Ret R) :=
 calls_V fit Tryz.func112 (.c .nil (.c .nil .nil)) (Eq.mpr (by kernel_rfl) h)
def step_isToken.vc (bB : Nat) (n : Int) (w : World) (R : Value → World → Prop) : Prop :=
 (decide (n ≥ (0 : Int)) = true →
 ∃ x14 : Int, w.cell? ⟨bB, 0, none⟩ = some (.int .i64 x14) ∧
 R (.bool (decide (n < x14))) w) ∧
 (decide (n ≥ (0 : Int)) = false →
 R (.bool false) w)
theorem step_isToken.calls (bB : Nat) (n : Int) {w : World} {R : Value → World → Prop} (h : step_isToken.vc bB n w R) : Calls Tryz.prog 113 #[(.pointer (some (⟨bB, 0, none⟩ : Addr))), (.int .i64 n)] w (Ret R) :=
 calls_V fit Tryz.func113 (.at_ 1 2 .nil .nil) (Eq.mpr (by kernel_rfl) h)
def step_walk_times.vc (wB : Nat) (part : Int) (block : Int) (vA : Option Addr) (vN : Nat) (vC : Nat) (w : World) (R : Value → World → Prop) : Prop :=
 ∃ x17 : Option Addr, w.cell? ⟨wB, 0, none⟩ = some (.pointer x17) ∧
 Calls Tryz.prog 151 #[(.pointer x17), (.int .i64 part), (.int .i64 block)] w (Ret fun v w1 => ∃ (x20_00 x20_01 : Int) (x20_02A : Option Addr) (x20_02N x20_02C : Nat) (x20_1 : Bool), v = (.tuple #[(.agg #[(.int .i64 x20_00), (.int .i64 x20_01), (.slice x20_02A x20_02N x20_02C)]), (.bool x20_1)]) ∧
 ∀ w2 : World, w2 = w1.alloc (.cells #[(.int .i64 0), (.int .i64 0), (.slice none 0 0)] 213 (0, 0)) →
 (Okc w2 ⟨w1.heap.size, 0, none⟩ ∧ Okc w2 ⟨w1.heap.size, 1, none⟩ ∧ Okc w2 ⟨w1.heap.size, 2, none⟩) ∧ ∀ w3 : World, w3 = (((w2.setCell ⟨w1.heap.size, 0, none⟩ (.int .i64 x20_00)).setCell ⟨w1.heap.size, 1, none⟩ (.int .i64 x20_01)).setCell ⟨w1.heap.size, 2, none⟩ (.slice x20_02A x20_02N x20_02C)) →
 ∃ (x240 x241 : Int) (x242A : Option Addr) (x242N x242C : Nat), (w3.cell? ⟨w1.heap.size, 0, none⟩ = some (.int .i64 x240) ∧ w3.cell? ⟨w1.heap.size, 1, none⟩ = some (.int .i64 x241) ∧ w3.cell? ⟨w1.heap.size, 2, none⟩ = some (.slice x242A x242N x242C)) ∧
 Calls Tryz.prog 184 #[(.agg #[(.int .i64 x240), (.int .i64 x241), (.slice x242A x242N x242C)]), (.slice vA vN vC), (.int .i64 6)] w3 (Ret fun v_1 w4 => ∃ (x26_0A : Option Addr) (x26_0N x26_0C : Nat) (x26_1 : Int), v_1 = (.tuple #[(.slice x26_0A x26_0N x26_0C), (.int .i64 x26_1)]) ∧
 R (.slice x26_0A x26_0N x26_0C) w4))
theorem step_walk_times.calls (wB : Nat) (part : Int) (block : Int) (vA : Option Addr) (vN : Nat) (vC : Nat) {w : World} {R : Value → World → Prop} (h : step_walk_times.vc wB part block vA vN vC w R) : Calls Tryz.prog 155 #[(.pointer (some (⟨wB, 0, none⟩ : Addr))), (.int .i64 part), (.int .i64 block), (.slice vA vN vC)] w (Ret R) :=
 calls_V fit Tryz.func155 .nil (Eq.mpr (by kernel_rfl) h)
def step_walk_add.vc (wB : Nat) (vA : Option Addr) (vN : Nat) (vC : Nat) (w : World) (R : Value → World → Prop) : Prop :=
 ∃ (x9A : Option Addr) (x9N x9C : Nat), w.cell? ⟨wB, 2, none⟩ = some (.slice x9A x9N x9C) ∧
 ∀ w1 : World, w1 = w.alloc (.cells #[(.slice x9A x9N x9C), (.slice vA vN vC)] 35 (0, 0)) →
 Calls Tryz.prog 186 #[(.slice (some ⟨w.heap.size, 0, none⟩) 2 2)] w1 (Ret fun v w2 => ∃ (x12_0A : Option Addr) (x12_0N x12_0C : Nat) (x12_1 : Int), v = (.tuple #[(.slice x12_0A x12_0N x12_0C), (.int .i64 x12_1)]) ∧
 (Okc w2 ⟨wB, 2, none⟩) ∧ ∀ w3 : World, w3 = (w2.setCell ⟨wB, 2, none⟩ (.slice x12_0A x12_0N x12_0C)) →
 R (.tuple #[]) w3)
theorem step_walk_add.calls (wB : Nat) (vA : Option Addr) (vN : Nat) (vC : Nat) {w : World} {R : Value → World → Prop} (h : step_walk_add.vc wB vA vN vC w R) : Calls Tryz.prog 158 #[(.pointer (some (⟨wB, 0, none⟩ : Addr))), (.slice vA vN vC)] w (Ret R) :=
 calls_V fit Tryz.func158 .nil (Eq.mpr (by kernel_rfl) h)
def step_walk_norm.vc (wB : Nat) (part : Int) (block : Int) (w : World) (R : Value → World → Prop) : Prop :=
 ∃ vS : World → Prop, ∀ w1 : World, w1 = w.drew → vS w1 ∧
 ∃ x10 : Option Addr, (∀ w2, vS w2 → w2.cell? ⟨wB, 0, none⟩ = some (.pointer x10)) ∧
 ∃ (x17A : Option Addr) (x17N x17C : Nat), (∀ w3, vS w3 → w3.cell? ⟨wB, 2, none⟩ = some (.slice x17A x17N x17C)) ∧
 Calls Tryz.prog 114 #[(.pointer x10), (.int .i64 part), (.int .i64 block), (.int .i64 0)] w1 (Ret fun v w4 => ∃ (x13A : Option Addr) (x13N x13C : Nat), v = (.slice x13A x13N x13C) ∧
 vS w4 ∧
 Calls Tryz.prog 183 #[(.slice x13A x13N x13C), (.slice x17A x17N x17C)] w4 (Ret fun v_1 w5 => ∃ (x18A : Option Addr) (x18N x18C : Nat), v_1 = (.slice x18A x18N x18C) ∧
 vS w5 ∧
 R (.slice x18A x18N x18C) w5))
theorem step_walk_norm.calls (wB : Nat) (part : Int) (block : Int) {w : World} {R : Value → World → Prop} (h : step_walk_norm.vc wB part block w R) : Calls Tryz.prog 154 #[(.pointer (some (⟨wB, 0, none⟩ : Addr))), (.int .i64 part), (.int .i64 block)] w (Ret R) :=
 calls_V fit Tryz.func154 (.tk 0 (.tk 1 (.tk 2 (.tk 3 (.tk 4 (.tk 5 (.tk 7 (.tk 8 (.tk 9 (.tk 10 (.alt 6 (.alt 11 (.tk 12 (.fin .nil)) .nil) .nil))))))))))) (Eq.mpr (by kernel_rfl) h)
def step_walk_head.vc (wB : Nat) (block : Int) (vfrom : Int) (qA : Option Addr) (qN : Nat) (qC : Nat) (w : World) (R : Value → World → Prop) : Prop :=
 ∃ x18 : Option Addr, w.cell? ⟨wB, 0, none⟩ = some (.pointer x18) ∧
 someV x18 fun p =>
 ∃ x210 x211 x212 x213 x214 x215 : Int, (w.cell? p = some (.int .i64 x210) ∧ w.cell? (p.add 1) = some (.int .i64 x211) ∧ w.cell? (p.add 2) = some (.int .i64 x212) ∧ w.cell? (p.add 3) = some (.int .i64 x213) ∧ w.cell? (p.add 4) = some (.int .i64 x214) ∧ w.cell? (p.add 5) = some (.int .i64 x215)) ∧
 Calls Tryz.prog 157 #[(.agg #[(.int .i64 x210), (.int .i64 x211), (.int .i64 x212), (.int .i64 x213), (.int .i64 x214), (.int .i64 x215)])] w (Ret fun v w1 => ∃ x22 : Int, v = (.int .i64 x22) ∧
 ∃ vS : World → Prop, ∀ w2 : World, w2 = w1.drew → vS w2 ∧
 ∃ (x27A : Option Addr) (x27N x27C : Nat), (∀ w3, vS w3 → w3.cell? ⟨wB, 1, none⟩ = some (.slice x27A x27N x27C)) ∧
 ∃ (x320A : Option Addr) (x320N x320C : Nat) (x321A : Option Addr) (x321N x321C : Nat), ((∀ w4, vS w4 → w4.cell? ⟨wB, 3, none⟩ = some (.slice x320A x320N x320C)) ∧ (∀ w4, vS w4 → w4.cell? ⟨wB, 4, none⟩ = some (.slice x321A x321N x321C))) ∧
 (Calls Tryz.prog 123 #[(.slice x27A x27N x27C)] w2 (Ret fun v_1 w5 => ∃ (x28A : Option Addr) (x28N x28C : Nat), v_1 = (.slice x28A x28N x28C) ∧
 vS w5 ∧
 ∀ w6 : World, w6 = w5.alloc (.cells #[(.slice x320A x320N x320C), (.slice x321A x321N x321C)] 157 (0, 0)) →
 vS w6 ∧
 ∃ (x34A : Option Addr) (x34N x34C : Nat), ∃ w7 : World, (Builtin.append_ #[160, 160] 160 #[(.slice x28A x28N x28C), (.slice (some ⟨w5.heap.size, 0, none⟩) 1 1)]).run Tryz.prog w6 = .ok (.slice x34A x34N x34C) w7 ∧
 vS w7 ∧
 ∃ vI : Option Addr → Nat → Nat → Option Addr → Nat → Nat → Int → Nat → World → Prop, (∃ vk_2 : Nat, vI none 0 0 none 0 0 0 vk_2 w7) ∧
 ∀ (jk : Nat → Value) (scoresA : Option Addr) (scoresN : Nat) (scoresC : Nat) (valuesA : Option Addr) (valuesN : Nat) (valuesC : Nat) (x36 : Int), ∀ (vk : Nat) (w8 : World), vI scoresA scoresN scoresC valuesA valuesN valuesC x36 vk w8 →
 (decide (x36 < (x34N : Int)) = true →
 (0 ≤ x36 ∧ x36 < (x34N : Int)) ∧ someV x34A fun p_1 =>
 ∃ (x390A : Option Addr) (x390N x390C : Nat) (x391A : Option Addr) (x391N x391C : Nat), (w8.cell? (p_1.add (x36.toNat * 2)) = some (.slice x390A x390N x390C) ∧ w8.cell? ((p_1.add (x36.toNat * 2)).add 1) = some (.slice x391A x391N x391C)) ∧
 ∀ w9 : World, w9 = w8.alloc (.cells #[(.slice none 0 0), (.slice none 0 0)] 157 (0, 0)) →
 (Okc w9 ⟨w8.heap.size, 0, none⟩ ∧ Okc w9 ⟨w8.heap.size, 1, none⟩) ∧ ∀ w10 : World, w10 = ((w9.setCell ⟨w8.heap.size, 0, none⟩ (.slice x390A x390N x390C)).setCell ⟨w8.heap.size, 1, none⟩ (.slice x391A x391N x391C)) →
 ∃ vS_1 : World → Prop, ∀ w11 : World, w11 = w10.drew → vS_1 w11 ∧
 (0 ≤ vfrom ∧ vfrom ≤ (IntKind.i64.wrap (vfrom + x22)) ∧ (IntKind.i64.wrap (vfrom + x22)) ≤ (qC : Int)) ∧
 ∃ (x46A : Option Addr) (x46N x46C : Nat), (∀ w12, vS_1 w12 → w12.cell? ⟨w8.heap.size, 0, none⟩ = some (.slice x46A x46N x46C)) ∧
 (0 ≤ block ∧ block < (x46N : Int)) ∧ someV x46A fun p_2 =>
 ∃ (x49A : Option Addr) (x49N x49C : Nat), (∀ w13, vS_1 w13 → w13.cell? (p_2.add (block.toNat * 1)) = some (.slice x49A x49N x49C)) ∧
 (0 ≤ vfrom ∧ vfrom ≤ (IntKind.i64.wrap (vfrom + x22)) ∧ (IntKind.i64.wrap (vfrom + x22)) ≤ (x49C : Int)) ∧
 Calls Tryz.prog 161 #[(.slice (if qC = vfrom.toNat then qA else qA.map (·.add (vfrom.toNat * 1))) ((IntKind.i64.wrap (vfrom + x22)).toNat - vfrom.toNat) (qC - vfrom.toNat)), (.slice (if x49C = vfrom.toNat then x49A else x49A.map (·.add (vfrom.toNat * 1))) ((IntKind.i64.wrap (vfrom + x22)).toNat - vfrom.toNat) (x49C - vfrom.toNat))] w11 (Ret fun v_2 w14 => ∃ x53 : Int, v_2 = (.int .i64 x53) ∧
 vS_1 w14 ∧
 Calls Tryz.prog 160 #[(.int .i64 x53), (.int .i64 9)] w14 (Ret fun v_3 w15 => ∃ x54 : Int, v_3 = (.int .i64 x54) ∧
 vS_1 w15 ∧
 ∀ w16 : World, w16 = w15.alloc (.cells #[(.int .i64 x54)] 3 (0, 0)) →
 vS_1 w16 ∧
 ∃ (x56A : Option Addr) (x56N x56C : Nat), ∃ w17 : World, (Builtin.append_ #[35, 35] 35 #[(.slice scoresA scoresN scoresC), (.slice (some ⟨w15.heap.size, 0, none⟩) 1 1)]).run Tryz.prog w16 = .ok (.slice x56A x56N x56C) w17 ∧
 vS_1 w17 ∧
 ∃ (x59A : Option Addr) (x59N x59C : Nat), w17.cell? ⟨w8.heap.size, 1, none⟩ = some (.slice x59A x59N x59C) ∧
 (0 ≤ block ∧ block < (x59N : Int)) ∧ someV x59A fun p_3 =>
 ∃ (x62A : Option Addr) (x62N x62C : Nat), w17.cell? (p_3.add (block.toNat * 1)) = some (.slice x62A x62N x62C) ∧
 (0 ≤ vfrom ∧ vfrom ≤ (IntKind.i64.wrap (vfrom + x22)) ∧ (IntKind.i64.wrap (vfrom + x22)) ≤ (x62C : Int)) ∧
 ∀ w18 : World, w18 = w17.alloc (.cells #[(.slice (if x62C = vfrom.toNat then x62A else x62A.map (·.add (vfrom.toNat * 1))) ((IntKind.i64.wrap (vfrom + x22)).toNat - vfrom.toNat) (x62C - vfrom.toNat))] 35 (0, 0)) →
 ∃ (x67A : Option Addr) (x67N x67C : Nat), ∃ w19 : World, (Builtin.append_ #[120, 120] 120 #[(.slice valuesA valuesN valuesC), (.slice (some ⟨w17.heap.size, 0, none⟩) 1 1)]).run Tryz.prog w18 = .ok (.slice x67A x67N x67C) w19 ∧
 ∃ vk_1 : Nat, vk_1 < vk ∧ vI x56A x56N x56C x67A x67N x67C (IntKind.i64.wrap (x36 + 1)) vk_1 w19))) ∧
 (decide (x36 < (x34N : Int)) = false →
 Calls Tryz.prog 90 #[(.slice scoresA scoresN scoresC)] w8 (Ret fun v_4 w20 => ∃ (x70A : Option Addr) (x70N x70C : Nat), v_4 = (.slice x70A x70N x70C) ∧
 Calls Tryz.prog 185 #[(.slice x70A x70N x70C), (.slice valuesA valuesN valuesC)] w20 (Ret fun v_5 w21 => ∃ (x72A : Option Addr) (x72N x72C : Nat), v_5 = (.slice x72A x72N x72C) ∧
 R (.slice x72A x72N x72C) w21))))) ∧ (∀ w22 : World, w22 = w2.alloc (.cells #[(.slice x320A x320N x320C), (.slice x321A x321N x321C)] 157 (0, 0)) →
 vS w22 ∧
 Calls Tryz.prog 123 #[(.slice x27A x27N x27C)] w22 (Ret fun v_6 w23 => ∃ (x28A_1 : Option Addr) (x28N_1 x28C_1 : Nat), v_6 = (.slice x28A_1 x28N_1 x28C_1) ∧
 vS w23 ∧
 ∃ (x34A_1 : Option Addr) (x34N_1 x34C_1 : Nat), ∃ w24 : World, (Builtin.append_ #[160, 160] 160 #[(.slice x28A_1 x28N_1 x28C_1), (.slice (some ⟨w2.heap.size, 0, none⟩) 1 1)]).run Tryz.prog w23 = .ok (.slice x34A_1 x34N_1 x34C_1) w24 ∧
 vS w24 ∧
 ∃ vI_1 : Option Addr → Nat → Nat → Option Addr → Nat → Nat → Int → Nat → World → Prop, (∃ vk_5 : Nat, vI_1 none 0 0 none 0 0 0 vk_5 w24) ∧
 ∀ (jk : Nat → Value) (scoresA_1 : Option Addr) (scoresN_1 : Nat) (scoresC_1 : Nat) (valuesA_1 : Option Addr) (valuesN_1 : Nat) (valuesC_1 : Nat) (x36_1 : Int), ∀ (vk_3 : Nat) (w25 : World), vI_1 scoresA_1 scoresN_1 scoresC_1 valuesA_1 valuesN_1 valuesC_1 x36_1 vk_3 w25 →
 (decide (x36_1 < (x34N_1 : Int)) = true →
 (0 ≤ x36_1 ∧ x36_1 < (x34N_1 : Int)) ∧ someV x34A_1 fun p_4 =>
 ∃ (x390A_1 : Option Addr) (x390N_1 x390C_1 : Nat) (x391A_1 : Option Addr) (x391N_1 x391C_1 : Nat), (w25.cell? (p_4.add (x36_1.toNat * 2)) = some (.slice x390A_1 x390N_1 x390C_1) ∧ w25.cell? ((p_4.add (x36_1.toNat * 2)).add 1) = some (.slice x391A_1 x391N_1 x391C_1)) ∧
 ∀ w26 : World, w26 = w25.alloc (.cells #[(.slice none 0 0), (.slice none 0 0)] 157 (0, 0)) →
 (Okc w26 ⟨w25.heap.size, 0, none⟩ ∧ Okc w26 ⟨w25.heap.size, 1, none⟩) ∧ ∀ w27 : World, w27 = ((w26.setCell ⟨w25.heap.size, 0, none⟩ (.slice x390A_1 x390N_1 x390C_1)).setCell ⟨w25.heap.size, 1, none⟩ (.slice x391A_1 x391N_1 x391C_1)) →
 ∃ vS_2 : World → Prop, ∀ w28 : World, w28 = w27.drew → vS_2 w28 ∧
 (0 ≤ vfrom ∧ vfrom ≤ (IntKind.i64.wrap (vfrom + x22)) ∧ (IntKind.i64.wrap (vfrom + x22)) ≤ (qC : Int)) ∧
 ∃ (x46A_1 : Option Addr) (x46N_1 x46C_1 : Nat), (∀ w29, vS_2 w29 → w29.cell? ⟨w25.heap.size, 0, none⟩ = some (.slice x46A_1 x46N_1 x46C_1)) ∧
 (0 ≤ block ∧ block < (x46N_1 : Int)) ∧ someV x46A_1 fun p_5 =>
 ∃ (x49A_1 : Option Addr) (x49N_1 x49C_1 : Nat), (∀ w30, vS_2 w30 → w30.cell? (p_5.add (block.toNat * 1)) = some (.slice x49A_1 x49N_1 x49C_1)) ∧
 (0 ≤ vfrom ∧ vfrom ≤ (IntKind.i64.wrap (vfrom + x22)) ∧ (IntKind.i64.wrap (vfrom + x22)) ≤ (x49C_1 : Int)) ∧
 Calls Tryz.prog 161 #[(.slice (if qC = vfrom.toNat then qA else qA.map (·.add (vfrom.toNat * 1))) ((IntKind.i64.wrap (vfrom + x22)).toNat - vfrom.toNat) (qC - vfrom.toNat)), (.slice (if x49C_1 = vfrom.toNat then x49A_1 else x49A_1.map (·.add (vfrom.toNat * 1))) ((IntKind.i64.wrap (vfrom + x22)).toNat - vfrom.toNat) (x49C_1 - vfrom.toNat))] w28 (Ret fun v_7 w31 => ∃ x53_1 : Int, v_7 = (.int .i64 x53_1) ∧
 vS_2 w31 ∧
 Calls Tryz.prog 160 #[(.int .i64 x53_1), (.int .i64 9)] w31 (Ret fun v_8 w32 => ∃ x54_1 : Int, v_8 = (.int .i64 x54_1) ∧
 vS_2 w32 ∧
 ∀ w33 : World, w33 = w32.alloc (.cells #[(.int .i64 x54_1)] 3 (0, 0)) →
 vS_2 w33 ∧
 ∃ (x56A_1 : Option Addr) (x56N_1 x56C_1 : Nat), ∃ w34 : World, (Builtin.append_ #[35, 35] 35 #[(.slice scoresA_1 scoresN_1 scoresC_1), (.slice (some ⟨w32.heap.size, 0, none⟩) 1 1)]).run Tryz.prog w33 = .ok (.slice x56A_1 x56N_1 x56C_1) w34 ∧
 vS_2 w34 ∧
 ∃ (x59A_1 : Option Addr) (x59N_1 x59C_1 : Nat), w34.cell? ⟨w25.heap.size, 1, none⟩ = some (.slice x59A_1 x59N_1 x59C_1) ∧
 (0 ≤ block ∧ block < (x59N_1 : Int)) ∧ someV x59A_1 fun p_6 =>
 ∃ (x62A_1 : Option Addr) (x62N_1 x62C_1 : Nat), w34.cell? (p_6.add (block.toNat * 1)) = some (.slice x62A_1 x62N_1 x62C_1) ∧
 (0 ≤ vfrom ∧ vfrom ≤ (IntKind.i64.wrap (vfrom + x22)) ∧ (IntKind.i64.wrap (vfrom + x22)) ≤ (x62C_1 : Int)) ∧
 ∀ w35 : World, w35 = w34.alloc (.cells #[(.slice (if x62C_1 = vfrom.toNat then x62A_1 else x62A_1.map (·.add (vfrom.toNat * 1))) ((IntKind.i64.wrap (vfrom + x22)).toNat - vfrom.toNat) (x62C_1 - vfrom.toNat))] 35 (0, 0)) →
 ∃ (x67A_1 : Option Addr) (x67N_1 x67C_1 : Nat), ∃ w36 : World, (Builtin.append_ #[120, 120] 120 #[(.slice valuesA_1 valuesN_1 valuesC_1), (.slice (some ⟨w34.heap.size, 0, none⟩) 1 1)]).run Tryz.prog w35 = .ok (.slice x67A_1 x67N_1 x67C_1) w36 ∧
 ∃ vk_4 : Nat, vk_4 < vk_3 ∧ vI_1 x56A_1 x56N_1 x56C_1 x67A_1 x67N_1 x67C_1 (IntKind.i64.wrap (x36_1 + 1)) vk_4 w36))) ∧
 (decide (x36_1 < (x34N_1 : Int)) = false →
 Calls Tryz.prog 90 #[(.slice scoresA_1 scoresN_1 scoresC_1)] w25 (Ret fun v_9 w37 => ∃ (x70A_1 : Option Addr) (x70N_1 x70C_1 : Nat), v_9 = (.slice x70A_1 x70N_1 x70C_1) ∧
 Calls Tryz.prog 185 #[(.slice x70A_1 x70N_1 x70C_1), (.slice valuesA_1 valuesN_1 valuesC_1)] w37 (Ret fun v_10 w38 => ∃ (x72A_1 : Option Addr) (x72N_1 x72C_1 : Nat), v_10 = (.slice x72A_1 x72N_1 x72C_1) ∧
 R (.slice x72A_1 x72N_1 x72C_1) w38))))) ∧ True)
theorem step_walk_head.calls (wB : Nat) (block : Int) (vfrom : Int) (qA : Option Addr) (qN : Nat) (qC : Nat) {w : World} {R : Value → World → Prop} (h : step_walk_head.vc wB block vfrom qA qN qC w R) : Calls Tryz.prog 156 #[(.pointer (some (⟨wB, 0, none⟩ : Addr))), (.int .i64 block), (.int .i64 vfrom), (.slice qA qN qC)] w (Ret R) :=
 calls_V fit Tryz.func156 (.tk 0 (.tk 1 (.tk 2 (.tk 3 (.tk 5 (.tk 6 (.tk 7 (.tk 8 (.tk 12 (.alt 4 (.alt 9 (.alt 10 (.tk 11 (.fin (.lp ([(10, some (.slice)), (11, some (.slice)), (13, none), (36, some (.int .i64))] ++ nn 37 32) (.c (.tk 0 (.tk 1 (.tk 2 (.tk 3 (.tk 4 (.tk 5 (.tk 6 (.tk 7 (.tk 8 (.tk 9 (.tk 10 (.tk 11 (.tk 12 (.alt 13 (.alt 14 (.alt 15 (.alt 16 (.tk 17 (.fin .nil)) .nil) .nil) .nil) .nil)))))))))))))) .nil)))) .nil) .nil) (.alt 9 (.alt 4 (.alt 10 (.tk 11 (.fin (.lp ([(10, some (.slice)), (11, some (.slice)), (13, none), (36, some (.int .i64))] ++ nn 37 32) (.c (.tk 0 (.tk 1 (.tk 2 (.tk 3 (.tk 4 (.tk 5 (.tk 6 (.tk 7 (.tk 8 (.tk 9 (.tk 10 (.tk 11 (.tk 12 (.alt 13 (.alt 14 (.alt 15 (.alt 16 (.tk 17 (.fin .nil)) .nil) .nil) .nil) .nil)))))))))))))) .nil)))) .nil) .nil) .nil))))))))))) (Eq.mpr (by kernel_rfl) h)
def step_walk_look.vc (wB : Nat) (block : Int) (w : World) (R : Value → World → Prop) : Prop :=
 Calls Tryz.prog 154 #[(.pointer (some ⟨wB, 0, none⟩)), (.int .i64 2), (.int .i64 block)] w (Ret fun v w1 => ∃ (x10A : Option Addr) (x10N x10C : Nat), v = (.slice x10A x10N x10C) ∧
 Calls Tryz.prog 155 #[(.pointer (some ⟨wB, 0, none⟩)), (.int .i64 3), (.int .i64 block), (.slice x10A x10N x10C)] w1 (Ret fun v_1 w2 => ∃ (x14A : Option Addr) (x14N x14C : Nat), v_1 = (.slice x14A x14N x14C) ∧
 ∃ vS : World → Prop, ∀ w3 : World, w3 = w2.drew → vS w3 ∧
 ∃ (x20A : Option Addr) (x20N x20C : Nat), (∀ w4, vS w4 → w4.cell? ⟨wB, 3, none⟩ = some (.slice x20A x20N x20C)) ∧
 Calls Tryz.prog 155 #[(.pointer (some ⟨wB, 0, none⟩)), (.int .i64 4), (.int .i64 block), (.slice x10A x10N x10C)] w3 (Ret fun v_2 w5 => ∃ (x24A : Option Addr) (x24N x24C : Nat), v_2 = (.slice x24A x24N x24C) ∧
 vS w5 ∧
 ∀ w6 : World, w6 = w5.alloc (.cells #[(.slice x24A x24N x24C)] 35 (0, 0)) →
 vS w6 ∧
 ∃ (x26A : Option Addr) (x26N x26C : Nat), ∃ w7 : World, (Builtin.append_ #[120, 120] 120 #[(.slice x20A x20N x20C), (.slice (some ⟨w5.heap.size, 0, none⟩) 1 1)]).run Tryz.prog w6 = .ok (.slice x26A x26N x26C) w7 ∧
 vS w7 ∧
 (Okc w7 ⟨wB, 3, none⟩) ∧ ∀ w8 : World, w8 = (w7.setCell ⟨wB, 3, none⟩ (.slice x26A x26N x26C)) →
 ∃ vS_1 : World → Prop, ∀ w9 : World, w9 = w8.drew → vS_1 w9 ∧
 ∃ (x35A : Option Addr) (x35N x35C : Nat), (∀ w10, vS_1 w10 → w10.cell? ⟨wB, 4, none⟩ = some (.slice x35A x35N x35C)) ∧
 Calls Tryz.prog 155 #[(.pointer (some ⟨wB, 0, none⟩)), (.int .i64 5), (.int .i64 block), (.slice x10A x10N x10C)] w9 (Ret fun v_3 w11 => ∃ (x39A : Option Addr) (x39N x39C : Nat), v_3 = (.slice x39A x39N x39C) ∧
 vS_1 w11 ∧
 ∀ w12 : World, w12 = w11.alloc (.cells #[(.slice x39A x39N x39C)] 35 (0, 0)) →
 vS_1 w12 ∧
 ∃ (x41A : Option Addr) (x41N x41C : Nat), ∃ w13 : World, (Builtin.append_ #[120, 120] 120 #[(.slice x35A x35N x35C), (.slice (some ⟨w11.heap.size, 0, none⟩) 1 1)]).run Tryz.prog w12 = .ok (.slice x41A x41N x41C) w13 ∧
 vS_1 w13 ∧
 (Okc w13 ⟨wB, 4, none⟩) ∧ ∀ w14 : World, w14 = (w13.setCell ⟨wB, 4, none⟩ (.slice x41A x41N x41C)) →
 ∃ x48 : Option Addr, w14.cell? ⟨wB, 0, none⟩ = some (.pointer x48) ∧
 someV x48 fun p =>
 ∃ x53 : Int, w14.cell? (p.add 2) = some (.int .i64 x53) ∧
 ∃ vI : Option Addr → Nat → Nat → Int → Nat → World → Prop, (∃ vk_2 : Nat, vI none 0 0 0 vk_2 w14) ∧
 ∀ (jk : Nat → Value) (seenA : Option Addr) (seenN : Nat) (seenC : Nat) (x54 : Int), ∀ (vk : Nat) (w15 : World), vI seenA seenN seenC x54 vk w15 →
 (decide (x54 < x53) = true →
 ∃ x64 : Option Addr, w15.cell? ⟨wB, 0, none⟩ = some (.pointer x64) ∧
 someV x64 fun p_1 =>
 ∃ x670 x671 x672 x673 x674 x675 : Int, (w15.cell? p_1 = some (.int .i64 x670) ∧ w15.cell? (p_1.add 1) = some (.int .i64 x671) ∧ w15.cell? (p_1.add 2) = some (.int .i64 x672) ∧ w15.cell? (p_1.add 3) = some (.int .i64 x673) ∧ w15.cell? (p_1.add 4) = some (.int .i64 x674) ∧ w15.cell? (p_1.add 5) = some (.int .i64 x675)) ∧
 Calls Tryz.prog 157 #[(.agg #[(.int .i64 x670), (.int .i64 x671), (.int .i64 x672), (.int .i64 x673), (.int .i64 x674), (.int .i64 x675)])] w15 (Ret fun v_4 w16 => ∃ x68 : Int, v_4 = (.int .i64 x68) ∧
 Calls Tryz.prog 156 #[(.pointer (some ⟨wB, 0, none⟩)), (.int .i64 block), (.int .i64 (IntKind.i64.wrap (x54 * x68))), (.slice x14A x14N x14C)] w16 (Ret fun v_5 w17 => ∃ (x71A : Option Addr) (x71N x71C : Nat), v_5 = (.slice x71A x71N x71C) ∧
 ∃ (x72A : Option Addr) (x72N x72C : Nat), ∃ w18 : World, (Builtin.append_ #[35, 35] 35 #[(.slice seenA seenN seenC), (.slice x71A x71N x71C)]).run Tryz.prog w17 = .ok (.slice x72A x72N x72C) w18 ∧
 ∃ vk_1 : Nat, vk_1 < vk ∧ vI x72A x72N x72C (IntKind.i64.wrap (x54 + 1)) vk_1 w18))) ∧
 (decide (x54 < x53) = false →
 Calls Tryz.prog 155 #[(.pointer (some ⟨wB, 0, none⟩)), (.int .i64 6), (.int .i64 block), (.slice seenA seenN seenC)] w15 (Ret fun v_6 w19 => ∃ (x78A : Option Addr) (x78N x78C : Nat), v_6 = (.slice x78A x78N x78C) ∧
 Calls Tryz.prog 158 #[(.pointer (some ⟨wB, 0, none⟩)), (.slice x78A x78N x78C)] w19 (Ret fun v_7 w20 => v_7 = .tuple #[] ∧
 R (.tuple #[]) w20)))))))
theorem step_walk_look.calls (wB : Nat) (block : Int) {w : World} {R : Value → World → Prop} (h : step_walk_look.vc wB block w R) : Calls Tryz.prog 116 #[(.pointer (some (⟨wB, 0, none⟩ : Addr))), (.int .i64 block)] w (Ret R) :=
 calls_V fit Tryz.func116 (.tk 0 (.tk 1 (.tk 2 (.tk 3 (.tk 4 (.tk 5 (.tk 6 (.tk 7 (.tk 8 (.alt 9 (.alt 10 (.alt 11 (.tk 12 (.tk 13 (.tk 14 (.last 15 (.fin (.tk 0 (.tk 1 (.tk 2 (.tk 3 (.tk 4 (.tk 5 (.tk 6 (.tk 7 (.tk 8 (.alt 9 (.alt 10 (.alt 11 (.tk 12 (.tk 13 (.tk 14 (.last 15 (.fin (.lp ([(6, some (.slice)), (7, none), (54, some (.int .i64))] ++ nn 55 19) (.c .nil .nil))))))) .nil) .nil) .nil))))))))))))))) .nil) .nil) .nil)))))))))) (Eq.mpr (by kernel_rfl) h)
def step_walk_think.vc (wB : Nat) (block : Int) (w : World) (R : Value → World → Prop) : Prop :=
 Calls Tryz.prog 154 #[(.pointer (some ⟨wB, 0, none⟩)), (.int .i64 7), (.int .i64 block)] w (Ret fun v w1 => ∃ (x8A : Option Addr) (x8N x8C : Nat), v = (.slice x8A x8N x8C) ∧
 Calls Tryz.prog 155 #[(.pointer (some ⟨wB, 0, none⟩)), (.int .i64 8), (.int .i64 block), (.slice x8A x8N x8C)] w1 (Ret fun v_1 w2 => ∃ (x12A : Option Addr) (x12N x12C : Nat), v_1 = (.slice x12A x12N x12C) ∧
 Calls Tryz.prog 155 #[(.pointer (some ⟨wB, 0, none⟩)), (.int .i64 9), (.int .i64 block), (.slice x8A x8N x8C)] w2 (Ret fun v_2 w3 => ∃ (x16A : Option Addr) (x16N x16C : Nat), v_2 = (.slice x16A x16N x16C) ∧
 Calls Tryz.prog 159 #[(.slice x12A x12N x12C), (.slice x16A x16N x16C)] w3 (Ret fun v_3 w4 => ∃ (x17A : Option Addr) (x17N x17C : Nat), v_3 = (.slice x17A x17N x17C) ∧
 Calls Tryz.prog 155 #[(.pointer (some ⟨wB, 0, none⟩)), (.int .i64 10), (.int .i64 block), (.slice x17A x17N x17C)] w4 (Ret fun v_4 w5 => ∃ (x22A : Option Addr) (x22N x22C : Nat), v_4 = (.slice x22A x22N x22C) ∧
 Calls Tryz.prog 158 #[(.pointer (some ⟨wB, 0, none⟩)), (.slice x22A x22N x22C)] w5 (Ret fun v_5 w6 => v_5 = .tuple #[] ∧
 R (.tuple #[]) w6))))))
theorem step_walk_think.calls (wB : Nat) (block : Int) {w : World} {R : Value → World → Prop} (h : step_walk_think.vc wB block w R) : Calls Tryz.prog 117 #[(.pointer (some (⟨wB, 0, none⟩ : Addr))), (.int .i64 block)] w (Ret R) :=
 calls_V fit Tryz.func117 .nil (Eq.mpr (by kernel_rfl) h)
def step_walk_scores.vc (wB : Nat) (w : World) (R : Value → World → Prop) : Prop :=
 Calls Tryz.prog 154 #[(.pointer (some ⟨wB, 0, none⟩)), (.int .i64 11), (.int .i64 0)] w (Ret fun v w1 => ∃ (x9A : Option Addr) (x9N x9C : Nat), v = (.slice x9A x9N x9C) ∧
 ∃ x14 : Option Addr, w1.cell? ⟨wB, 0, none⟩ = some (.pointer x14) ∧
 Calls Tryz.prog 151 #[(.pointer x14), (.int .i64 0), (.int .i64 0)] w1 (Ret fun v_1 w2 => ∃ (x15_00 x15_01 : Int) (x15_02A : Option Addr) (x15_02N x15_02C : Nat) (x15_1 : Bool), v_1 = (.tuple #[(.agg #[(.int .i64 x15_00), (.int .i64 x15_01), (.slice x15_02A x15_02N x15_02C)]), (.bool x15_1)]) ∧
 ∀ w3 : World, w3 = w2.alloc (.cells #[(.int .i64 0), (.int .i64 0), (.slice none 0 0)] 213 (0, 0)) →
 (Okc w3 ⟨w2.heap.size, 0, none⟩ ∧ Okc w3 ⟨w2.heap.size, 1, none⟩ ∧ Okc w3 ⟨w2.heap.size, 2, none⟩) ∧ ∀ w4 : World, w4 = (((w3.setCell ⟨w2.heap.size, 0, none⟩ (.int .i64 x15_00)).setCell ⟨w2.heap.size, 1, none⟩ (.int .i64 x15_01)).setCell ⟨w2.heap.size, 2, none⟩ (.slice x15_02A x15_02N x15_02C)) →
 ∃ x19 : Int, w4.cell? ⟨w2.heap.size, 0, none⟩ = some (.int .i64 x19) ∧
 ∃ vI : Option Addr → Nat → Nat → Int → Nat → World → Prop, (∃ vk_2 : Nat, vI none 0 0 0 vk_2 w4) ∧
 ∀ (jk : Nat → Value) (outA : Option Addr) (outN : Nat) (outC : Nat) (x20 : Int), ∀ (vk : Nat) (w5 : World), vI outA outN outC x20 vk w5 →
 (decide (x20 < x19) = true →
 ∃ (x240 x241 : Int) (x242A : Option Addr) (x242N x242C : Nat), (w5.cell? ⟨w2.heap.size, 0, none⟩ = some (.int .i64 x240) ∧ w5.cell? ⟨w2.heap.size, 1, none⟩ = some (.int .i64 x241) ∧ w5.cell? ⟨w2.heap.size, 2, none⟩ = some (.slice x242A x242N x242C)) ∧
 Calls Tryz.prog 152 #[(.agg #[(.int .i64 x240), (.int .i64 x241), (.slice x242A x242N x242C)]), (.int .i64 x20)] w5 (Ret fun v_2 w6 => ∃ (x26A : Option Addr) (x26N x26C : Nat), v_2 = (.slice x26A x26N x26C) ∧
 Calls Tryz.prog 161 #[(.slice x26A x26N x26C), (.slice x9A x9N x9C)] w6 (Ret fun v_3 w7 => ∃ x28 : Int, v_3 = (.int .i64 x28) ∧
 Calls Tryz.prog 160 #[(.int .i64 x28), (.int .i64 5)] w7 (Ret fun v_4 w8 => ∃ x29 : Int, v_4 = (.int .i64 x29) ∧
 ∀ w9 : World, w9 = w8.alloc (.cells #[(.int .i64 x29)] 3 (0, 0)) →
 ∃ (x31A : Option Addr) (x31N x31C : Nat), ∃ w10 : World, (Builtin.append_ #[35, 35] 35 #[(.slice outA outN outC), (.slice (some ⟨w8.heap.size, 0, none⟩) 1 1)]).run Tryz.prog w9 = .ok (.slice x31A x31N x31C) w10 ∧
 ∃ vk_1 : Nat, vk_1 < vk ∧ vI x31A x31N x31C (IntKind.i64.wrap (x20 + 1)) vk_1 w10)))) ∧
 (decide (x20 < x19) = false →
 R (.slice outA outN outC) w5)))
theorem step_walk_scores.calls (wB : Nat) {w : World} {R : Value → World → Prop} (h : step_walk_scores.vc wB w R) : Calls Tryz.prog 118 #[(.pointer (some (⟨wB, 0, none⟩ : Addr)))] w (Ret R) :=
 calls_V fit Tryz.func118 (.lp ([(6, some (.slice)), (7, none), (20, some (.int .i64))] ++ nn 21 12) (.c .nil .nil)) (Eq.mpr (by kernel_rfl) h)
def step_Step.vc (bB : Nat) (pastA : Option Addr) (pastN : Nat) (pastC : Nat) (token : Int) (w : World) (R : Value → World → Prop) : Prop :=
 ∀ w1 : World, w1 = w.alloc (.cells #[(.slice none 0 0), (.slice none 0 0)] 157 (0, 0)) →
 Calls Tryz.prog 112 #[(.pointer (some ⟨bB, 0, none⟩)), (.slice pastA pastN pastC)] w1 (Ret fun v w2 => ∃ x17 : Int, v = (.int .i64 x17) ∧
 ((x17 != (0 : Int)) = true →
 (Okc w2 ⟨w.heap.size, 0, none⟩ ∧ Okc w2 ⟨w.heap.size, 1, none⟩) ∧ ∀ w3 : World, w3 = ((w2.setCell ⟨w.heap.size, 0, none⟩ (.slice none 0 0)).setCell ⟨w.heap.size, 1, none⟩ (.slice none 0 0)) →
 ∃ (r00A : Option Addr) (r00N r00C : Nat) (r01A : Option Addr) (r01N r01C : Nat), (w3.cell? ⟨w.heap.size, 0, none⟩ = some (.slice r00A r00N r00C) ∧ w3.cell? ⟨w.heap.size, 1, none⟩ = some (.slice r01A r01N r01C)) ∧
 R (.tuple #[(.agg #[(.slice r00A r00N r00C), (.slice r01A r01N r01C)]), (.slice none 0 0), (.int .i64 x17)]) w3) ∧
 ((x17 != (0 : Int)) = false →
 Calls Tryz.prog 113 #[(.pointer (some ⟨bB, 0, none⟩)), (.int .i64 token)] w2 (Ret fun v_1 w4 => ∃ x25 : Bool, v_1 = (.bool x25) ∧
 ((!x25) = true →
 (Okc w4 ⟨w.heap.size, 0, none⟩ ∧ Okc w4 ⟨w.heap.size, 1, none⟩) ∧ ∀ w5 : World, w5 = ((w4.setCell ⟨w.heap.size, 0, none⟩ (.slice none 0 0)).setCell ⟨w.heap.size, 1, none⟩ (.slice none 0 0)) →
 ∃ (r00A_1 : Option Addr) (r00N_1 r00C_1 : Nat) (r01A_1 : Option Addr) (r01N_1 r01C_1 : Nat), (w5.cell? ⟨w.heap.size, 0, none⟩ = some (.slice r00A_1 r00N_1 r00C_1) ∧ w5.cell? ⟨w.heap.size, 1, none⟩ = some (.slice r01A_1 r01N_1 r01C_1)) ∧
 R (.tuple #[(.agg #[(.slice r00A_1 r00N_1 r00C_1), (.slice r01A_1 r01N_1 r01C_1)]), (.slice none 0 0), (.int .i64 3)]) w5) ∧
 ((!x25) = false →
 ∃ x36 : Int, w4.cell? ⟨bB, 5, none⟩ = some (.int .i64 x36) ∧
 (decide ((pastN : Int) ≥ x36) = true →
 (Okc w4 ⟨w.heap.size, 0, none⟩ ∧ Okc w4 ⟨w.heap.size, 1, none⟩) ∧ ∀ w6 : World, w6 = ((w4.setCell ⟨w.heap.size, 0, none⟩ (.slice none 0 0)).setCell ⟨w.heap.size, 1, none⟩ (.slice none 0 0)) →
 ∃ (r00A_2 : Option Addr) (r00N_2 r00C_2 : Nat) (r01A_2 : Option Addr) (r01N_2 r01C_2 : Nat), (w6.cell? ⟨w.heap.size, 0, none⟩ = some (.slice r00A_2 r00N_2 r00C_2) ∧ w6.cell? ⟨w.heap.size, 1, none⟩ = some (.slice r01A_2 r01N_2 r01C_2)) ∧
 R (.tuple #[(.agg #[(.slice r00A_2 r00N_2 r00C_2), (.slice r01A_2 r01N_2 r01C_2)]), (.slice none 0 0), (.int .i64 12)]) w6) ∧
 (decide ((pastN : Int) ≥ x36) = false →
 ∀ w7 : World, w7 = w4.alloc (.cells #[(.pointer (some ⟨bB, 0, none⟩)), (.slice pastA pastN pastC), (.slice none 0 0), (.slice none 0 0), (.slice none 0 0)] 189 (0, 0)) →
 Calls Tryz.prog 114 #[(.pointer (some ⟨bB, 0, none⟩)), (.int .i64 1), (.int .i64 0), (.int .i64 (pastN : Int))] w7 (Ret fun v_2 w8 => ∃ (x46A : Option Addr) (x46N x46C : Nat), v_2 = (.slice x46A x46N x46C) ∧
 Calls Tryz.prog 114 #[(.pointer (some ⟨bB, 0, none⟩)), (.int .i64 0), (.int .i64 0), (.int .i64 token)] w8 (Ret fun v_3 w9 => ∃ (x49A : Option Addr) (x49N x49C : Nat), v_3 = (.slice x49A x49N x49C) ∧
 ∃ vI : Int → Nat → World → Prop, (∃ vk_2 : Nat, vI 0 vk_2 w9) ∧
 ∀ (jk : Nat → Value) (x51 : Int), ∀ (vk : Nat) (w10 : World), vI x51 vk w10 →
 (decide (x51 < (x49N : Int)) = true →
 (0 ≤ x51 ∧ x51 < (x49N : Int)) ∧ someV x49A fun p =>
 ∃ x55 : Int, w10.cell? (p.add (x51.toNat * 1)) = some (.int .i64 x55) ∧
 ∃ vS : World → Prop, ∀ w11 : World, w11 = w10.drew → vS w11 ∧
 ∃ (x60A : Option Addr) (x60N x60C : Nat), (∀ w12, vS w12 → w12.cell? ⟨w4.heap.size, 2, none⟩ = some (.slice x60A x60N x60C)) ∧
 (0 ≤ x51 ∧ x51 < (x46N : Int)) ∧ someV x46A fun p_1 =>
 ∃ x65 : Int, (∀ w13, vS w13 → w13.cell? (p_1.add (x51.toNat * 1)) = some (.int .i64 x65)) ∧
 Calls Tryz.prog 115 #[(.int .i64 (IntKind.i64.wrap (16 * (IntKind.i64.wrap (x55 + x65)))))] w11 (Ret fun v_4 w14 => ∃ x68 : Int, v_4 = (.int .i64 x68) ∧
 vS w14 ∧
 ∀ w15 : World, w15 = w14.alloc (.cells #[(.int .i64 x68)] 3 (0, 0)) →
 vS w15 ∧
 ∃ (x70A : Option Addr) (x70N x70C : Nat), ∃ w16 : World, (Builtin.append_ #[35, 35] 35 #[(.slice x60A x60N x60C), (.slice (some ⟨w14.heap.size, 0, none⟩) 1 1)]).run Tryz.prog w15 = .ok (.slice x70A x70N x70C) w16 ∧
 vS w16 ∧
 (Okc w16 ⟨w4.heap.size, 2, none⟩) ∧ ∀ w17 : World, w17 = (w16.setCell ⟨w4.heap.size, 2, none⟩ (.slice x70A x70N x70C)) →
 ∃ vk_1 : Nat, vk_1 < vk ∧ vI (IntKind.i64.wrap (x51 + 1)) vk_1 w17)) ∧
 (decide (x51 < (x49N : Int)) = false →
 ∃ x79 : Int, w10.cell? ⟨bB, 3, none⟩ = some (.int .i64 x79) ∧
 ∃ vI_1 : Int → Nat → World → Prop, (∃ vk_5 : Nat, vI_1 0 vk_5 w10) ∧
 ∀ (jk : Nat → Value) (x80 : Int), ∀ (vk_3 : Nat) (w18 : World), vI_1 x80 vk_3 w18 →
 (decide (x80 < x79) = true →
 Calls Tryz.prog 116 #[(.pointer (some ⟨w4.heap.size, 0, none⟩)), (.int .i64 x80)] w18 (Ret fun v_5 w19 => v_5 = .tuple #[] ∧
 Calls Tryz.prog 117 #[(.pointer (some ⟨w4.heap.size, 0, none⟩)), (.int .i64 x80)] w19 (Ret fun v_6 w20 => v_6 = .tuple #[] ∧
 ∃ vk_4 : Nat, vk_4 < vk_3 ∧ vI_1 (IntKind.i64.wrap (x80 + 1)) vk_4 w20))) ∧
 (decide (x80 < x79) = false →
 ∃ vS_1 : World → Prop, ∀ w21 : World, w21 = w18.drew → vS_1 w21 ∧
 ∃ (x930A : Option Addr) (x930N x930C : Nat) (x931A : Option Addr) (x931N x931C : Nat), ((∀ w22, vS_1 w22 → w22.cell? ⟨w4.heap.size, 3, none⟩ = some (.slice x930A x930N x930C)) ∧ (∀ w22, vS_1 w22 → w22.cell? ⟨w4.heap.size, 4, none⟩ = some (.slice x931A x931N x931C))) ∧
 Calls Tryz.prog 118 #[(.pointer (some ⟨w4.heap.size, 0, none⟩))] w21 (Ret fun v_7 w23 => ∃ (x95A : Option Addr) (x95N x95C : Nat), v_7 = (.slice x95A x95N x95C) ∧
 vS_1 w23 ∧
 (Okc w23 ⟨w.heap.size, 0, none⟩ ∧ Okc w23 ⟨w.heap.size, 1, none⟩) ∧ ∀ w24 : World, w24 = ((w23.setCell ⟨w.heap.size, 0, none⟩ (.slice x930A x930N x930C)).setCell ⟨w.heap.size, 1, none⟩ (.slice x931A x931N x931C)) →
 ∃ (r00A_3 : Option Addr) (r00N_3 r00C_3 : Nat) (r01A_3 : Option Addr) (r01N_3 r01C_3 : Nat), (w24.cell? ⟨w.heap.size, 0, none⟩ = some (.slice r00A_3 r00N_3 r00C_3) ∧ w24.cell? ⟨w.heap.size, 1, none⟩ = some (.slice r01A_3 r01N_3 r01C_3)) ∧
 R (.tuple #[(.agg #[(.slice r00A_3 r00N_3 r00C_3), (.slice r01A_3 r01N_3 r01C_3)]), (.slice x95A x95N x95C), (.int .i64 0)]) w24))))))))))
theorem step_Step.calls (bB : Nat) (pastA : Option Addr) (pastN : Nat) (pastC : Nat) (token : Int) {w : World} {R : Value → World → Prop} (h : step_Step.vc bB pastA pastN pastC token w R) : Calls Tryz.prog 79 #[(.pointer (some (⟨bB, 0, none⟩ : Addr))), (.slice pastA pastN pastC), (.int .i64 token)] w (Ret R) :=
 calls_V fit Tryz.func79 (.c .nil (.c .nil (.c .nil (.lp ([(12, none), (13, none), (51, some (.int .i64))] ++ nn 52 22) (.c (.tk 0 (.tk 1 (.tk 2 (.tk 3 (.tk 4 (.tk 5 (.tk 6 (.tk 7 (.tk 8 (.tk 9 (.tk 10 (.tk 11 (.alt 12 (.alt 13 (.alt 14 (.tk 15 (.tk 16 (.last 17 (.fin .nil)))) .nil) .nil) .nil))))))))))))) (.lp ([(14, none), (80, some (.int .i64))] ++ nn 81 9) (.c .nil (.tk 0 (.tk 1 (.tk 2 (.tk 3 (.tk 4 (.alt 5 (.last 6 (.tk 7 (.tk 8 (.fin .nil)))) .nil))))))))))))) (Eq.mpr (by kernel_rfl) h)
def slices_Clone.vc_en (sA : Option Addr) (sN : Nat) (sC : Nat) (w : World) (R : Value → World → Prop) : Prop :=
 (sA.isNone = true →
 R (.slice none 0 0) w) ∧
 (sA.isNone = false →
 ∀ w1 : World, w1 = w.alloc (.cells #[] 157 (0, 0)) →
 ∃ (x7A : Option Addr) (x7N x7C : Nat), ∃ w2 : World, (Builtin.append_ #[160, 160] 160 #[(.slice (some ⟨w.heap.size, 0, none⟩) 0 0), (.slice sA sN sC)]).run Tryz.prog w1 = .ok (.slice x7A x7N x7C) w2 ∧
 R (.slice x7A x7N x7C) w2)
theorem slices_Clone.calls_en (sA : Option Addr) (sN : Nat) (sC : Nat) {w : World} {R : Value → World → Prop} (h : slices_Clone.vc_en sA sN sC w R) : Calls Tryz.prog 123 #[(.slice sA sN sC)] w (Ret R) :=
 calls_V fit Tryz.func123 (.c .nil .nil) (Eq.mpr (by kernel_rfl) h)
end Go.Proofs.YtkbikekbaboclaaGreat.Vc
