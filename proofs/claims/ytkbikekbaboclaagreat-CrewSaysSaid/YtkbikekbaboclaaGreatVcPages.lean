import Derived.Test.YtkbikekbaboclaaGreatVc
import Derived.Test.YtkbikekbaboclaaGreatH
import Derived.Test.YtkbikekbaboclaaGreatProg
import Derived.KernelRfl
set_option linter.unusedVariables false
set_option maxRecDepth 100000
namespace Go.Proofs.YtkbikekbaboclaaGreat.Vc
open Go Go.Proofs V
def pages_New.vc (n : Int) (w : World) (R : Value → World → Prop) : Prop :=
 (decide (n < (1 : Int)) = true →
 R (.pointer none) w) ∧
 (decide (n < (1 : Int)) = false →
 (decide (n > (64 : Int)) = true →
 R (.pointer none) w) ∧
 (decide (n > (64 : Int)) = false →
 (n = n ∧ 0 ≤ n ∧ n * (40 : Int) ≤ 140737488355328) ∧ ∀ w1 : World, w1 = w.alloc (.cells (zeroRow [(.int .i64 0), (.int .i64 0), (.slice none 0 0)] n.toNat).toArray 181 (0, 0)) →
 ∀ w2 : World, w2 = w1.alloc (.cells #[(.slice (some ⟨w.heap.size, 0, none⟩) n.toNat n.toNat)] 142 (0, 0)) →
 R (.pointer (some ⟨w1.heap.size, 0, none⟩)) w2))
theorem pages_New.calls (n : Int) {w : World} {R : Value → World → Prop} (h : pages_New.vc n w R) : Calls Tryz.prog 36 #[(.int .i64 n)] w (Ret R) :=
 calls_V fit Tryz.func36 (.at_ 1 2 (.k .nil) (.c .nil .nil)) (Eq.mpr (by kernel_rfl) h)
def pages_Pool_is.vc (pB : Nat) (id : Int) (w : World) (R : Value → World → Prop) : Prop :=
 (decide (id ≥ (0 : Int)) = true →
 ∃ (x16A : Option Addr) (x16N x16C : Nat), w.cell? ⟨pB, 0, none⟩ = some (.slice x16A x16N x16C) ∧
 (decide (id < (x16N : Int)) = true →
 ∃ (x24A : Option Addr) (x24N x24C : Nat), w.cell? ⟨pB, 0, none⟩ = some (.slice x24A x24N x24C) ∧
 (0 ≤ id ∧ id < (x24N : Int)) ∧ someV x24A fun p =>
 ∃ x28 : Int, w.cell? ((p.add (id.toNat * 3)).add 1) = some (.int .i64 x28) ∧
 R (.bool (decide (x28 > (0 : Int)))) w) ∧
 (decide (id < (x16N : Int)) = false →
 R (.bool false) w)) ∧
 (decide (id ≥ (0 : Int)) = false →
 R (.bool false) w)
theorem pages_Pool_is.calls (pB : Nat) (id : Int) {w : World} {R : Value → World → Prop} (h : pages_Pool_is.vc pB id w R) : Calls Tryz.prog 85 #[(.pointer (some (⟨pB, 0, none⟩ : Addr))), (.int .i64 id)] w (Ret R) :=
 calls_V fit Tryz.func85 (.at_ 1 6 (.at_ 1 15 .nil .nil) .nil) (Eq.mpr (by kernel_rfl) h)
def pages_Pool_Take_c1.vc (x0 : Int) (x1 : Int) (x2A : Option Addr) (x2N : Nat) (x2C : Nat) (w : World) (R : Value → World → Prop) : Prop :=
 ∀ w1 : World, w1 = w.alloc (.cells #[(.int .i64 x0), (.int .i64 x1), (.slice x2A x2N x2C)] 181 (0, 0)) →
 ∃ x4 : Int, w1.cell? ⟨w.heap.size, 1, none⟩ = some (.int .i64 x4) ∧
 R (.bool (x4 == (0 : Int))) w1
theorem pages_Pool_Take_c1.calls (x0 : Int) (x1 : Int) (x2A : Option Addr) (x2N : Nat) (x2C : Nat) {w : World} {R : Value → World → Prop} (h : pages_Pool_Take_c1.vc x0 x1 x2A x2N x2C w R) : Calls Tryz.prog 108 #[(.agg #[(.int .i64 x0), (.int .i64 x1), (.slice x2A x2N x2C)])] w (Ret R) :=
 calls_V fit Tryz.func108 .nil (Eq.mpr (by kernel_rfl) h)
def slices_IndexFunc.vc_tk (sA : Option Addr) (sN : Nat) (sC : Nat) (w : World) (R : Value → World → Prop) : Prop :=
 ∃ vI : Int → Nat → World → Prop, (∃ vk_2 : Nat, vI 0 vk_2 w) ∧
 ∀ (jk : Nat → Value) (x8 : Int), ∀ (vk : Nat) (w1 : World), vI x8 vk w1 →
 (decide (x8 < (sN : Int)) = true →
 (0 ≤ x8 ∧ x8 < (sN : Int)) ∧ someV sA fun p =>
 ∃ (x150 x151 : Int) (x152A : Option Addr) (x152N x152C : Nat), (w1.cell? (p.add (x8.toNat * 3)) = some (.int .i64 x150) ∧ w1.cell? ((p.add (x8.toNat * 3)).add 1) = some (.int .i64 x151) ∧ w1.cell? ((p.add (x8.toNat * 3)).add 2) = some (.slice x152A x152N x152C)) ∧
 Calls Tryz.prog 108 #[(.agg #[(.int .i64 x150), (.int .i64 x151), (.slice x152A x152N x152C)])] w1 (Ret fun v w2 => ∃ x16 : Bool, v = (.bool x16) ∧
 (x16 = true →
 R (.int .i64 x8) w2) ∧
 (x16 = false →
 ∃ vk_1 : Nat, vk_1 < vk ∧ vI (IntKind.i64.wrap (x8 + 1)) vk_1 w2))) ∧
 (decide (x8 < (sN : Int)) = false →
 R (.int .i64 (-1)) w1)
theorem slices_IndexFunc.calls_tk (sA : Option Addr) (sN : Nat) (sC : Nat) {w : World} {R : Value → World → Prop} (h : slices_IndexFunc.vc_tk sA sN sC w R) : Calls Tryz.prog 107 #[(.slice sA sN sC), (.func (.func 108) #[] #[])] w (Ret R) :=
 calls_V fit Tryz.func107 (.lp ([(4, none), (5, none), (8, some (.int .i64))] ++ nn 9 10) (.c (.c .nil .nil) .nil)) (Eq.mpr (by kernel_rfl) h)
def pages_Pool_Take.vc (pB : Nat) (version : Int) (w : World) (R : Value → World → Prop) : Prop :=
 (decide (version < (1 : Int)) = true →
 R (.tuple #[(.int .i64 0), (.int .i64 1)]) w) ∧
 (decide (version < (1 : Int)) = false →
 (decide (version > (2147483647 : Int)) = true →
 R (.tuple #[(.int .i64 0), (.int .i64 1)]) w) ∧
 (decide (version > (2147483647 : Int)) = false →
 ∃ (x20A : Option Addr) (x20N x20C : Nat), w.cell? ⟨pB, 0, none⟩ = some (.slice x20A x20N x20C) ∧
 Calls Tryz.prog 107 #[(.slice x20A x20N x20C), (.func (.func 108) #[] #[])] w (Ret fun v w1 => ∃ x21 : Int, v = (.int .i64 x21) ∧
 (decide (x21 < (0 : Int)) = true →
 R (.tuple #[(.int .i64 0), (.int .i64 11)]) w1) ∧
 (decide (x21 < (0 : Int)) = false →
 ∃ (x27A : Option Addr) (x27N x27C : Nat), w1.cell? ⟨pB, 0, none⟩ = some (.slice x27A x27N x27C) ∧
 (0 ≤ x21 ∧ x21 < (x27N : Int)) ∧ someV x27A fun p =>
 (Okc w1 (p.add (x21.toNat * 3)) ∧ Okc w1 ((p.add (x21.toNat * 3)).add 1) ∧ Okc w1 ((p.add (x21.toNat * 3)).add 2)) ∧ ∀ w2 : World, w2 = (((w1.setCell (p.add (x21.toNat * 3)) (.int .i64 version)).setCell ((p.add (x21.toNat * 3)).add 1) (.int .i64 1)).setCell ((p.add (x21.toNat * 3)).add 2) (.slice none 0 0)) →
 R (.tuple #[(.int .i64 x21), (.int .i64 0)]) w2))))
theorem pages_Pool_Take.calls (pB : Nat) (version : Int) {w : World} {R : Value → World → Prop} (h : pages_Pool_Take.vc pB version w R) : Calls Tryz.prog 76 #[(.pointer (some (⟨pB, 0, none⟩ : Addr))), (.int .i64 version)] w (Ret R) :=
 calls_V fit Tryz.func76 (.k (.at_ 3 2 (.k .nil) (.c .nil (.c .nil .nil)))) (Eq.mpr (by kernel_rfl) h)
def pages_Pool_check_c1.vc (id : Int) (c0B : Nat) (w : World) (R : Value → World → Prop) : Prop :=
 ∃ x4 : Option Addr, w.cell? ⟨c0B, 0, none⟩ = some (.pointer x4) ∧
 Calls Tryz.prog 85 #[(.pointer x4), (.int .i64 id)] w (Ret fun v w1 => ∃ x6 : Bool, v = (.bool x6) ∧
 R (.bool (!x6)) w1)
theorem pages_Pool_check_c1.calls (id : Int) (c0B : Nat) {w : World} {R : Value → World → Prop} (h : pages_Pool_check_c1.vc id c0B w R) : Calls Tryz.prog 146 #[(.int .i64 id), (.pointer (some (⟨c0B, 0, none⟩ : Addr)))] w (Ret R) :=
 calls_V fit Tryz.func146 .nil (Eq.mpr (by kernel_rfl) h)
def slices_ContainsFunc.vc_pk (sA : Option Addr) (sN : Nat) (sC : Nat) (c0B : Nat) (w : World) (R : Value → World → Prop) : Prop :=
 Calls Tryz.prog 91 #[(.slice sA sN sC), (.func (.func 146) #[] #[(.pointer (some ⟨c0B, 0, none⟩))])] w (Ret fun v w1 => ∃ x7 : Int, v = (.int .i64 x7) ∧
 R (.bool (decide (x7 ≥ (0 : Int)))) w1)
theorem slices_ContainsFunc.calls_pk (sA : Option Addr) (sN : Nat) (sC : Nat) (c0B : Nat) {w : World} {R : Value → World → Prop} (h : slices_ContainsFunc.vc_pk sA sN sC c0B w R) : Calls Tryz.prog 52 #[(.slice sA sN sC), (.func (.func 146) #[] #[(.pointer (some (⟨c0B, 0, none⟩ : Addr)))])] w (Ret R) :=
 calls_V fit Tryz.func52 .nil (Eq.mpr (by kernel_rfl) h)
def slices_IndexFunc.vc_pk (sA : Option Addr) (sN : Nat) (sC : Nat) (c0B : Nat) (w : World) (R : Value → World → Prop) : Prop :=
 ∃ vI : Int → Nat → World → Prop, (∃ vk_2 : Nat, vI 0 vk_2 w) ∧
 ∀ (jk : Nat → Value) (x8 : Int), ∀ (vk : Nat) (w1 : World), vI x8 vk w1 →
 (decide (x8 < (sN : Int)) = true →
 (0 ≤ x8 ∧ x8 < (sN : Int)) ∧ someV sA fun p =>
 ∃ x15 : Int, w1.cell? (p.add (x8.toNat * 1)) = some (.int .i64 x15) ∧
 Calls Tryz.prog 146 #[(.int .i64 x15), (.pointer (some ⟨c0B, 0, none⟩))] w1 (Ret fun v w2 => ∃ x16 : Bool, v = (.bool x16) ∧
 (x16 = true →
 R (.int .i64 x8) w2) ∧
 (x16 = false →
 ∃ vk_1 : Nat, vk_1 < vk ∧ vI (IntKind.i64.wrap (x8 + 1)) vk_1 w2))) ∧
 (decide (x8 < (sN : Int)) = false →
 R (.int .i64 (-1)) w1)
theorem slices_IndexFunc.calls_pk (sA : Option Addr) (sN : Nat) (sC : Nat) (c0B : Nat) {w : World} {R : Value → World → Prop} (h : slices_IndexFunc.vc_pk sA sN sC c0B w R) : Calls Tryz.prog 91 #[(.slice sA sN sC), (.func (.func 146) #[] #[(.pointer (some (⟨c0B, 0, none⟩ : Addr)))])] w (Ret R) :=
 calls_V fit Tryz.func91 (.lp ([(4, none), (5, none), (8, some (.int .i64))] ++ nn 9 10) (.c (.c .nil .nil) .nil)) (Eq.mpr (by kernel_rfl) h)
def pages_Pool_check.vc (pB : Nat) (listA : Option Addr) (listN : Nat) (listC : Nat) (w : World) (R : Value → World → Prop) : Prop :=
 ∀ w1 : World, w1 = w.alloc (.cells #[(.pointer (some ⟨pB, 0, none⟩))] 89 (0, 0)) →
 ∃ x6 : Option Addr, w1.cell? ⟨w.heap.size, 0, none⟩ = some (.pointer x6) ∧
 (x6.isNone = true →
 R (.int .i64 2) w1) ∧
 (x6.isNone = false →
 Calls Tryz.prog 52 #[(.slice listA listN listC), (.func (.func 146) #[] #[(.pointer (some ⟨w.heap.size, 0, none⟩))])] w1 (Ret fun v w2 => ∃ x11 : Bool, v = (.bool x11) ∧
 (x11 = true →
 R (.int .i64 8) w2) ∧
 (x11 = false →
 R (.int .i64 0) w2)))
theorem pages_Pool_check.calls (pB : Nat) (listA : Option Addr) (listN : Nat) (listC : Nat) {w : World} {R : Value → World → Prop} (h : pages_Pool_check.vc pB listA listN listC w R) : Calls Tryz.prog 106 #[(.pointer (some (⟨pB, 0, none⟩ : Addr))), (.slice listA listN listC)] w (Ret R) :=
 calls_V fit Tryz.func106 (.c .nil (.c .nil .nil)) (Eq.mpr (by kernel_rfl) h)
def pages_Pool_Share.vc (pB : Nat) (listA : Option Addr) (listN : Nat) (listC : Nat) (w : World) (R : Value → World → Prop) : Prop :=
 Calls Tryz.prog 106 #[(.pointer (some ⟨pB, 0, none⟩)), (.slice listA listN listC)] w (Ret fun v w1 => ∃ x10 : Int, v = (.int .i64 x10) ∧
 ((x10 != (0 : Int)) = true →
 R (.int .i64 x10) w1) ∧
 ((x10 != (0 : Int)) = false →
 ∃ vI : Int → Nat → World → Prop, (∃ vk_2 : Nat, vI 0 vk_2 w1) ∧
 ∀ (jk : Nat → Value) (x16 : Int), ∀ (vk : Nat) (w2 : World), vI x16 vk w2 →
 (decide (x16 < (listN : Int)) = true →
 (0 ≤ x16 ∧ x16 < (listN : Int)) ∧ someV listA fun p =>
 ∃ x19 : Int, w2.cell? (p.add (x16.toNat * 1)) = some (.int .i64 x19) ∧
 ∃ (x23A : Option Addr) (x23N x23C : Nat), w2.cell? ⟨pB, 0, none⟩ = some (.slice x23A x23N x23C) ∧
 (0 ≤ x19 ∧ x19 < (x23N : Int)) ∧ someV x23A fun p_1 =>
 ∃ x27 : Int, w2.cell? ((p_1.add (x19.toNat * 3)).add 1) = some (.int .i64 x27) ∧
 (0 ≤ x19 ∧ x19 < (x23N : Int)) ∧ someV x23A fun p_2 =>
 (Okc w2 ((p_2.add (x19.toNat * 3)).add 1)) ∧ ∀ w3 : World, w3 = (w2.setCell ((p_2.add (x19.toNat * 3)).add 1) (.int .i64 (IntKind.i64.wrap (x27 + 1)))) →
 ∃ vk_1 : Nat, vk_1 < vk ∧ vI (IntKind.i64.wrap (x16 + 1)) vk_1 w3) ∧
 (decide (x16 < (listN : Int)) = false →
 R (.int .i64 0) w2)))
theorem pages_Pool_Share.calls (pB : Nat) (listA : Option Addr) (listN : Nat) (listC : Nat) {w : World} {R : Value → World → Prop} (h : pages_Pool_Share.vc pB listA listN listC w R) : Calls Tryz.prog 75 #[(.pointer (some (⟨pB, 0, none⟩ : Addr))), (.slice listA listN listC)] w (Ret R) :=
 calls_V fit Tryz.func75 (.c .nil (.lp ([(7, none), (16, some (.int .i64))] ++ nn 17 15) (.c .nil .nil))) (Eq.mpr (by kernel_rfl) h)
def pages_Pool_Drop.vc (pB : Nat) (listA : Option Addr) (listN : Nat) (listC : Nat) (w : World) (R : Value → World → Prop) : Prop :=
 Calls Tryz.prog 106 #[(.pointer (some ⟨pB, 0, none⟩)), (.slice listA listN listC)] w (Ret fun v w1 => ∃ x13 : Int, v = (.int .i64 x13) ∧
 ((x13 != (0 : Int)) = true →
 R (.int .i64 x13) w1) ∧
 ((x13 != (0 : Int)) = false →
 ∀ w2 : World, w2 = w1.alloc (.map #[] 0) →
 ∃ vI : Int → Nat → World → Prop, (∃ vk_2 : Nat, vI 0 vk_2 w2) ∧
 ∀ (jk : Nat → Value) (x20 : Int), ∀ (vk : Nat) (w3 : World), vI x20 vk w3 →
 (decide (x20 < (listN : Int)) = true →
 (0 ≤ x20 ∧ x20 < (listN : Int)) ∧ someV listA fun p =>
 ∃ x23 : Int, w3.cell? (p.add (x20.toNat * 1)) = some (.int .i64 x23) ∧
 ∃ x26 : Int, ∃ w4 : World, (Instr.lookup 193 (.map (some w1.heap.size)) (.int .i64 x23) false).run Tryz.prog w3 = .ok (.int .i64 x26) w4 ∧
 ∃ w5 : World, (Instr.mapUpdate 193 (.map (some w1.heap.size)) (.int .i64 x23) (.int .i64 (IntKind.i64.wrap (x26 + 1)))).run Tryz.prog w4 = .ok () w5 ∧
 ∃ vS : World → Prop, ∀ w6 : World, w6 = w5.drew → vS w6 ∧
 ∃ (x34A : Option Addr) (x34N x34C : Nat), (∀ w7, vS w7 → w7.cell? ⟨pB, 0, none⟩ = some (.slice x34A x34N x34C)) ∧
 (0 ≤ x23 ∧ x23 < (x34N : Int)) ∧ someV x34A fun p_1 =>
 ∃ x38 : Int, (∀ w8, vS w8 → w8.cell? ((p_1.add (x23.toNat * 3)).add 1) = some (.int .i64 x38)) ∧
 ∃ x30 : Int, ∃ w9 : World, (Instr.lookup 193 (.map (some w1.heap.size)) (.int .i64 x23) false).run Tryz.prog w6 = .ok (.int .i64 x30) w9 ∧
 vS w9 ∧
 (decide (x30 > x38) = true →
 R (.int .i64 8) w9) ∧
 (decide (x30 > x38) = false →
 ∃ vk_1 : Nat, vk_1 < vk ∧ vI (IntKind.i64.wrap (x20 + 1)) vk_1 w9)) ∧
 (decide (x20 < (listN : Int)) = false →
 ∃ vI_1 : Int → Nat → World → Prop, (∃ vk_5 : Nat, vI_1 0 vk_5 w3) ∧
 ∀ (jk : Nat → Value) (x43 : Int), ∀ (vk_3 : Nat) (w10 : World), vI_1 x43 vk_3 w10 →
 (decide (x43 < (listN : Int)) = true →
 (0 ≤ x43 ∧ x43 < (listN : Int)) ∧ someV listA fun p_2 =>
 ∃ x46 : Int, w10.cell? (p_2.add (x43.toNat * 1)) = some (.int .i64 x46) ∧
 ∃ (x50A : Option Addr) (x50N x50C : Nat), w10.cell? ⟨pB, 0, none⟩ = some (.slice x50A x50N x50C) ∧
 (0 ≤ x46 ∧ x46 < (x50N : Int)) ∧ someV x50A fun p_3 =>
 ∃ x54 : Int, w10.cell? ((p_3.add (x46.toNat * 3)).add 1) = some (.int .i64 x54) ∧
 (0 ≤ x46 ∧ x46 < (x50N : Int)) ∧ someV x50A fun p_4 =>
 (Okc w10 ((p_4.add (x46.toNat * 3)).add 1)) ∧ ∀ w11 : World, w11 = (w10.setCell ((p_4.add (x46.toNat * 3)).add 1) (.int .i64 (IntKind.i64.wrap (x54 - 1)))) →
 ∃ (x61A : Option Addr) (x61N x61C : Nat), w11.cell? ⟨pB, 0, none⟩ = some (.slice x61A x61N x61C) ∧
 (0 ≤ x46 ∧ x46 < (x61N : Int)) ∧ someV x61A fun p_5 =>
 ∃ x65 : Int, w11.cell? ((p_5.add (x46.toNat * 3)).add 1) = some (.int .i64 x65) ∧
 ((x65 == (0 : Int)) = true →
 ∃ (x70A : Option Addr) (x70N x70C : Nat), w11.cell? ⟨pB, 0, none⟩ = some (.slice x70A x70N x70C) ∧
 (0 ≤ x46 ∧ x46 < (x70N : Int)) ∧ someV x70A fun p_6 =>
 (Okc w11 (p_6.add (x46.toNat * 3)) ∧ Okc w11 ((p_6.add (x46.toNat * 3)).add 1) ∧ Okc w11 ((p_6.add (x46.toNat * 3)).add 2)) ∧ ∀ w12 : World, w12 = (((w11.setCell (p_6.add (x46.toNat * 3)) (.int .i64 0)).setCell ((p_6.add (x46.toNat * 3)).add 1) (.int .i64 0)).setCell ((p_6.add (x46.toNat * 3)).add 2) (.slice none 0 0)) →
 ∃ vk_4 : Nat, vk_4 < vk_3 ∧ vI_1 (IntKind.i64.wrap (x43 + 1)) vk_4 w12) ∧
 ((x65 == (0 : Int)) = false →
 ∃ vk_4 : Nat, vk_4 < vk_3 ∧ vI_1 (IntKind.i64.wrap (x43 + 1)) vk_4 w11)) ∧
 (decide (x43 < (listN : Int)) = false →
 R (.int .i64 0) w10))))
theorem pages_Pool_Drop.calls (pB : Nat) (listA : Option Addr) (listN : Nat) (listC : Nat) {w : World} {R : Value → World → Prop} (h : pages_Pool_Drop.vc pB listA listN listC w R) : Calls Tryz.prog 83 #[(.pointer (some (⟨pB, 0, none⟩ : Addr))), (.slice listA listN listC)] w (Ret R) :=
 calls_V fit Tryz.func83 (.c .nil (.lp ([(4, none), (8, none), (20, some (.int .i64))] ++ nn 21 20) (.c (.tk 0 (.tk 1 (.tk 3 (.tk 4 (.tk 5 (.tk 6 (.tk 7 (.tk 8 (.tk 9 (.tk 10 (.alt 2 (.tk 11 (.fin (.c .nil .nil))) .nil))))))))))) (.lp ([(10, none), (43, some (.int .i64))] ++ nn 44 31) (.c (.c .nil .nil) .nil))))) (Eq.mpr (by kernel_rfl) h)
def pages_Pool_Put.vc (pB : Nat) (id : Int) (e0A : Option Addr) (e0N : Nat) (e0C : Nat) (e1A : Option Addr) (e1N : Nat) (e1C : Nat) (w : World) (R : Value → World → Prop) : Prop :=
 ∀ w1 : World, w1 = w.alloc (.cells #[(.slice e0A e0N e0C), (.slice e1A e1N e1C)] 157 (0, 0)) →
 Calls Tryz.prog 85 #[(.pointer (some ⟨pB, 0, none⟩)), (.int .i64 id)] w1 (Ret fun v w2 => ∃ x13 : Bool, v = (.bool x13) ∧
 ((!x13) = true →
 R (.int .i64 8) w2) ∧
 ((!x13) = false →
 ∃ (x19A : Option Addr) (x19N x19C : Nat), w2.cell? ⟨pB, 0, none⟩ = some (.slice x19A x19N x19C) ∧
 (0 ≤ id ∧ id < (x19N : Int)) ∧ someV x19A fun p =>
 ∃ x23 : Int, w2.cell? ((p.add (id.toNat * 3)).add 1) = some (.int .i64 x23) ∧
 (decide (x23 > (1 : Int)) = true →
 R (.int .i64 7) w2) ∧
 (decide (x23 > (1 : Int)) = false →
 ∃ (x29A : Option Addr) (x29N x29C : Nat), w2.cell? ⟨pB, 0, none⟩ = some (.slice x29A x29N x29C) ∧
 (0 ≤ id ∧ id < (x29N : Int)) ∧ someV x29A fun p_1 =>
 ∃ (x33A : Option Addr) (x33N x33C : Nat), w2.cell? ((p_1.add (id.toNat * 3)).add 2) = some (.slice x33A x33N x33C) ∧
 (decide ((x33N : Int) ≥ (4 : Int)) = true →
 R (.int .i64 10) w2) ∧
 (decide ((x33N : Int) ≥ (4 : Int)) = false →
 ∃ vS : World → Prop, ∀ w3 : World, w3 = w2.drew → vS w3 ∧
 ∃ (x39A : Option Addr) (x39N x39C : Nat), (∀ w4, vS w4 → w4.cell? ⟨pB, 0, none⟩ = some (.slice x39A x39N x39C)) ∧
 ∃ (x44A : Option Addr) (x44N x44C : Nat), (∀ w5, vS w5 → w5.cell? ⟨pB, 0, none⟩ = some (.slice x44A x44N x44C)) ∧
 (0 ≤ id ∧ id < (x44N : Int)) ∧ someV x44A fun p_2 =>
 ∃ (x490A : Option Addr) (x490N x490C : Nat) (x491A : Option Addr) (x491N x491C : Nat), ((∀ w6, vS w6 → w6.cell? ⟨w.heap.size, 0, none⟩ = some (.slice x490A x490N x490C)) ∧ (∀ w6, vS w6 → w6.cell? ⟨w.heap.size, 1, none⟩ = some (.slice x491A x491N x491C))) ∧
 (∃ (x48A : Option Addr) (x48N x48C : Nat), w3.cell? ((p_2.add (id.toNat * 3)).add 2) = some (.slice x48A x48N x48C) ∧
 vS w3 ∧
 Calls Tryz.prog 119 #[(.agg #[(.slice x490A x490N x490C), (.slice x491A x491N x491C)])] w3 (Ret fun v_1 w7 => ∃ (x500A : Option Addr) (x500N x500C : Nat) (x501A : Option Addr) (x501N x501C : Nat), v_1 = (.agg #[(.slice x500A x500N x500C), (.slice x501A x501N x501C)]) ∧
 vS w7 ∧
 ∀ w8 : World, w8 = w7.alloc (.cells #[(.slice x500A x500N x500C), (.slice x501A x501N x501C)] 157 (0, 0)) →
 vS w8 ∧
 ∃ (x52A : Option Addr) (x52N x52C : Nat), ∃ w9 : World, (Builtin.append_ #[160, 160] 160 #[(.slice x48A x48N x48C), (.slice (some ⟨w7.heap.size, 0, none⟩) 1 1)]).run Tryz.prog w8 = .ok (.slice x52A x52N x52C) w9 ∧
 vS w9 ∧
 (0 ≤ id ∧ id < (x39N : Int)) ∧ someV x39A fun p_3 =>
 (Okc w9 ((p_3.add (id.toNat * 3)).add 2)) ∧ ∀ w10 : World, w10 = (w9.setCell ((p_3.add (id.toNat * 3)).add 2) (.slice x52A x52N x52C)) →
 vS w10 ∧
 R (.int .i64 0) w10)) ∧ (Calls Tryz.prog 119 #[(.agg #[(.slice x490A x490N x490C), (.slice x491A x491N x491C)])] w3 (Ret fun v_2 w11 => ∃ (x500A_1 : Option Addr) (x500N_1 x500C_1 : Nat) (x501A_1 : Option Addr) (x501N_1 x501C_1 : Nat), v_2 = (.agg #[(.slice x500A_1 x500N_1 x500C_1), (.slice x501A_1 x501N_1 x501C_1)]) ∧
 vS w11 ∧
 (∃ (x48A_1 : Option Addr) (x48N_1 x48C_1 : Nat), w11.cell? ((p_2.add (id.toNat * 3)).add 2) = some (.slice x48A_1 x48N_1 x48C_1) ∧
 vS w11 ∧
 ∀ w12 : World, w12 = w11.alloc (.cells #[(.slice x500A_1 x500N_1 x500C_1), (.slice x501A_1 x501N_1 x501C_1)] 157 (0, 0)) →
 vS w12 ∧
 ∃ (x52A_1 : Option Addr) (x52N_1 x52C_1 : Nat), ∃ w13 : World, (Builtin.append_ #[160, 160] 160 #[(.slice x48A_1 x48N_1 x48C_1), (.slice (some ⟨w11.heap.size, 0, none⟩) 1 1)]).run Tryz.prog w12 = .ok (.slice x52A_1 x52N_1 x52C_1) w13 ∧
 vS w13 ∧
 (0 ≤ id ∧ id < (x39N : Int)) ∧ someV x39A fun p_4 =>
 (Okc w13 ((p_4.add (id.toNat * 3)).add 2)) ∧ ∀ w14 : World, w14 = (w13.setCell ((p_4.add (id.toNat * 3)).add 2) (.slice x52A_1 x52N_1 x52C_1)) →
 vS w14 ∧
 R (.int .i64 0) w14) ∧ (∀ w15 : World, w15 = w11.alloc (.cells #[(.slice x500A_1 x500N_1 x500C_1), (.slice x501A_1 x501N_1 x501C_1)] 157 (0, 0)) →
 vS w15 ∧
 ∃ (x48A_2 : Option Addr) (x48N_2 x48C_2 : Nat), w15.cell? ((p_2.add (id.toNat * 3)).add 2) = some (.slice x48A_2 x48N_2 x48C_2) ∧
 vS w15 ∧
 ∃ (x52A_2 : Option Addr) (x52N_2 x52C_2 : Nat), ∃ w16 : World, (Builtin.append_ #[160, 160] 160 #[(.slice x48A_2 x48N_2 x48C_2), (.slice (some ⟨w11.heap.size, 0, none⟩) 1 1)]).run Tryz.prog w15 = .ok (.slice x52A_2 x52N_2 x52C_2) w16 ∧
 vS w16 ∧
 (0 ≤ id ∧ id < (x39N : Int)) ∧ someV x39A fun p_5 =>
 (Okc w16 ((p_5.add (id.toNat * 3)).add 2)) ∧ ∀ w17 : World, w17 = (w16.setCell ((p_5.add (id.toNat * 3)).add 2) (.slice x52A_2 x52N_2 x52C_2)) →
 vS w17 ∧
 R (.int .i64 0) w17) ∧ True)) ∧ True))))
theorem pages_Pool_Put.calls (pB : Nat) (id : Int) (e0A : Option Addr) (e0N : Nat) (e0C : Nat) (e1A : Option Addr) (e1N : Nat) (e1C : Nat) {w : World} {R : Value → World → Prop} (h : pages_Pool_Put.vc pB id e0A e0N e0C e1A e1N e1C w R) : Calls Tryz.prog 81 #[(.pointer (some (⟨pB, 0, none⟩ : Addr))), (.int .i64 id), (.agg #[(.slice e0A e0N e0C), (.slice e1A e1N e1C)])] w (Ret R) :=
 calls_V fit Tryz.func81 (.k (.c .nil (.c .nil (.c .nil (.tk 0 (.tk 1 (.tk 2 (.tk 3 (.tk 4 (.tk 5 (.tk 6 (.tk 7 (.tk 8 (.tk 9 (.tk 10 (.tk 11 (.tk 13 (.alt 12 (.alt 14 (.alt 15 (.alt 16 (.tk 17 (.tk 18 (.alt 19 (.fin .nil) .nil))) .nil) .nil) .nil) (.alt 14 (.alt 12 (.alt 15 (.alt 16 (.tk 17 (.tk 18 (.alt 19 (.fin .nil) .nil))) .nil) .nil) (.alt 15 (.alt 12 (.alt 16 (.tk 17 (.tk 18 (.alt 19 (.fin .nil) .nil))) .nil) .nil) .nil)) .nil))))))))))))))))))) (Eq.mpr (by kernel_rfl) h)
def pages_Pool_Get.vc (pB : Nat) (listA : Option Addr) (listN : Nat) (listC : Nat) (w : World) (R : Value → World → Prop) : Prop :=
 ∃ vI : Option Addr → Nat → Nat → Int → Nat → World → Prop, (∃ vk_2 : Nat, vI none 0 0 0 vk_2 w) ∧
 ∀ (jk : Nat → Value) (outA : Option Addr) (outN : Nat) (outC : Nat) (x11 : Int), ∀ (vk : Nat) (w1 : World), vI outA outN outC x11 vk w1 →
 (decide (x11 < (listN : Int)) = true →
 (0 ≤ x11 ∧ x11 < (listN : Int)) ∧ someV listA fun p =>
 ∃ x14 : Int, w1.cell? (p.add (x11.toNat * 1)) = some (.int .i64 x14) ∧
 Calls Tryz.prog 85 #[(.pointer (some ⟨pB, 0, none⟩)), (.int .i64 x14)] w1 (Ret fun v w2 => ∃ x17 : Bool, v = (.bool x17) ∧
 ((!x17) = true →
 ∃ vk_1 : Nat, vk_1 < vk ∧ vI outA outN outC (IntKind.i64.wrap (x11 + 1)) vk_1 w2) ∧
 ((!x17) = false →
 ∃ (x22A : Option Addr) (x22N x22C : Nat), w2.cell? ⟨pB, 0, none⟩ = some (.slice x22A x22N x22C) ∧
 (0 ≤ x14 ∧ x14 < (x22N : Int)) ∧ someV x22A fun p_1 =>
 ∃ (x26A : Option Addr) (x26N x26C : Nat), w2.cell? ((p_1.add (x14.toNat * 3)).add 2) = some (.slice x26A x26N x26C) ∧
 ∃ vI_1 : Option Addr → Nat → Nat → Int → Nat → World → Prop, (∃ vk_5 : Nat, vI_1 outA outN outC 0 vk_5 w2) ∧
 ∀ (jk : Nat → Value) (outA_1 : Option Addr) (outN_1 : Nat) (outC_1 : Nat) (x28 : Int), ∀ (vk_3 : Nat) (w3 : World), vI_1 outA_1 outN_1 outC_1 x28 vk_3 w3 →
 (decide (x28 < (x26N : Int)) = true →
 (0 ≤ x28 ∧ x28 < (x26N : Int)) ∧ someV x26A fun p_2 =>
 ∃ (x310A : Option Addr) (x310N x310C : Nat) (x311A : Option Addr) (x311N x311C : Nat), (w3.cell? (p_2.add (x28.toNat * 2)) = some (.slice x310A x310N x310C) ∧ w3.cell? ((p_2.add (x28.toNat * 2)).add 1) = some (.slice x311A x311N x311C)) ∧
 ∀ w4 : World, w4 = w3.alloc (.cells #[(.slice none 0 0), (.slice none 0 0)] 157 (0, 0)) →
 (Okc w4 ⟨w3.heap.size, 0, none⟩ ∧ Okc w4 ⟨w3.heap.size, 1, none⟩) ∧ ∀ w5 : World, w5 = ((w4.setCell ⟨w3.heap.size, 0, none⟩ (.slice x310A x310N x310C)).setCell ⟨w3.heap.size, 1, none⟩ (.slice x311A x311N x311C)) →
 ∃ (x330A : Option Addr) (x330N x330C : Nat) (x331A : Option Addr) (x331N x331C : Nat), (w5.cell? ⟨w3.heap.size, 0, none⟩ = some (.slice x330A x330N x330C) ∧ w5.cell? ⟨w3.heap.size, 1, none⟩ = some (.slice x331A x331N x331C)) ∧
 Calls Tryz.prog 119 #[(.agg #[(.slice x330A x330N x330C), (.slice x331A x331N x331C)])] w5 (Ret fun v_1 w6 => ∃ (x340A : Option Addr) (x340N x340C : Nat) (x341A : Option Addr) (x341N x341C : Nat), v_1 = (.agg #[(.slice x340A x340N x340C), (.slice x341A x341N x341C)]) ∧
 ∀ w7 : World, w7 = w6.alloc (.cells #[(.slice x340A x340N x340C), (.slice x341A x341N x341C)] 157 (0, 0)) →
 ∃ (x36A : Option Addr) (x36N x36C : Nat), ∃ w8 : World, (Builtin.append_ #[160, 160] 160 #[(.slice outA_1 outN_1 outC_1), (.slice (some ⟨w6.heap.size, 0, none⟩) 1 1)]).run Tryz.prog w7 = .ok (.slice x36A x36N x36C) w8 ∧
 ∃ vk_4 : Nat, vk_4 < vk_3 ∧ vI_1 x36A x36N x36C (IntKind.i64.wrap (x28 + 1)) vk_4 w8)) ∧
 (decide (x28 < (x26N : Int)) = false →
 ∃ vk_1 : Nat, vk_1 < vk ∧ vI outA_1 outN_1 outC_1 (IntKind.i64.wrap (x11 + 1)) vk_1 w3)))) ∧
 (decide (x11 < (listN : Int)) = false →
 R (.slice outA outN outC) w1)
theorem pages_Pool_Get.calls (pB : Nat) (listA : Option Addr) (listN : Nat) (listC : Nat) {w : World} {R : Value → World → Prop} (h : pages_Pool_Get.vc pB listA listN listC w R) : Calls Tryz.prog 80 #[(.pointer (some (⟨pB, 0, none⟩ : Addr))), (.slice listA listN listC)] w (Ret R) :=
 calls_V fit Tryz.func80 (.lp ([(4, some (.slice)), (6, none), (8, none), (11, some (.int .i64))] ++ nn 12 27) (.c (.c .nil (.lp ([(4, some (.slice)), (8, none), (28, some (.int .i64))] ++ nn 29 9) (.c .nil .nil))) .nil)) (Eq.mpr (by kernel_rfl) h)
def pages_Pool_Version.vc (pB : Nat) (id : Int) (w : World) (R : Value → World → Prop) : Prop :=
 Calls Tryz.prog 85 #[(.pointer (some ⟨pB, 0, none⟩)), (.int .i64 id)] w (Ret fun v w1 => ∃ x7 : Bool, v = (.bool x7) ∧
 ((!x7) = true →
 R (.int .i64 0) w1) ∧
 ((!x7) = false →
 ∃ (x12A : Option Addr) (x12N x12C : Nat), w1.cell? ⟨pB, 0, none⟩ = some (.slice x12A x12N x12C) ∧
 (0 ≤ id ∧ id < (x12N : Int)) ∧ someV x12A fun p =>
 ∃ x16 : Int, w1.cell? (p.add (id.toNat * 3)) = some (.int .i64 x16) ∧
 R (.int .i64 x16) w1))
theorem pages_Pool_Version.calls (pB : Nat) (id : Int) {w : World} {R : Value → World → Prop} (h : pages_Pool_Version.vc pB id w R) : Calls Tryz.prog 121 #[(.pointer (some (⟨pB, 0, none⟩ : Addr))), (.int .i64 id)] w (Ret R) :=
 calls_V fit Tryz.func121 (.c .nil .nil) (Eq.mpr (by kernel_rfl) h)
def pages_Pool_Users.vc (pB : Nat) (id : Int) (w : World) (R : Value → World → Prop) : Prop :=
 Calls Tryz.prog 85 #[(.pointer (some ⟨pB, 0, none⟩)), (.int .i64 id)] w (Ret fun v w1 => ∃ x7 : Bool, v = (.bool x7) ∧
 ((!x7) = true →
 R (.int .i64 0) w1) ∧
 ((!x7) = false →
 ∃ (x12A : Option Addr) (x12N x12C : Nat), w1.cell? ⟨pB, 0, none⟩ = some (.slice x12A x12N x12C) ∧
 (0 ≤ id ∧ id < (x12N : Int)) ∧ someV x12A fun p =>
 ∃ x16 : Int, w1.cell? ((p.add (id.toNat * 3)).add 1) = some (.int .i64 x16) ∧
 R (.int .i64 x16) w1))
theorem pages_Pool_Users.calls (pB : Nat) (id : Int) {w : World} {R : Value → World → Prop} (h : pages_Pool_Users.vc pB id w R) : Calls Tryz.prog 110 #[(.pointer (some (⟨pB, 0, none⟩ : Addr))), (.int .i64 id)] w (Ret R) :=
 calls_V fit Tryz.func110 (.c .nil .nil) (Eq.mpr (by kernel_rfl) h)
def pages_Pool_Len.vc (pB : Nat) (w : World) (R : Value → World → Prop) : Prop :=
 ∃ (x8A : Option Addr) (x8N x8C : Nat), w.cell? ⟨pB, 0, none⟩ = some (.slice x8A x8N x8C) ∧
 R (.int .i64 (x8N : Int)) w
theorem pages_Pool_Len.calls (pB : Nat) {w : World} {R : Value → World → Prop} (h : pages_Pool_Len.vc pB w R) : Calls Tryz.prog 69 #[(.pointer (some (⟨pB, 0, none⟩ : Addr)))] w (Ret R) :=
 calls_V fit Tryz.func69 (.k .nil) (Eq.mpr (by kernel_rfl) h)
def pages_Pool_Free.vc (pB : Nat) (w : World) (R : Value → World → Prop) : Prop :=
 Calls Tryz.prog 69 #[(.pointer (some ⟨pB, 0, none⟩))] w (Ret fun v w1 => ∃ x6 : Int, v = (.int .i64 x6) ∧
 ∃ vI : Int → Int → Nat → World → Prop, (∃ vk_2 : Nat, vI 0 0 vk_2 w1) ∧
 ∀ (jk : Nat → Value) (n : Int) (x7 : Int), ∀ (vk : Nat) (w2 : World), vI n x7 vk w2 →
 (decide (x7 < x6) = true →
 Calls Tryz.prog 85 #[(.pointer (some ⟨pB, 0, none⟩)), (.int .i64 x7)] w2 (Ret fun v_1 w3 => ∃ x12 : Bool, v_1 = (.bool x12) ∧
 ((!x12) = true →
 ∃ vk_1 : Nat, vk_1 < vk ∧ vI (IntKind.i64.wrap (n + 1)) (IntKind.i64.wrap (x7 + 1)) vk_1 w3) ∧
 ((!x12) = false →
 ∃ vk_1 : Nat, vk_1 < vk ∧ vI n (IntKind.i64.wrap (x7 + 1)) vk_1 w3))) ∧
 (decide (x7 < x6) = false →
 R (.int .i64 n) w2))
theorem pages_Pool_Free.calls (pB : Nat) {w : World} {R : Value → World → Prop} (h : pages_Pool_Free.vc pB w R) : Calls Tryz.prog 45 #[(.pointer (some (⟨pB, 0, none⟩ : Addr)))] w (Ret R) :=
 calls_V fit Tryz.func45 (.lp ([(3, some (.int .i64)), (4, none), (7, some (.int .i64))] ++ nn 8 9) (.c (.c .nil .nil) .nil)) (Eq.mpr (by kernel_rfl) h)
end Go.Proofs.YtkbikekbaboclaaGreat.Vc
