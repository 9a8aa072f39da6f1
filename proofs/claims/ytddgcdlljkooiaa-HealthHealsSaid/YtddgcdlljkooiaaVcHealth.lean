import Derived.Test.YtddgcdlljkooiaaVc
import Derived.Test.YtddgcdlljkooiaaH
import Derived.Test.YtddgcdlljkooiaaProg
import Derived.KernelRfl
set_option linter.unusedVariables false
set_option maxRecDepth 100000
namespace Go.Proofs.Ytddgcdlljkooiaa.Vc
open Go Go.Proofs Go.Proofs.Ytddgcdlljkooiaa.V
/-- function 16 -/
def health_New.vc (window : Int) (limit : Int) (w : World) (R : Value → World → Prop) : Prop :=
  (decide (window < (1 : Int)) = true →
  R (.tuple #[(.pointer none), (.int .i64 1)]) w) ∧
  (decide (window < (1 : Int)) = false →
  (decide (window > (100 : Int)) = true →
  R (.tuple #[(.pointer none), (.int .i64 1)]) w) ∧
  (decide (window > (100 : Int)) = false →
  (decide (limit < (1 : Int)) = true →
  R (.tuple #[(.pointer none), (.int .i64 1)]) w) ∧
  (decide (limit < (1 : Int)) = false →
  (decide (limit > window) = true →
  R (.tuple #[(.pointer none), (.int .i64 1)]) w) ∧
  (decide (limit > window) = false →
  ∀ w1 : World, w1 = w.alloc (.cells #[(.int .i64 0), (.int .i64 0), (.int .i64 window), (.int .i64 limit), (.slice none 0 0)] 35 (0, 0)) →
  R (.tuple #[(.pointer (some (⟨w.heap.size, 0, none⟩ : Addr))), (.int .i64 0)]) w1))))
theorem health_New.vc_eq (window : Int) (limit : Int) (w : World) (R : Value → World → Prop) : fnV Try.prog Try.f16 (.at_ 1 2 (.k .nil) (.at_ 1 6 (.k .nil) (.at_ 1 10 (.k .nil) (.c .nil .nil)))) [(.int .i64 window), (.int .i64 limit)] w R = health_New.vc window limit w R := by kernel_rfl
theorem health_New.calls (window : Int) (limit : Int) {w : World} {R : Value → World → Prop} (h : health_New.vc window limit w R) : Calls Try.prog 16 #[(.int .i64 window), (.int .i64 limit)] w (Ret R) :=
  calls_V fit Try.func16 (.at_ 1 2 (.k .nil) (.at_ 1 6 (.k .nil) (.at_ 1 10 (.k .nil) (.c .nil .nil)))) (by rw [show (#[(.int .i64 window), (.int .i64 limit)] : Array Value).toList = [(.int .i64 window), (.int .i64 limit)] from rfl, health_New.vc_eq]; exact h)
/-- function 19 -/
def health_Watch_Late.vc (wB : Nat) (w : World) (R : Value → World → Prop) : Prop :=
  ∃ (x11A : Option Addr), ∃ (x11N : Nat), ∃ (x11C : Nat), w.cell? (⟨wB, 4, none⟩ : Addr) = some (.slice x11A x11N x11C) ∧
  ∃ vI : Int → Int → Nat → World → Prop, (∃ vk_2 : Nat, vI 0 0 vk_2 w) ∧
  ∀ (jk : Nat → Value) (n : Int) (x13 : Int), ∀ (vk : Nat) (w1 : World), vI n x13 vk w1 →
  (decide (x13 < ((x11N : Nat) : Int)) = true →
  (0 ≤ x13 ∧ x13 < ((x11N : Nat) : Int)) ∧ someV x11A fun p =>
  ∃ (x16 : Bool), w1.cell? (p.add (x13.toNat * 1)) = some (.bool x16) ∧
  ((!x16) = true →
  ∃ vk_1 : Nat, vk_1 < vk ∧ vI (IntKind.i64.wrap (n + 1)) (IntKind.i64.wrap (x13 + 1)) vk_1 w1) ∧
  ((!x16) = false →
  ∃ vk_1 : Nat, vk_1 < vk ∧ vI n (IntKind.i64.wrap (x13 + 1)) vk_1 w1)) ∧
  (decide (x13 < ((x11N : Nat) : Int)) = false →
  R (.int .i64 n) w1)
theorem health_Watch_Late.vc_eq (wB : Nat) (w : World) (R : Value → World → Prop) : fnV Try.prog Try.f19 (.k (.lp [(3, some (.int .i64)), (5, none), (13, some (.int .i64)), (14, none), (15, none), (16, none), (17, none), (18, none), (19, none), (20, none), (21, none)] (.c (.c .nil .nil) .nil))) [(.pointer (some (⟨wB, 0, none⟩ : Addr)))] w R = health_Watch_Late.vc wB w R := by kernel_rfl
theorem health_Watch_Late.calls (wB : Nat) {w : World} {R : Value → World → Prop} (h : health_Watch_Late.vc wB w R) : Calls Try.prog 19 #[(.pointer (some (⟨wB, 0, none⟩ : Addr)))] w (Ret R) :=
  calls_V fit Try.func19 (.k (.lp [(3, some (.int .i64)), (5, none), (13, some (.int .i64)), (14, none), (15, none), (16, none), (17, none), (18, none), (19, none), (20, none), (21, none)] (.c (.c .nil .nil) .nil))) (by rw [show (#[(.pointer (some (⟨wB, 0, none⟩ : Addr)))] : Array Value).toList = [(.pointer (some (⟨wB, 0, none⟩ : Addr)))] from rfl, health_Watch_Late.vc_eq]; exact h)
/-- function 19 -/
def health_Watch_Late.vc_nil (w : World) (R : Value → World → Prop) : Prop :=
  R (.int .i64 0) w
theorem health_Watch_Late.vc_nil_eq (w : World) (R : Value → World → Prop) : fnV Try.prog Try.f19 (.k .nil) [(.pointer none)] w R = health_Watch_Late.vc_nil  w R := by kernel_rfl
theorem health_Watch_Late.calls_nil {w : World} {R : Value → World → Prop} (h : health_Watch_Late.vc_nil  w R) : Calls Try.prog 19 #[(.pointer none)] w (Ret R) :=
  calls_V fit Try.func19 (.k .nil) (by rw [show (#[(.pointer none)] : Array Value).toList = [(.pointer none)] from rfl, health_Watch_Late.vc_nil_eq]; exact h)
/-- function 18 -/
def health_Watch_Over.vc (wB : Nat) (w : World) (R : Value → World → Prop) : Prop :=
  ∃ vS : World → Prop, ∀ w1 : World, w1 = w.drew → vS w1 ∧
  ∃ (x11 : Int), (∀ w2, vS w2 → w2.cell? (⟨wB, 3, none⟩ : Addr) = some (.int .i64 x11)) ∧
  Calls Try.prog 19 #[(.pointer (some (⟨wB, 0, none⟩ : Addr)))] w1 (Ret fun v w3 => ∃ (x7 : Int), v = (.int .i64 x7) ∧
  vS w3 ∧
  R (.bool (decide (x7 ≥ x11))) w3)
theorem health_Watch_Over.vc_eq (wB : Nat) (w : World) (R : Value → World → Prop) : fnV Try.prog Try.f18 (.tk 0 (.tk 1 (.tk 2 (.tk 3 (.tk 5 (.tk 6 (.tk 7 (.tk 8 (.alt 4 (.tk 9 (.tk 10 (.tk 11 (.fin .nil)))) .nil))))))))) [(.pointer (some (⟨wB, 0, none⟩ : Addr)))] w R = health_Watch_Over.vc wB w R := by kernel_rfl
theorem health_Watch_Over.calls (wB : Nat) {w : World} {R : Value → World → Prop} (h : health_Watch_Over.vc wB w R) : Calls Try.prog 18 #[(.pointer (some (⟨wB, 0, none⟩ : Addr)))] w (Ret R) :=
  calls_V fit Try.func18 (.tk 0 (.tk 1 (.tk 2 (.tk 3 (.tk 5 (.tk 6 (.tk 7 (.tk 8 (.alt 4 (.tk 9 (.tk 10 (.tk 11 (.fin .nil)))) .nil))))))))) (by rw [show (#[(.pointer (some (⟨wB, 0, none⟩ : Addr)))] : Array Value).toList = [(.pointer (some (⟨wB, 0, none⟩ : Addr)))] from rfl, health_Watch_Over.vc_eq]; exact h)
/-- function 18 -/
def health_Watch_Over.vc_nil (w : World) (R : Value → World → Prop) : Prop :=
  ∃ vS : World → Prop, ∀ w1 : World, w1 = w.drew → vS w1 ∧
  R (.bool false) w1
theorem health_Watch_Over.vc_nil_eq (w : World) (R : Value → World → Prop) : fnV Try.prog Try.f18 (.tk 0 (.tk 1 (.tk 2 (.tk 3 (.tk 4 (.tk 5 (.tk 6 (.tk 7 (.tk 8 (.tk 9 (.tk 10 (.tk 11 (.fin .nil))))))))))))) [(.pointer none)] w R = health_Watch_Over.vc_nil  w R := by kernel_rfl
theorem health_Watch_Over.calls_nil {w : World} {R : Value → World → Prop} (h : health_Watch_Over.vc_nil  w R) : Calls Try.prog 18 #[(.pointer none)] w (Ret R) :=
  calls_V fit Try.func18 (.tk 0 (.tk 1 (.tk 2 (.tk 3 (.tk 4 (.tk 5 (.tk 6 (.tk 7 (.tk 8 (.tk 9 (.tk 10 (.tk 11 (.fin .nil))))))))))))) (by rw [show (#[(.pointer none)] : Array Value).toList = [(.pointer none)] from rfl, health_Watch_Over.vc_nil_eq]; exact h)
/-- function 50 -/
def health_Watch_one.vc (wB : Nat) (good : Bool) (w : World) (R : Value → World → Prop) : Prop :=
  (good = true →
  ∃ (x9 : Int), w.cell? (⟨wB, 0, none⟩ : Addr) = some (.int .i64 x9) ∧
  (((∃ u, w.cell? (⟨wB, 0, none⟩ : Addr) = some u) ∧ w.frozen? (⟨wB, 0, none⟩ : Addr) = false)) ∧ ∀ w1 : World, w1 = (w.setCell (⟨wB, 0, none⟩ : Addr) (.int .i64 (IntKind.i64.wrap (x9 + 1)))) →
  ∃ (x27A : Option Addr), ∃ (x27N : Nat), ∃ (x27C : Nat), w1.cell? (⟨wB, 4, none⟩ : Addr) = some (.slice x27A x27N x27C) ∧
  ∀ w2 : World, w2 = w1.alloc (.cells #[(.bool good)] 4 (0, 0)) →
  ∃ (x30A : Option Addr), ∃ (x30N : Nat), ∃ (x30C : Nat), ∃ w3 : World, (Builtin.append_ #[22, 22] 22 #[(.slice x27A x27N x27C), (.slice (some (⟨w1.heap.size, 0, none⟩ : Addr)) 1 1)]).run Try.prog w2 = .ok (.slice x30A x30N x30C) w3 ∧
  (((∃ u, w3.cell? (⟨wB, 4, none⟩ : Addr) = some u) ∧ w3.frozen? (⟨wB, 4, none⟩ : Addr) = false)) ∧ ∀ w4 : World, w4 = (w3.setCell (⟨wB, 4, none⟩ : Addr) (.slice x30A x30N x30C)) →
  ∃ vS : World → Prop, ∀ w5 : World, w5 = w4.drew → vS w5 ∧
  ∃ (x36A : Option Addr), ∃ (x36N : Nat), ∃ (x36C : Nat), (∀ w6, vS w6 → w6.cell? (⟨wB, 4, none⟩ : Addr) = some (.slice x36A x36N x36C)) ∧
  ∃ (x41 : Int), (∀ w7, vS w7 → w7.cell? (⟨wB, 2, none⟩ : Addr) = some (.int .i64 x41)) ∧
  (decide (((x36N : Nat) : Int) > x41) = true →
  ∃ (x47A : Option Addr), ∃ (x47N : Nat), ∃ (x47C : Nat), w5.cell? (⟨wB, 4, none⟩ : Addr) = some (.slice x47A x47N x47C) ∧
  (0 ≤ (1 : Int) ∧ (1 : Int) ≤ ((x47N : Nat) : Int)) ∧
  (((∃ u, w5.cell? (⟨wB, 4, none⟩ : Addr) = some u) ∧ w5.frozen? (⟨wB, 4, none⟩ : Addr) = false)) ∧ ∀ w8 : World, w8 = (w5.setCell (⟨wB, 4, none⟩ : Addr) (.slice (if x47C = (1 : Int).toNat then x47A else x47A.map (·.add ((1 : Int).toNat * 1))) (x47N - (1 : Int).toNat) (x47C - (1 : Int).toNat))) →
  R (.tuple #[]) w8) ∧
  (decide (((x36N : Nat) : Int) > x41) = false →
  R (.tuple #[]) w5)) ∧
  (good = false →
  ∃ (x18 : Int), w.cell? (⟨wB, 1, none⟩ : Addr) = some (.int .i64 x18) ∧
  (((∃ u, w.cell? (⟨wB, 1, none⟩ : Addr) = some u) ∧ w.frozen? (⟨wB, 1, none⟩ : Addr) = false)) ∧ ∀ w9 : World, w9 = (w.setCell (⟨wB, 1, none⟩ : Addr) (.int .i64 (IntKind.i64.wrap (x18 + 1)))) →
  ∃ (x27A_1 : Option Addr), ∃ (x27N_1 : Nat), ∃ (x27C_1 : Nat), w9.cell? (⟨wB, 4, none⟩ : Addr) = some (.slice x27A_1 x27N_1 x27C_1) ∧
  ∀ w10 : World, w10 = w9.alloc (.cells #[(.bool good)] 4 (0, 0)) →
  ∃ (x30A_1 : Option Addr), ∃ (x30N_1 : Nat), ∃ (x30C_1 : Nat), ∃ w11 : World, (Builtin.append_ #[22, 22] 22 #[(.slice x27A_1 x27N_1 x27C_1), (.slice (some (⟨w9.heap.size, 0, none⟩ : Addr)) 1 1)]).run Try.prog w10 = .ok (.slice x30A_1 x30N_1 x30C_1) w11 ∧
  (((∃ u, w11.cell? (⟨wB, 4, none⟩ : Addr) = some u) ∧ w11.frozen? (⟨wB, 4, none⟩ : Addr) = false)) ∧ ∀ w12 : World, w12 = (w11.setCell (⟨wB, 4, none⟩ : Addr) (.slice x30A_1 x30N_1 x30C_1)) →
  ∃ vS_1 : World → Prop, ∀ w13 : World, w13 = w12.drew → vS_1 w13 ∧
  ∃ (x36A_1 : Option Addr), ∃ (x36N_1 : Nat), ∃ (x36C_1 : Nat), (∀ w14, vS_1 w14 → w14.cell? (⟨wB, 4, none⟩ : Addr) = some (.slice x36A_1 x36N_1 x36C_1)) ∧
  ∃ (x41_1 : Int), (∀ w15, vS_1 w15 → w15.cell? (⟨wB, 2, none⟩ : Addr) = some (.int .i64 x41_1)) ∧
  (decide (((x36N_1 : Nat) : Int) > x41_1) = true →
  ∃ (x47A_1 : Option Addr), ∃ (x47N_1 : Nat), ∃ (x47C_1 : Nat), w13.cell? (⟨wB, 4, none⟩ : Addr) = some (.slice x47A_1 x47N_1 x47C_1) ∧
  (0 ≤ (1 : Int) ∧ (1 : Int) ≤ ((x47N_1 : Nat) : Int)) ∧
  (((∃ u, w13.cell? (⟨wB, 4, none⟩ : Addr) = some u) ∧ w13.frozen? (⟨wB, 4, none⟩ : Addr) = false)) ∧ ∀ w16 : World, w16 = (w13.setCell (⟨wB, 4, none⟩ : Addr) (.slice (if x47C_1 = (1 : Int).toNat then x47A_1 else x47A_1.map (·.add ((1 : Int).toNat * 1))) (x47N_1 - (1 : Int).toNat) (x47C_1 - (1 : Int).toNat))) →
  R (.tuple #[]) w16) ∧
  (decide (((x36N_1 : Nat) : Int) > x41_1) = false →
  R (.tuple #[]) w13))
theorem health_Watch_one.vc_eq (wB : Nat) (good : Bool) (w : World) (R : Value → World → Prop) : fnV Try.prog Try.f50 (.c (.tk 0 (.tk 1 (.tk 2 (.tk 3 (.tk 4 (.tk 5 (.tk 6 (.tk 7 (.tk 8 (.tk 9 (.fin (.c .nil .nil)))))))))))) (.tk 0 (.tk 1 (.tk 2 (.tk 3 (.tk 4 (.tk 5 (.tk 6 (.tk 7 (.tk 8 (.tk 9 (.fin (.c .nil .nil))))))))))))) [(.pointer (some (⟨wB, 0, none⟩ : Addr))), (.bool good)] w R = health_Watch_one.vc wB good w R := by kernel_rfl
theorem health_Watch_one.calls (wB : Nat) (good : Bool) {w : World} {R : Value → World → Prop} (h : health_Watch_one.vc wB good w R) : Calls Try.prog 50 #[(.pointer (some (⟨wB, 0, none⟩ : Addr))), (.bool good)] w (Ret R) :=
  calls_V fit Try.func50 (.c (.tk 0 (.tk 1 (.tk 2 (.tk 3 (.tk 4 (.tk 5 (.tk 6 (.tk 7 (.tk 8 (.tk 9 (.fin (.c .nil .nil)))))))))))) (.tk 0 (.tk 1 (.tk 2 (.tk 3 (.tk 4 (.tk 5 (.tk 6 (.tk 7 (.tk 8 (.tk 9 (.fin (.c .nil .nil))))))))))))) (by rw [show (#[(.pointer (some (⟨wB, 0, none⟩ : Addr))), (.bool good)] : Array Value).toList = [(.pointer (some (⟨wB, 0, none⟩ : Addr))), (.bool good)] from rfl, health_Watch_one.vc_eq]; exact h)
/-- function 17 -/
def health_Watch_Note.vc (wB : Nat) (listA : Option Addr) (listN : Nat) (listC : Nat) (w : World) (R : Value → World → Prop) : Prop :=
  ∃ vI : Bool → Int → Nat → World → Prop, (∃ vk_2 : Nat, vI false 0 vk_2 w) ∧
  ∀ (jk : Nat → Value) (over : Bool) (x13 : Int), ∀ (vk : Nat) (w1 : World), vI over x13 vk w1 →
  (decide (x13 < ((listN : Nat) : Int)) = true →
  (0 ≤ x13 ∧ x13 < ((listN : Nat) : Int)) ∧ someV listA fun p =>
  ∃ (x16 : Bool), w1.cell? (p.add (x13.toNat * 1)) = some (.bool x16) ∧
  Calls Try.prog 50 #[(.pointer (some (⟨wB, 0, none⟩ : Addr))), (.bool x16)] w1 (Ret fun v w2 => v = .tuple #[] ∧
  (over = true →
  ∃ vk_1 : Nat, vk_1 < vk ∧ vI true (IntKind.i64.wrap (x13 + 1)) vk_1 w2) ∧
  (over = false →
  Calls Try.prog 18 #[(.pointer (some (⟨wB, 0, none⟩ : Addr)))] w2 (Ret fun v_1 w3 => ∃ (x23 : Bool), v_1 = (.bool x23) ∧
  ∃ vk_1 : Nat, vk_1 < vk ∧ vI x23 (IntKind.i64.wrap (x13 + 1)) vk_1 w3)))) ∧
  (decide (x13 < ((listN : Nat) : Int)) = false →
  R (.tuple #[(.bool over), (.int .i64 0)]) w1)
theorem health_Watch_Note.vc_eq (wB : Nat) (listA : Option Addr) (listN : Nat) (listC : Nat) (w : World) (R : Value → World → Prop) : fnV Try.prog Try.f17 (.k (.lp [(6, some (.bool)), (8, none), (13, some (.int .i64)), (14, none), (15, none), (16, none), (17, none), (18, none), (19, none), (20, none), (21, none), (22, none), (23, none), (24, none), (25, none)] (.c (.at_ 8 1 .nil .nil) .nil))) [(.pointer (some (⟨wB, 0, none⟩ : Addr))), (.slice listA listN listC)] w R = health_Watch_Note.vc wB listA listN listC w R := by kernel_rfl
theorem health_Watch_Note.calls (wB : Nat) (listA : Option Addr) (listN : Nat) (listC : Nat) {w : World} {R : Value → World → Prop} (h : health_Watch_Note.vc wB listA listN listC w R) : Calls Try.prog 17 #[(.pointer (some (⟨wB, 0, none⟩ : Addr))), (.slice listA listN listC)] w (Ret R) :=
  calls_V fit Try.func17 (.k (.lp [(6, some (.bool)), (8, none), (13, some (.int .i64)), (14, none), (15, none), (16, none), (17, none), (18, none), (19, none), (20, none), (21, none), (22, none), (23, none), (24, none), (25, none)] (.c (.at_ 8 1 .nil .nil) .nil))) (by rw [show (#[(.pointer (some (⟨wB, 0, none⟩ : Addr))), (.slice listA listN listC)] : Array Value).toList = [(.pointer (some (⟨wB, 0, none⟩ : Addr))), (.slice listA listN listC)] from rfl, health_Watch_Note.vc_eq]; exact h)
/-- function 17 -/
def health_Watch_Note.vc_nil (listA : Option Addr) (listN : Nat) (listC : Nat) (w : World) (R : Value → World → Prop) : Prop :=
  R (.tuple #[(.bool false), (.int .i64 2)]) w
theorem health_Watch_Note.vc_nil_eq (listA : Option Addr) (listN : Nat) (listC : Nat) (w : World) (R : Value → World → Prop) : fnV Try.prog Try.f17 (.k .nil) [(.pointer none), (.slice listA listN listC)] w R = health_Watch_Note.vc_nil listA listN listC w R := by kernel_rfl
theorem health_Watch_Note.calls_nil (listA : Option Addr) (listN : Nat) (listC : Nat) {w : World} {R : Value → World → Prop} (h : health_Watch_Note.vc_nil listA listN listC w R) : Calls Try.prog 17 #[(.pointer none), (.slice listA listN listC)] w (Ret R) :=
  calls_V fit Try.func17 (.k .nil) (by rw [show (#[(.pointer none), (.slice listA listN listC)] : Array Value).toList = [(.pointer none), (.slice listA listN listC)] from rfl, health_Watch_Note.vc_nil_eq]; exact h)
/-- function 21 -/
def health_Watch_Reset.vc (wB : Nat) (w : World) (R : Value → World → Prop) : Prop :=
  (((∃ u, w.cell? (⟨wB, 0, none⟩ : Addr) = some u) ∧ w.frozen? (⟨wB, 0, none⟩ : Addr) = false) ∧ ((∃ u, w.cell? (⟨wB, 1, none⟩ : Addr) = some u) ∧ w.frozen? (⟨wB, 1, none⟩ : Addr) = false)) ∧ ∀ w1 : World, w1 = ((w.setCell (⟨wB, 0, none⟩ : Addr) (.int .i64 0)).setCell (⟨wB, 1, none⟩ : Addr) (.int .i64 0)) →
  (((∃ u, w1.cell? (⟨wB, 4, none⟩ : Addr) = some u) ∧ w1.frozen? (⟨wB, 4, none⟩ : Addr) = false)) ∧ ∀ w2 : World, w2 = (w1.setCell (⟨wB, 4, none⟩ : Addr) (.slice none 0 0)) →
  R (.tuple #[]) w2
theorem health_Watch_Reset.vc_eq (wB : Nat) (w : World) (R : Value → World → Prop) : fnV Try.prog Try.f21 (.k .nil) [(.pointer (some (⟨wB, 0, none⟩ : Addr)))] w R = health_Watch_Reset.vc wB w R := by kernel_rfl
theorem health_Watch_Reset.calls (wB : Nat) {w : World} {R : Value → World → Prop} (h : health_Watch_Reset.vc wB w R) : Calls Try.prog 21 #[(.pointer (some (⟨wB, 0, none⟩ : Addr)))] w (Ret R) :=
  calls_V fit Try.func21 (.k .nil) (by rw [show (#[(.pointer (some (⟨wB, 0, none⟩ : Addr)))] : Array Value).toList = [(.pointer (some (⟨wB, 0, none⟩ : Addr)))] from rfl, health_Watch_Reset.vc_eq]; exact h)
/-- function 21 -/
def health_Watch_Reset.vc_nil (w : World) (R : Value → World → Prop) : Prop :=
  R (.tuple #[]) w
theorem health_Watch_Reset.vc_nil_eq (w : World) (R : Value → World → Prop) : fnV Try.prog Try.f21 (.k .nil) [(.pointer none)] w R = health_Watch_Reset.vc_nil  w R := by kernel_rfl
theorem health_Watch_Reset.calls_nil {w : World} {R : Value → World → Prop} (h : health_Watch_Reset.vc_nil  w R) : Calls Try.prog 21 #[(.pointer none)] w (Ret R) :=
  calls_V fit Try.func21 (.k .nil) (by rw [show (#[(.pointer none)] : Array Value).toList = [(.pointer none)] from rfl, health_Watch_Reset.vc_nil_eq]; exact h)
/-- function 23 -/
def health_Counts_Total.vc (c0 : Int) (c1 : Int) (w : World) (R : Value → World → Prop) : Prop :=
  ∀ w1 : World, w1 = w.alloc (.cells #[(.int .i64 c0), (.int .i64 c1)] 33 (0, 0)) →
  ∃ (x4 : Int), w1.cell? (⟨w.heap.size, 0, none⟩ : Addr) = some (.int .i64 x4) ∧
  ∃ (x6 : Int), w1.cell? (⟨w.heap.size, 1, none⟩ : Addr) = some (.int .i64 x6) ∧
  R (.int .i64 (IntKind.i64.wrap (x4 + x6))) w1
theorem health_Counts_Total.vc_eq (c0 : Int) (c1 : Int) (w : World) (R : Value → World → Prop) : fnV Try.prog Try.f23 .nil [(.agg #[(.int .i64 c0), (.int .i64 c1)])] w R = health_Counts_Total.vc c0 c1 w R := by kernel_rfl
theorem health_Counts_Total.calls (c0 : Int) (c1 : Int) {w : World} {R : Value → World → Prop} (h : health_Counts_Total.vc c0 c1 w R) : Calls Try.prog 23 #[(.agg #[(.int .i64 c0), (.int .i64 c1)])] w (Ret R) :=
  calls_V fit Try.func23 .nil (by rw [show (#[(.agg #[(.int .i64 c0), (.int .i64 c1)])] : Array Value).toList = [(.agg #[(.int .i64 c0), (.int .i64 c1)])] from rfl, health_Counts_Total.vc_eq]; exact h)
/-- function 20 -/
def coadjutorref27_Late.vc (lA : Option Addr) (lN : Nat) (lC : Nat) (window : Int) (w : World) (R : Value → World → Prop) : Prop :=
  ∃ vI : Int → Int → Nat → World → Prop, (∃ vk_2 : Nat, vI 0 (if (0 : Int) > (IntKind.i64.wrap (((lN : Nat) : Int) - window)) then (0 : Int) else (IntKind.i64.wrap (((lN : Nat) : Int) - window))) vk_2 w) ∧
  ∀ (jk : Nat → Value) (n : Int) (i : Int), ∀ (vk : Nat) (w1 : World), vI n i vk w1 →
  (decide (i < ((lN : Nat) : Int)) = true →
  (0 ≤ i ∧ i < ((lN : Nat) : Int)) ∧ someV lA fun p =>
  ∃ (x21 : Bool), w1.cell? (p.add (i.toNat * 1)) = some (.bool x21) ∧
  ((!x21) = true →
  ∃ vk_1 : Nat, vk_1 < vk ∧ vI (IntKind.i64.wrap (n + 1)) (IntKind.i64.wrap (i + 1)) vk_1 w1) ∧
  ((!x21) = false →
  ∃ vk_1 : Nat, vk_1 < vk ∧ vI n (IntKind.i64.wrap (i + 1)) vk_1 w1)) ∧
  (decide (i < ((lN : Nat) : Int)) = false →
  R (.int .i64 n) w1)
theorem coadjutorref27_Late.vc_eq (lA : Option Addr) (lN : Nat) (lC : Nat) (window : Int) (w : World) (R : Value → World → Prop) : fnV Try.prog Try.f20 (.lp [(5, some (.int .i64)), (6, some (.int .i64)), (12, none), (13, none), (14, none), (15, none), (16, none), (17, none), (18, none), (19, none), (20, none), (21, none), (22, none), (23, none), (24, none)] (.c (.c .nil .nil) .nil)) [(.slice lA lN lC), (.int .i64 window)] w R = coadjutorref27_Late.vc lA lN lC window w R := by kernel_rfl
theorem coadjutorref27_Late.calls (lA : Option Addr) (lN : Nat) (lC : Nat) (window : Int) {w : World} {R : Value → World → Prop} (h : coadjutorref27_Late.vc lA lN lC window w R) : Calls Try.prog 20 #[(.slice lA lN lC), (.int .i64 window)] w (Ret R) :=
  calls_V fit Try.func20 (.lp [(5, some (.int .i64)), (6, some (.int .i64)), (12, none), (13, none), (14, none), (15, none), (16, none), (17, none), (18, none), (19, none), (20, none), (21, none), (22, none), (23, none), (24, none)] (.c (.c .nil .nil) .nil)) (by rw [show (#[(.slice lA lN lC), (.int .i64 window)] : Array Value).toList = [(.slice lA lN lC), (.int .i64 window)] from rfl, coadjutorref27_Late.vc_eq]; exact h)
/-- function 22 -/
def coadjutorref27_Count.vc (lA : Option Addr) (lN : Nat) (lC : Nat) (is : Bool) (w : World) (R : Value → World → Prop) : Prop :=
  ∃ vI : Int → Int → Nat → World → Prop, (∃ vk_2 : Nat, vI 0 0 vk_2 w) ∧
  ∀ (jk : Nat → Value) (n : Int) (i : Int), ∀ (vk : Nat) (w1 : World), vI n i vk w1 →
  (decide (i < ((lN : Nat) : Int)) = true →
  (0 ≤ i ∧ i < ((lN : Nat) : Int)) ∧ someV lA fun p =>
  ∃ (x16 : Bool), w1.cell? (p.add (i.toNat * 1)) = some (.bool x16) ∧
  ((x16 == is) = true →
  ∃ vk_1 : Nat, vk_1 < vk ∧ vI (IntKind.i64.wrap (n + 1)) (IntKind.i64.wrap (i + 1)) vk_1 w1) ∧
  ((x16 == is) = false →
  ∃ vk_1 : Nat, vk_1 < vk ∧ vI n (IntKind.i64.wrap (i + 1)) vk_1 w1)) ∧
  (decide (i < ((lN : Nat) : Int)) = false →
  R (.int .i64 n) w1)
theorem coadjutorref27_Count.vc_eq (lA : Option Addr) (lN : Nat) (lC : Nat) (is : Bool) (w : World) (R : Value → World → Prop) : fnV Try.prog Try.f22 (.lp [(5, some (.int .i64)), (6, some (.int .i64)), (7, none), (8, none), (9, none), (10, none), (11, none), (12, none), (13, none), (14, none), (15, none), (16, none), (17, none), (18, none), (19, none), (20, none)] (.c (.c .nil .nil) .nil)) [(.slice lA lN lC), (.bool is)] w R = coadjutorref27_Count.vc lA lN lC is w R := by kernel_rfl
theorem coadjutorref27_Count.calls (lA : Option Addr) (lN : Nat) (lC : Nat) (is : Bool) {w : World} {R : Value → World → Prop} (h : coadjutorref27_Count.vc lA lN lC is w R) : Calls Try.prog 22 #[(.slice lA lN lC), (.bool is)] w (Ret R) :=
  calls_V fit Try.func22 (.lp [(5, some (.int .i64)), (6, some (.int .i64)), (7, none), (8, none), (9, none), (10, none), (11, none), (12, none), (13, none), (14, none), (15, none), (16, none), (17, none), (18, none), (19, none), (20, none)] (.c (.c .nil .nil) .nil)) (by rw [show (#[(.slice lA lN lC), (.bool is)] : Array Value).toList = [(.slice lA lN lC), (.bool is)] from rfl, coadjutorref27_Count.vc_eq]; exact h)
/-- function 15 -/
def coadjutorlaw27_awake.vc (w : World) (R : Value → World → Prop) : Prop :=
  Calls Try.prog 16 #[(.int .i64 3), (.int .i64 2)] w (Ret fun v w1 => ∃ (x8_0 : Option Addr), ∃ (x8_1 : Int), v = (.tuple #[(.pointer x8_0), (.int .i64 x8_1)]) ∧
  Calls Try.prog 16 #[(.int .i64 3), (.int .i64 4)] w1 (Ret fun v_1 w2 => ∃ (x12_0 : Option Addr), ∃ (x12_1 : Int), v_1 = (.tuple #[(.pointer x12_0), (.int .i64 x12_1)]) ∧
  ((x8_1 != (0 : Int)) = true →
  R (.bool false) w2) ∧
  ((x8_1 != (0 : Int)) = false →
  (x8_0.isNone = true →
  R (.bool false) w2) ∧
  (x8_0.isNone = false →
  ∀ w3 : World, w3 = w2.alloc (.cells #[(.bool false), (.bool true), (.bool false)] 4 (0, 0)) →
  Calls Try.prog 17 #[(.pointer x8_0), (.slice (some (⟨w2.heap.size, 0, none⟩ : Addr)) 3 3)] w3 (Ret fun v_2 w4 => ∃ (x24_0 : Bool), ∃ (x24_1 : Int), v_2 = (.tuple #[(.bool x24_0), (.int .i64 x24_1)]) ∧
  ((x12_1 == (1 : Int)) = true →
  (x24_0 = true →
  ((x24_1 == (0 : Int)) = true →
  Calls Try.prog 19 #[(.pointer x8_0)] w4 (Ret fun v_3 w5 => ∃ (x38 : Int), v_3 = (.int .i64 x38) ∧
  ((x38 == (2 : Int)) = true →
  someV x8_0 fun p =>
  ∃ (x46 : Int), w5.cell? (p.add 1) = some (.int .i64 x46) ∧
  ((x46 == (2 : Int)) = true →
  someV x8_0 fun p_1 =>
  ∃ (x54 : Int), w5.cell? p_1 = some (.int .i64 x54) ∧
  ((x54 == (1 : Int)) = true →
  someV x8_0 fun p_2 =>
  ∃ (x610 : Int), ∃ (x611 : Int), (w5.cell? p_2 = some (.int .i64 x610) ∧ w5.cell? (p_2.add 1) = some (.int .i64 x611)) ∧
  Calls Try.prog 23 #[(.agg #[(.int .i64 x610), (.int .i64 x611)])] w5 (Ret fun v_4 w6 => ∃ (x62 : Int), v_4 = (.int .i64 x62) ∧
  R (.bool (x62 == (3 : Int))) w6)) ∧
  ((x54 == (1 : Int)) = false →
  R (.bool false) w5)) ∧
  ((x46 == (2 : Int)) = false →
  R (.bool false) w5)) ∧
  ((x38 == (2 : Int)) = false →
  R (.bool false) w5))) ∧
  ((x24_1 == (0 : Int)) = false →
  R (.bool false) w4)) ∧
  (x24_0 = false →
  R (.bool false) w4)) ∧
  ((x12_1 == (1 : Int)) = false →
  R (.bool false) w4))))))
theorem coadjutorlaw27_awake.vc_eq (w : World) (R : Value → World → Prop) : fnV Try.prog Try.f15 (.at_ 3 2 (.k .nil) (.c .nil (.at_ 6 2 (.at_ 6 5 (.at_ 6 9 (.at_ 6 14 (.at_ 6 22 (.at_ 6 30 .nil .nil) .nil) .nil) .nil) .nil) .nil))) [] w R = coadjutorlaw27_awake.vc  w R := by kernel_rfl
theorem coadjutorlaw27_awake.calls {w : World} {R : Value → World → Prop} (h : coadjutorlaw27_awake.vc  w R) : Calls Try.prog 15 #[] w (Ret R) :=
  calls_V fit Try.func15 (.at_ 3 2 (.k .nil) (.c .nil (.at_ 6 2 (.at_ 6 5 (.at_ 6 9 (.at_ 6 14 (.at_ 6 22 (.at_ 6 30 .nil .nil) .nil) .nil) .nil) .nil) .nil))) (by rw [show (#[] : Array Value).toList = [] from rfl, coadjutorlaw27_awake.vc_eq]; exact h)
/-- function 5 -/
def coadjutorlaw27_HealthAnew.vc (window : Int) (limit : Int) (aheadA : Option Addr) (aheadN : Nat) (aheadC : Nat) (listA : Option Addr) (listN : Nat) (listC : Nat) (w : World) (R : Value → World → Prop) : Prop :=
  Calls Try.prog 15 #[] w (Ret fun v w1 => ∃ (x19 : Bool), v = (.bool x19) ∧
  ((!x19) = true →
  R (.bool false) w1) ∧
  ((!x19) = false →
  (decide (((aheadN : Nat) : Int) > (40 : Int)) = true →
  R (.bool true) w1) ∧
  (decide (((aheadN : Nat) : Int) > (40 : Int)) = false →
  (decide (((listN : Nat) : Int) > (40 : Int)) = true →
  R (.bool true) w1) ∧
  (decide (((listN : Nat) : Int) > (40 : Int)) = false →
  (100 : Int) ≠ 0 ∧
  (IntKind.u64.wrap (IntKind.i64.wrap (1 + (IntKind.i64.wrap (Int.tmod (IntKind.u64.wrap window) 100))))) ≠ 0 ∧
  Calls Try.prog 16 #[(.int .i64 (IntKind.i64.wrap (1 + (IntKind.i64.wrap (Int.tmod (IntKind.u64.wrap window) 100))))), (.int .i64 (IntKind.i64.wrap (1 + (IntKind.i64.wrap (Int.tmod (IntKind.u64.wrap limit) (IntKind.u64.wrap (IntKind.i64.wrap (1 + (IntKind.i64.wrap (Int.tmod (IntKind.u64.wrap window) 100))))))))))] w1 (Ret fun v_1 w2 => ∃ (x44_0 : Option Addr), ∃ (x44_1 : Int), v_1 = (.tuple #[(.pointer x44_0), (.int .i64 x44_1)]) ∧
  Calls Try.prog 16 #[(.int .i64 (IntKind.i64.wrap (1 + (IntKind.i64.wrap (Int.tmod (IntKind.u64.wrap window) 100))))), (.int .i64 (IntKind.i64.wrap (1 + (IntKind.i64.wrap (Int.tmod (IntKind.u64.wrap limit) (IntKind.u64.wrap (IntKind.i64.wrap (1 + (IntKind.i64.wrap (Int.tmod (IntKind.u64.wrap window) 100))))))))))] w2 (Ret fun v_2 w3 => ∃ (x50_0 : Option Addr), ∃ (x50_1 : Int), v_2 = (.tuple #[(.pointer x50_0), (.int .i64 x50_1)]) ∧
  ((x44_1 != (0 : Int)) = true →
  R (.bool false) w3) ∧
  ((x44_1 != (0 : Int)) = false →
  ((x50_1 != (0 : Int)) = true →
  R (.bool false) w3) ∧
  ((x50_1 != (0 : Int)) = false →
  Calls Try.prog 17 #[(.pointer x44_0), (.slice aheadA aheadN aheadC)] w3 (Ret fun v_3 w4 => ∃ (x61_0 : Bool), ∃ (x61_1 : Int), v_3 = (.tuple #[(.bool x61_0), (.int .i64 x61_1)]) ∧
  Calls Try.prog 21 #[(.pointer x44_0)] w4 (Ret fun v_4 w5 => v_4 = .tuple #[] ∧
  someV x44_0 fun p =>
  ∃ (x670 : Int), ∃ (x671 : Int), (w5.cell? p = some (.int .i64 x670) ∧ w5.cell? (p.add 1) = some (.int .i64 x671)) ∧
  Calls Try.prog 23 #[(.agg #[(.int .i64 x670), (.int .i64 x671)])] w5 (Ret fun v_5 w6 => ∃ (x68 : Int), v_5 = (.int .i64 x68) ∧
  ((x68 != (0 : Int)) = true →
  R (.bool false) w6) ∧
  ((x68 != (0 : Int)) = false →
  Calls Try.prog 19 #[(.pointer x44_0)] w6 (Ret fun v_6 w7 => ∃ (x72 : Int), v_6 = (.int .i64 x72) ∧
  ((x72 != (0 : Int)) = true →
  R (.bool false) w7) ∧
  ((x72 != (0 : Int)) = false →
  Calls Try.prog 18 #[(.pointer x44_0)] w7 (Ret fun v_7 w8 => ∃ (x77 : Bool), v_7 = (.bool x77) ∧
  (x77 = true →
  R (.bool false) w8) ∧
  (x77 = false →
  Calls Try.prog 17 #[(.pointer x44_0), (.slice listA listN listC)] w8 (Ret fun v_8 w9 => ∃ (x82_0 : Bool), ∃ (x82_1 : Int), v_8 = (.tuple #[(.bool x82_0), (.int .i64 x82_1)]) ∧
  Calls Try.prog 17 #[(.pointer x50_0), (.slice listA listN listC)] w9 (Ret fun v_9 w10 => ∃ (x88_0 : Bool), ∃ (x88_1 : Int), v_9 = (.tuple #[(.bool x88_0), (.int .i64 x88_1)]) ∧
  ∃ vS : World → Prop, ∀ w11 : World, w11 = w10.drew → vS w11 ∧
  ((x82_1 == (0 : Int)) = true →
  ((x88_1 == (0 : Int)) = true →
  ((x82_0 == x88_0) = true →
  someV x44_0 fun p_1 =>
  ∃ (x1060 : Int), ∃ (x1061 : Int), ((∀ w12, vS w12 → w12.cell? p_1 = some (.int .i64 x1060)) ∧ (∀ w12, vS w12 → w12.cell? (p_1.add 1) = some (.int .i64 x1061))) ∧
  someV x50_0 fun p_2 =>
  ∃ (x1100 : Int), ∃ (x1101 : Int), ((∀ w13, vS w13 → w13.cell? p_2 = some (.int .i64 x1100)) ∧ (∀ w13, vS w13 → w13.cell? (p_2.add 1) = some (.int .i64 x1101))) ∧
  (((x1060 == x1100) && ((x1061 == x1101) && true)) = true →
  Calls Try.prog 19 #[(.pointer x44_0)] w11 (Ret fun v_10 w14 => ∃ (x115 : Int), v_10 = (.int .i64 x115) ∧
  vS w14 ∧
  Calls Try.prog 19 #[(.pointer x50_0)] w14 (Ret fun v_11 w15 => ∃ (x117 : Int), v_11 = (.int .i64 x117) ∧
  vS w15 ∧
  ((x115 == x117) = true →
  Calls Try.prog 18 #[(.pointer x44_0)] w15 (Ret fun v_12 w16 => ∃ (x122 : Bool), v_12 = (.bool x122) ∧
  vS w16 ∧
  Calls Try.prog 18 #[(.pointer x50_0)] w16 (Ret fun v_13 w17 => ∃ (x124 : Bool), v_13 = (.bool x124) ∧
  vS w17 ∧
  R (.bool (x122 == x124)) w17))) ∧
  ((x115 == x117) = false →
  R (.bool false) w15)))) ∧
  (((x1060 == x1100) && ((x1061 == x1101) && true)) = false →
  R (.bool false) w11)) ∧
  ((x82_0 == x88_0) = false →
  R (.bool false) w11)) ∧
  ((x88_1 == (0 : Int)) = false →
  R (.bool false) w11)) ∧
  ((x82_1 == (0 : Int)) = false →
  R (.bool false) w11)))))))))))))))))))
theorem coadjutorlaw27_HealthAnew.vc_eq (window : Int) (limit : Int) (aheadA : Option Addr) (aheadN : Nat) (aheadC : Nat) (listA : Option Addr) (listN : Nat) (listC : Nat) (w : World) (R : Value → World → Prop) : fnV Try.prog Try.f5 (.c .nil (.at_ 3 3 (.k .nil) (.c .nil (.at_ 9 2 (.k .nil) (.c .nil (.at_ 13 6 (.k .nil) (.at_ 13 11 (.k .nil) (.c .nil (.tk 0 (.tk 1 (.tks 2 (.tk 3 (.tk 4 (.tk 5 (.tks 6 (.tk 7 (.tk 8 (.tk 9 (.tk 10 (.tks 11 (.tk 12 (.tk 13 (.tk 14 (.tk 15 (.tk 16 (.tk 17 (.tk 18 (.tk 19 (.tk 20 (.tk 21 (.tks 22 (.tk 23 (.tk 25 (.alt 24 (.alt 26 (.tk 27 (.tk 28 (.tks 29 (.tk 30 (.tk 32 (.alt 31 (.alt 33 (.tk 34 (.tk 35 (.tk 36 (.fin .nil)))) .nil) .nil))) (.tk 30 (.tk 31 (.tk 32 (.tk 33 (.tk 34 (.tk 35 (.tk 36 (.fin .nil))))))))))) .nil) .nil))) (.tk 23 (.tk 24 (.tk 25 (.tk 26 (.tk 27 (.tk 28 (.tk 29 (.tk 30 (.tk 31 (.tk 32 (.tk 33 (.tk 34 (.tk 35 (.tk 36 (.fin .nil)))))))))))))))))))))))))) (.tk 12 (.tk 13 (.tk 14 (.tk 15 (.tk 16 (.tk 17 (.tk 18 (.tk 19 (.tk 20 (.tk 21 (.tk 22 (.tk 23 (.tk 24 (.tk 25 (.tk 26 (.tk 27 (.tk 28 (.tk 29 (.tk 30 (.tk 31 (.tk 32 (.tk 33 (.tk 34 (.tk 35 (.tk 36 (.fin .nil))))))))))))))))))))))))))))))) (.tk 7 (.tk 8 (.tk 9 (.tk 10 (.tk 11 (.tk 12 (.tk 13 (.tk 14 (.tk 15 (.tk 16 (.tk 17 (.tk 18 (.tk 19 (.tk 20 (.tk 21 (.tk 22 (.tk 23 (.tk 24 (.tk 25 (.tk 26 (.tk 27 (.tk 28 (.tk 29 (.tk 30 (.tk 31 (.tk 32 (.tk 33 (.tk 34 (.tk 35 (.tk 36 (.fin .nil))))))))))))))))))))))))))))))))))) (.tk 3 (.tk 4 (.tk 5 (.tk 6 (.tk 7 (.tk 8 (.tk 9 (.tk 10 (.tk 11 (.tk 12 (.tk 13 (.tk 14 (.tk 15 (.tk 16 (.tk 17 (.tk 18 (.tk 19 (.tk 20 (.tk 21 (.tk 22 (.tk 23 (.tk 24 (.tk 25 (.tk 26 (.tk 27 (.tk 28 (.tk 29 (.tk 30 (.tk 31 (.tk 32 (.tk 33 (.tk 34 (.tk 35 (.tk 36 (.fin .nil)))))))))))))))))))))))))))))))))))))))))))))) [(.int .i64 window), (.int .i64 limit), (.slice aheadA aheadN aheadC), (.slice listA listN listC)] w R = coadjutorlaw27_HealthAnew.vc window limit aheadA aheadN aheadC listA listN listC w R := by kernel_rfl
theorem coadjutorlaw27_HealthAnew.calls (window : Int) (limit : Int) (aheadA : Option Addr) (aheadN : Nat) (aheadC : Nat) (listA : Option Addr) (listN : Nat) (listC : Nat) {w : World} {R : Value → World → Prop} (h : coadjutorlaw27_HealthAnew.vc window limit aheadA aheadN aheadC listA listN listC w R) : Calls Try.prog 5 #[(.int .i64 window), (.int .i64 limit), (.slice aheadA aheadN aheadC), (.slice listA listN listC)] w (Ret R) :=
  calls_V fit Try.func5 (.c .nil (.at_ 3 3 (.k .nil) (.c .nil (.at_ 9 2 (.k .nil) (.c .nil (.at_ 13 6 (.k .nil) (.at_ 13 11 (.k .nil) (.c .nil (.tk 0 (.tk 1 (.tks 2 (.tk 3 (.tk 4 (.tk 5 (.tks 6 (.tk 7 (.tk 8 (.tk 9 (.tk 10 (.tks 11 (.tk 12 (.tk 13 (.tk 14 (.tk 15 (.tk 16 (.tk 17 (.tk 18 (.tk 19 (.tk 20 (.tk 21 (.tks 22 (.tk 23 (.tk 25 (.alt 24 (.alt 26 (.tk 27 (.tk 28 (.tks 29 (.tk 30 (.tk 32 (.alt 31 (.alt 33 (.tk 34 (.tk 35 (.tk 36 (.fin .nil)))) .nil) .nil))) (.tk 30 (.tk 31 (.tk 32 (.tk 33 (.tk 34 (.tk 35 (.tk 36 (.fin .nil))))))))))) .nil) .nil))) (.tk 23 (.tk 24 (.tk 25 (.tk 26 (.tk 27 (.tk 28 (.tk 29 (.tk 30 (.tk 31 (.tk 32 (.tk 33 (.tk 34 (.tk 35 (.tk 36 (.fin .nil)))))))))))))))))))))))))) (.tk 12 (.tk 13 (.tk 14 (.tk 15 (.tk 16 (.tk 17 (.tk 18 (.tk 19 (.tk 20 (.tk 21 (.tk 22 (.tk 23 (.tk 24 (.tk 25 (.tk 26 (.tk 27 (.tk 28 (.tk 29 (.tk 30 (.tk 31 (.tk 32 (.tk 33 (.tk 34 (.tk 35 (.tk 36 (.fin .nil))))))))))))))))))))))))))))))) (.tk 7 (.tk 8 (.tk 9 (.tk 10 (.tk 11 (.tk 12 (.tk 13 (.tk 14 (.tk 15 (.tk 16 (.tk 17 (.tk 18 (.tk 19 (.tk 20 (.tk 21 (.tk 22 (.tk 23 (.tk 24 (.tk 25 (.tk 26 (.tk 27 (.tk 28 (.tk 29 (.tk 30 (.tk 31 (.tk 32 (.tk 33 (.tk 34 (.tk 35 (.tk 36 (.fin .nil))))))))))))))))))))))))))))))))))) (.tk 3 (.tk 4 (.tk 5 (.tk 6 (.tk 7 (.tk 8 (.tk 9 (.tk 10 (.tk 11 (.tk 12 (.tk 13 (.tk 14 (.tk 15 (.tk 16 (.tk 17 (.tk 18 (.tk 19 (.tk 20 (.tk 21 (.tk 22 (.tk 23 (.tk 24 (.tk 25 (.tk 26 (.tk 27 (.tk 28 (.tk 29 (.tk 30 (.tk 31 (.tk 32 (.tk 33 (.tk 34 (.tk 35 (.tk 36 (.fin .nil)))))))))))))))))))))))))))))))))))))))))))))) (by rw [show (#[(.int .i64 window), (.int .i64 limit), (.slice aheadA aheadN aheadC), (.slice listA listN listC)] : Array Value).toList = [(.int .i64 window), (.int .i64 limit), (.slice aheadA aheadN aheadC), (.slice listA listN listC)] from rfl, coadjutorlaw27_HealthAnew.vc_eq]; exact h)
/-- function 4 -/
def coadjutorlaw27_HealthExact.vc (window : Int) (limit : Int) (rowsA : Option Addr) (rowsN : Nat) (rowsC : Nat) (w : World) (R : Value → World → Prop) : Prop :=
  Calls Try.prog 15 #[] w (Ret fun v w1 => ∃ (x19 : Bool), v = (.bool x19) ∧
  ((!x19) = true →
  R (.bool false) w1) ∧
  ((!x19) = false →
  Calls Try.prog 16 #[(.int .i64 window), (.int .i64 limit)] w1 (Ret fun v_1 w2 => ∃ (x24_0 : Option Addr), ∃ (x24_1 : Int), v_1 = (.tuple #[(.pointer x24_0), (.int .i64 x24_1)]) ∧
  (decide (window < (1 : Int)) = true →
  (x24_0.isNone = true →
  R (.bool (x24_1 == (1 : Int))) w2) ∧
  (x24_0.isNone = false →
  R (.bool false) w2)) ∧
  (decide (window < (1 : Int)) = false →
  (decide (window > (100 : Int)) = true →
  (x24_0.isNone = true →
  R (.bool (x24_1 == (1 : Int))) w2) ∧
  (x24_0.isNone = false →
  R (.bool false) w2)) ∧
  (decide (window > (100 : Int)) = false →
  (decide (limit < (1 : Int)) = true →
  (x24_0.isNone = true →
  R (.bool (x24_1 == (1 : Int))) w2) ∧
  (x24_0.isNone = false →
  R (.bool false) w2)) ∧
  (decide (limit < (1 : Int)) = false →
  (decide (limit > window) = true →
  (x24_0.isNone = true →
  R (.bool (x24_1 == (1 : Int))) w2) ∧
  (x24_0.isNone = false →
  R (.bool false) w2)) ∧
  (decide (limit > window) = false →
  ((x24_1 != (0 : Int)) = true →
  R (.bool false) w2) ∧
  ((x24_1 != (0 : Int)) = false →
  ∀ w3 : World, w3 = w2.alloc (.cells #[] 4 (0, 0)) →
  ∃ vI : Option Addr → Nat → Nat → Int → Nat → World → Prop, (∃ vk_2 : Nat, vI (some (⟨w2.heap.size, 0, none⟩ : Addr)) 0 0 0 vk_2 w3) ∧
  ∀ (jk : Nat → Value) (allA : Option Addr) (allN : Nat) (allC : Nat) (i : Int), ∀ (vk : Nat) (w4 : World), vI allA allN allC i vk w4 →
  (decide (i < ((rowsN : Nat) : Int)) = true →
  (decide (i < (40 : Int)) = true →
  (0 ≤ i ∧ i < ((rowsN : Nat) : Int)) ∧ someV rowsA fun p =>
  ∃ (x64A : Option Addr), ∃ (x64N : Nat), ∃ (x64C : Nat), w4.cell? (p.add (i.toNat * 1)) = some (.slice x64A x64N x64C) ∧
  (decide (((x64N : Nat) : Int) > (20 : Int)) = true →
  R (.bool true) w4) ∧
  (decide (((x64N : Nat) : Int) > (20 : Int)) = false →
  ∃ vI_1 : Option Addr → Nat → Nat → Bool → Int → Nat → World → Prop, (∃ vk_5 : Nat, vI_1 allA allN allC false 0 vk_5 w4) ∧
  ∀ (jk : Nat → Value) (allA_1 : Option Addr) (allN_1 : Nat) (allC_1 : Nat) (over : Bool) (vk_6 : Int), ∀ (vk_3 : Nat) (w5 : World), vI_1 allA_1 allN_1 allC_1 over vk_6 vk_3 w5 →
  (0 ≤ i ∧ i < ((rowsN : Nat) : Int)) ∧ someV rowsA fun p_1 =>
  ∃ (x71A : Option Addr), ∃ (x71N : Nat), ∃ (x71C : Nat), w5.cell? (p_1.add (i.toNat * 1)) = some (.slice x71A x71N x71C) ∧
  (decide (vk_6 < ((x71N : Nat) : Int)) = true →
  (0 ≤ i ∧ i < ((rowsN : Nat) : Int)) ∧ someV rowsA fun p_2 =>
  ∃ (x80A : Option Addr), ∃ (x80N : Nat), ∃ (x80C : Nat), w5.cell? (p_2.add (i.toNat * 1)) = some (.slice x80A x80N x80C) ∧
  (0 ≤ vk_6 ∧ vk_6 < ((x80N : Nat) : Int)) ∧ someV x80A fun p_3 =>
  ∃ (x83 : Bool), w5.cell? (p_3.add (vk_6.toNat * 1)) = some (.bool x83) ∧
  ∀ w6 : World, w6 = w5.alloc (.cells #[(.bool x83)] 4 (0, 0)) →
  ∃ (x85A : Option Addr), ∃ (x85N : Nat), ∃ (x85C : Nat), ∃ w7 : World, (Builtin.append_ #[22, 22] 22 #[(.slice allA_1 allN_1 allC_1), (.slice (some (⟨w5.heap.size, 0, none⟩ : Addr)) 1 1)]).run Try.prog w6 = .ok (.slice x85A x85N x85C) w7 ∧
  (over = true →
  ∃ vk_4 : Nat, vk_4 < vk_3 ∧ vI_1 x85A x85N x85C true (IntKind.i64.wrap (vk_6 + 1)) vk_4 w7) ∧
  (over = false →
  Calls Try.prog 20 #[(.slice x85A x85N x85C), (.int .i64 window)] w7 (Ret fun v_2 w8 => ∃ (x90 : Int), v_2 = (.int .i64 x90) ∧
  ∃ vk_4 : Nat, vk_4 < vk_3 ∧ vI_1 x85A x85N x85C (decide (x90 ≥ limit)) (IntKind.i64.wrap (vk_6 + 1)) vk_4 w8))) ∧
  (decide (vk_6 < ((x71N : Nat) : Int)) = false →
  (0 ≤ i ∧ i < ((rowsN : Nat) : Int)) ∧ someV rowsA fun p_4 =>
  ∃ (x99A : Option Addr), ∃ (x99N : Nat), ∃ (x99C : Nat), w5.cell? (p_4.add (i.toNat * 1)) = some (.slice x99A x99N x99C) ∧
  Calls Try.prog 17 #[(.pointer x24_0), (.slice x99A x99N x99C)] w5 (Ret fun v_3 w9 => ∃ (x100_0 : Bool), ∃ (x100_1 : Int), v_3 = (.tuple #[(.bool x100_0), (.int .i64 x100_1)]) ∧
  ((!(x100_0 == over)) = true →
  R (.bool false) w9) ∧
  ((!(x100_0 == over)) = false →
  ((x100_1 != (0 : Int)) = true →
  R (.bool false) w9) ∧
  ((x100_1 != (0 : Int)) = false →
  ∃ J : Option Addr → Nat → Nat → World → Prop, ((0 ≤ i ∧ i < ((rowsN : Nat) : Int)) ∧ someV rowsA fun p_5 =>
  ∃ (x113A : Option Addr), ∃ (x113N : Nat), ∃ (x113C : Nat), w9.cell? (p_5.add (i.toNat * 1)) = some (.slice x113A x113N x113C) ∧
  ((((x113N : Nat) : Int) == (0 : Int)) = true →
  Calls Try.prog 21 #[(.pointer x24_0)] w9 (Ret fun v_4 w10 => v_4 = .tuple #[] ∧
  J none 0 0 w10)) ∧
  ((((x113N : Nat) : Int) == (0 : Int)) = false →
  J allA_1 allN_1 allC_1 w9)) ∧
  ∀ (jk : Nat → Value) (allA_2 : Option Addr) (allN_2 : Nat) (allC_2 : Nat), ∀ w11 : World, J allA_2 allN_2 allC_2 w11 →
  Calls Try.prog 20 #[(.slice allA_2 allN_2 allC_2), (.int .i64 window)] w11 (Ret fun v_5 w12 => ∃ (x120 : Int), v_5 = (.int .i64 x120) ∧
  ∃ vS : World → Prop, ∀ w13 : World, w13 = w12.drew → vS w13 ∧
  Calls Try.prog 19 #[(.pointer x24_0)] w13 (Ret fun v_6 w14 => ∃ (x122 : Int), v_6 = (.int .i64 x122) ∧
  vS w14 ∧
  ((x122 != x120) = true →
  R (.bool false) w14) ∧
  ((x122 != x120) = false →
  Calls Try.prog 18 #[(.pointer x24_0)] w14 (Ret fun v_7 w15 => ∃ (x127 : Bool), v_7 = (.bool x127) ∧
  vS w15 ∧
  ((!(x127 == (decide (x120 ≥ limit)))) = true →
  R (.bool false) w15) ∧
  ((!(x127 == (decide (x120 ≥ limit)))) = false →
  someV x24_0 fun p_6 =>
  ∃ (x138 : Int), (∀ w16, vS w16 → w16.cell? p_6 = some (.int .i64 x138)) ∧
  Calls Try.prog 22 #[(.slice allA_2 allN_2 allC_2), (.bool true)] w15 (Ret fun v_8 w17 => ∃ (x140 : Int), v_8 = (.int .i64 x140) ∧
  vS w17 ∧
  ((x138 != x140) = true →
  R (.bool false) w17) ∧
  ((x138 != x140) = false →
  someV x24_0 fun p_7 =>
  ∃ (x148 : Int), (∀ w18, vS w18 → w18.cell? (p_7.add 1) = some (.int .i64 x148)) ∧
  Calls Try.prog 22 #[(.slice allA_2 allN_2 allC_2), (.bool false)] w17 (Ret fun v_9 w19 => ∃ (x150 : Int), v_9 = (.int .i64 x150) ∧
  vS w19 ∧
  ((x148 != x150) = true →
  R (.bool false) w19) ∧
  ((x148 != x150) = false →
  someV x24_0 fun p_8 =>
  ∃ (x1570 : Int), ∃ (x1571 : Int), ((∀ w20, vS w20 → w20.cell? p_8 = some (.int .i64 x1570)) ∧ (∀ w20, vS w20 → w20.cell? (p_8.add 1) = some (.int .i64 x1571))) ∧
  Calls Try.prog 23 #[(.agg #[(.int .i64 x1570), (.int .i64 x1571)])] w19 (Ret fun v_10 w21 => ∃ (x158 : Int), v_10 = (.int .i64 x158) ∧
  vS w21 ∧
  ((x158 != ((allN_2 : Nat) : Int)) = true →
  R (.bool false) w21) ∧
  ((x158 != ((allN_2 : Nat) : Int)) = false →
  ∃ vk_1 : Nat, vk_1 < vk ∧ vI allA_2 allN_2 allC_2 (IntKind.i64.wrap (i + 1)) vk_1 w21))))))))))))))))) ∧
  (decide (i < (40 : Int)) = false →
  Calls Try.prog 21 #[(.pointer none)] w4 (Ret fun v_11 w22 => v_11 = .tuple #[] ∧
  ∀ w23 : World, w23 = w22.alloc (.cells #[(.bool true)] 4 (0, 0)) →
  Calls Try.prog 17 #[(.pointer none), (.slice (some (⟨w22.heap.size, 0, none⟩ : Addr)) 1 1)] w23 (Ret fun v_12 w24 => ∃ (x168_0 : Bool), ∃ (x168_1 : Int), v_12 = (.tuple #[(.bool x168_0), (.int .i64 x168_1)]) ∧
  ((x168_1 == (2 : Int)) = true →
  Calls Try.prog 19 #[(.pointer none)] w24 (Ret fun v_13 w25 => ∃ (x175 : Int), v_13 = (.int .i64 x175) ∧
  ((x175 == (0 : Int)) = true →
  Calls Try.prog 18 #[(.pointer none)] w25 (Ret fun v_14 w26 => ∃ (x180 : Bool), v_14 = (.bool x180) ∧
  R (.bool (!x180)) w26)) ∧
  ((x175 == (0 : Int)) = false →
  R (.bool false) w25))) ∧
  ((x168_1 == (2 : Int)) = false →
  R (.bool false) w24))))) ∧
  (decide (i < ((rowsN : Nat) : Int)) = false →
  Calls Try.prog 21 #[(.pointer none)] w4 (Ret fun v_15 w27 => v_15 = .tuple #[] ∧
  ∀ w28 : World, w28 = w27.alloc (.cells #[(.bool true)] 4 (0, 0)) →
  Calls Try.prog 17 #[(.pointer none), (.slice (some (⟨w27.heap.size, 0, none⟩ : Addr)) 1 1)] w28 (Ret fun v_16 w29 => ∃ (x168_0_1 : Bool), ∃ (x168_1_1 : Int), v_16 = (.tuple #[(.bool x168_0_1), (.int .i64 x168_1_1)]) ∧
  ((x168_1_1 == (2 : Int)) = true →
  Calls Try.prog 19 #[(.pointer none)] w29 (Ret fun v_17 w30 => ∃ (x175_1 : Int), v_17 = (.int .i64 x175_1) ∧
  ((x175_1 == (0 : Int)) = true →
  Calls Try.prog 18 #[(.pointer none)] w30 (Ret fun v_18 w31 => ∃ (x180_1 : Bool), v_18 = (.bool x180_1) ∧
  R (.bool (!x180_1)) w31)) ∧
  ((x175_1 == (0 : Int)) = false →
  R (.bool false) w30))) ∧
  ((x168_1_1 == (2 : Int)) = false →
  R (.bool false) w29))))))))))))
theorem coadjutorlaw27_HealthExact.vc_eq (window : Int) (limit : Int) (rowsA : Option Addr) (rowsN : Nat) (rowsC : Nat) (w : World) (R : Value → World → Prop) : fnV Try.prog Try.f4 (.c .nil (.at_ 4 2 (.k (.at_ 5 2 .nil .nil)) (.at_ 4 6 (.k (.at_ 5 2 .nil .nil)) (.at_ 4 10 (.k (.at_ 5 2 .nil .nil)) (.c (.at_ 5 2 .nil .nil) (.c .nil (.lp [(6, none), (9, some (.slice)), (10, some (.int .i64)), (11, none), (12, none), (13, none), (14, none), (15, none), (51, none), (52, none), (53, none), (54, none), (55, none), (56, none), (57, none), (58, none), (59, none), (60, none), (61, none), (62, none), (63, none), (64, none), (65, none), (66, none), (67, none), (68, none), (69, none), (70, none), (71, none), (72, none), (73, none), (74, none), (75, none), (76, none), (77, none), (78, none), (79, none), (80, none), (81, none), (82, none), (83, none), (84, none), (85, none), (86, none), (87, none), (88, none), (89, none), (90, none), (91, none), (92, none), (93, none), (94, none), (95, none), (96, none), (97, none), (98, none), (99, none), (100, none), (101, none), (102, none), (103, none), (104, none), (105, none), (106, none), (107, none), (108, none), (109, none), (110, none), (111, none), (112, none), (113, none), (114, none), (115, none), (116, none), (117, none), (118, none), (119, none), (120, none), (121, none), (122, none), (123, none), (124, none), (125, none), (126, none), (127, none), (128, none), (129, none), (130, none), (131, none), (132, none), (133, none), (134, none), (135, none), (136, none), (137, none), (138, none), (139, none), (140, none), (141, none), (142, none), (143, none), (144, none), (145, none), (146, none), (147, none), (148, none), (149, none), (150, none), (151, none), (152, none), (153, none), (154, none), (155, none), (156, none), (157, none), (158, none), (159, none), (160, none), (161, none), (162, none)] (.at_ 10 4 (.c (.c .nil (.lp [(9, some (.slice)), (11, some (.bool)), (12, some (.int .i64)), (67, none), (68, none), (69, none), (70, none), (71, none), (72, none), (73, none), (74, none), (75, none), (76, none), (77, none), (78, none), (79, none), (80, none), (81, none), (82, none), (83, none), (84, none), (85, none), (86, none), (87, none), (88, none), (89, none), (90, none), (91, none), (92, none), (93, none)] (.c (.at_ 19 1 .nil .nil) (.at_ 21 3 (.k .nil) (.c .nil (.cut 0 [(9, some (.slice)), (110, none), (111, none), (112, none), (113, none), (114, none), (115, none), (116, none), (117, none)] (.c .nil .nil) (.tk 0 (.tk 2 (.alt 1 (.tk 3 (.tks 4 (.tk 5 (.tk 6 (.tk 7 (.tk 8 (.tk 9 (.tk 10 (.tk 11 (.tk 12 (.tk 13 (.tk 14 (.tk 15 (.tk 16 (.tk 17 (.tk 18 (.tk 19 (.tk 20 (.tk 21 (.tk 22 (.tk 23 (.tk 24 (.tk 25 (.tk 26 (.tk 27 (.tk 28 (.tk 29 (.tk 30 (.tk 31 (.tk 32 (.tk 33 (.tk 34 (.tk 35 (.tk 36 (.tk 37 (.tk 38 (.tk 39 (.tk 40 (.tk 41 (.fin (.k .nil))))))))))))))))))))))))))))))))))))))) (.tk 5 (.tk 7 (.tk 8 (.tk 9 (.alt 6 (.tk 10 (.tk 11 (.tks 12 (.tk 13 (.tk 14 (.tk 15 (.tk 16 (.tk 17 (.tk 18 (.tk 19 (.tk 20 (.tk 21 (.tk 22 (.tk 23 (.tk 24 (.tk 25 (.tk 26 (.tk 27 (.tk 28 (.tk 29 (.tk 30 (.tk 31 (.tk 32 (.tk 33 (.tk 34 (.tk 35 (.tk 36 (.tk 37 (.tk 38 (.tk 39 (.tk 40 (.tk 41 (.fin (.k .nil))))))))))))))))))))))))))))))) (.tk 13 (.tk 14 (.tk 15 (.tk 16 (.tk 17 (.tk 18 (.alt 19 (.tk 20 (.tk 21 (.tks 22 (.tk 23 (.tk 24 (.tk 25 (.tk 26 (.tk 27 (.tk 28 (.tk 29 (.tk 30 (.tk 31 (.tk 32 (.tk 33 (.tk 34 (.tk 35 (.tk 36 (.tk 37 (.tk 38 (.tk 39 (.tk 40 (.tk 41 (.fin (.k .nil))))))))))))))))))))) (.tk 23 (.tk 24 (.tk 25 (.tk 26 (.tk 27 (.tk 28 (.alt 29 (.tk 30 (.tk 31 (.tks 32 (.tk 33 (.tk 34 (.tk 35 (.tk 36 (.tk 37 (.tk 38 (.tk 39 (.tk 40 (.tk 41 (.fin (.k .nil))))))))))) (.tk 33 (.tk 34 (.tk 35 (.tk 36 (.tk 38 (.tk 39 (.alt 37 (.tk 40 (.tk 41 (.fin (.c .nil .nil)))) .nil)))))))))) .nil)))))))))) .nil)))))))))) .nil))))))) .nil))))))))) (.at_ 32 2 (.at_ 32 7 .nil .nil) .nil)) (.k (.at_ 32 2 (.at_ 32 7 .nil .nil) .nil)))))))))) [(.int .i64 window), (.int .i64 limit), (.slice rowsA rowsN rowsC)] w R = coadjutorlaw27_HealthExact.vc window limit rowsA rowsN rowsC w R := by kernel_rfl
theorem coadjutorlaw27_HealthExact.calls (window : Int) (limit : Int) (rowsA : Option Addr) (rowsN : Nat) (rowsC : Nat) {w : World} {R : Value → World → Prop} (h : coadjutorlaw27_HealthExact.vc window limit rowsA rowsN rowsC w R) : Calls Try.prog 4 #[(.int .i64 window), (.int .i64 limit), (.slice rowsA rowsN rowsC)] w (Ret R) :=
  calls_V fit Try.func4 (.c .nil (.at_ 4 2 (.k (.at_ 5 2 .nil .nil)) (.at_ 4 6 (.k (.at_ 5 2 .nil .nil)) (.at_ 4 10 (.k (.at_ 5 2 .nil .nil)) (.c (.at_ 5 2 .nil .nil) (.c .nil (.lp [(6, none), (9, some (.slice)), (10, some (.int .i64)), (11, none), (12, none), (13, none), (14, none), (15, none), (51, none), (52, none), (53, none), (54, none), (55, none), (56, none), (57, none), (58, none), (59, none), (60, none), (61, none), (62, none), (63, none), (64, none), (65, none), (66, none), (67, none), (68, none), (69, none), (70, none), (71, none), (72, none), (73, none), (74, none), (75, none), (76, none), (77, none), (78, none), (79, none), (80, none), (81, none), (82, none), (83, none), (84, none), (85, none), (86, none), (87, none), (88, none), (89, none), (90, none), (91, none), (92, none), (93, none), (94, none), (95, none), (96, none), (97, none), (98, none), (99, none), (100, none), (101, none), (102, none), (103, none), (104, none), (105, none), (106, none), (107, none), (108, none), (109, none), (110, none), (111, none), (112, none), (113, none), (114, none), (115, none), (116, none), (117, none), (118, none), (119, none), (120, none), (121, none), (122, none), (123, none), (124, none), (125, none), (126, none), (127, none), (128, none), (129, none), (130, none), (131, none), (132, none), (133, none), (134, none), (135, none), (136, none), (137, none), (138, none), (139, none), (140, none), (141, none), (142, none), (143, none), (144, none), (145, none), (146, none), (147, none), (148, none), (149, none), (150, none), (151, none), (152, none), (153, none), (154, none), (155, none), (156, none), (157, none), (158, none), (159, none), (160, none), (161, none), (162, none)] (.at_ 10 4 (.c (.c .nil (.lp [(9, some (.slice)), (11, some (.bool)), (12, some (.int .i64)), (67, none), (68, none), (69, none), (70, none), (71, none), (72, none), (73, none), (74, none), (75, none), (76, none), (77, none), (78, none), (79, none), (80, none), (81, none), (82, none), (83, none), (84, none), (85, none), (86, none), (87, none), (88, none), (89, none), (90, none), (91, none), (92, none), (93, none)] (.c (.at_ 19 1 .nil .nil) (.at_ 21 3 (.k .nil) (.c .nil (.cut 0 [(9, some (.slice)), (110, none), (111, none), (112, none), (113, none), (114, none), (115, none), (116, none), (117, none)] (.c .nil .nil) (.tk 0 (.tk 2 (.alt 1 (.tk 3 (.tks 4 (.tk 5 (.tk 6 (.tk 7 (.tk 8 (.tk 9 (.tk 10 (.tk 11 (.tk 12 (.tk 13 (.tk 14 (.tk 15 (.tk 16 (.tk 17 (.tk 18 (.tk 19 (.tk 20 (.tk 21 (.tk 22 (.tk 23 (.tk 24 (.tk 25 (.tk 26 (.tk 27 (.tk 28 (.tk 29 (.tk 30 (.tk 31 (.tk 32 (.tk 33 (.tk 34 (.tk 35 (.tk 36 (.tk 37 (.tk 38 (.tk 39 (.tk 40 (.tk 41 (.fin (.k .nil))))))))))))))))))))))))))))))))))))))) (.tk 5 (.tk 7 (.tk 8 (.tk 9 (.alt 6 (.tk 10 (.tk 11 (.tks 12 (.tk 13 (.tk 14 (.tk 15 (.tk 16 (.tk 17 (.tk 18 (.tk 19 (.tk 20 (.tk 21 (.tk 22 (.tk 23 (.tk 24 (.tk 25 (.tk 26 (.tk 27 (.tk 28 (.tk 29 (.tk 30 (.tk 31 (.tk 32 (.tk 33 (.tk 34 (.tk 35 (.tk 36 (.tk 37 (.tk 38 (.tk 39 (.tk 40 (.tk 41 (.fin (.k .nil))))))))))))))))))))))))))))))) (.tk 13 (.tk 14 (.tk 15 (.tk 16 (.tk 17 (.tk 18 (.alt 19 (.tk 20 (.tk 21 (.tks 22 (.tk 23 (.tk 24 (.tk 25 (.tk 26 (.tk 27 (.tk 28 (.tk 29 (.tk 30 (.tk 31 (.tk 32 (.tk 33 (.tk 34 (.tk 35 (.tk 36 (.tk 37 (.tk 38 (.tk 39 (.tk 40 (.tk 41 (.fin (.k .nil))))))))))))))))))))) (.tk 23 (.tk 24 (.tk 25 (.tk 26 (.tk 27 (.tk 28 (.alt 29 (.tk 30 (.tk 31 (.tks 32 (.tk 33 (.tk 34 (.tk 35 (.tk 36 (.tk 37 (.tk 38 (.tk 39 (.tk 40 (.tk 41 (.fin (.k .nil))))))))))) (.tk 33 (.tk 34 (.tk 35 (.tk 36 (.tk 38 (.tk 39 (.alt 37 (.tk 40 (.tk 41 (.fin (.c .nil .nil)))) .nil)))))))))) .nil)))))))))) .nil)))))))))) .nil))))))) .nil))))))))) (.at_ 32 2 (.at_ 32 7 .nil .nil) .nil)) (.k (.at_ 32 2 (.at_ 32 7 .nil .nil) .nil)))))))))) (by rw [show (#[(.int .i64 window), (.int .i64 limit), (.slice rowsA rowsN rowsC)] : Array Value).toList = [(.int .i64 window), (.int .i64 limit), (.slice rowsA rowsN rowsC)] from rfl, coadjutorlaw27_HealthExact.vc_eq]; exact h)
/-- function 3 -/
def coadjutorlaw27_HealthHeals.vc (window : Int) (limit : Int) (listA : Option Addr) (listN : Nat) (listC : Nat) (w : World) (R : Value → World → Prop) : Prop :=
  Calls Try.prog 15 #[] w (Ret fun v w1 => ∃ (x20 : Bool), v = (.bool x20) ∧
  ((!x20) = true →
  R (.bool false) w1) ∧
  ((!x20) = false →
  (decide (((listN : Nat) : Int) > (60 : Int)) = true →
  R (.bool true) w1) ∧
  (decide (((listN : Nat) : Int) > (60 : Int)) = false →
  (100 : Int) ≠ 0 ∧
  (IntKind.u64.wrap (IntKind.i64.wrap (1 + (IntKind.i64.wrap (Int.tmod (IntKind.u64.wrap window) 100))))) ≠ 0 ∧
  Calls Try.prog 16 #[(.int .i64 (IntKind.i64.wrap (1 + (IntKind.i64.wrap (Int.tmod (IntKind.u64.wrap window) 100))))), (.int .i64 (IntKind.i64.wrap (1 + (IntKind.i64.wrap (Int.tmod (IntKind.u64.wrap limit) (IntKind.u64.wrap (IntKind.i64.wrap (1 + (IntKind.i64.wrap (Int.tmod (IntKind.u64.wrap window) 100))))))))))] w1 (Ret fun v_1 w2 => ∃ (x40_0 : Option Addr), ∃ (x40_1 : Int), v_1 = (.tuple #[(.pointer x40_0), (.int .i64 x40_1)]) ∧
  Calls Try.prog 16 #[(.int .i64 (IntKind.i64.wrap (1 + (IntKind.i64.wrap (Int.tmod (IntKind.u64.wrap window) 100))))), (.int .i64 (IntKind.i64.wrap (1 + (IntKind.i64.wrap (Int.tmod (IntKind.u64.wrap limit) (IntKind.u64.wrap (IntKind.i64.wrap (1 + (IntKind.i64.wrap (Int.tmod (IntKind.u64.wrap window) 100))))))))))] w2 (Ret fun v_2 w3 => ∃ (x46_0 : Option Addr), ∃ (x46_1 : Int), v_2 = (.tuple #[(.pointer x46_0), (.int .i64 x46_1)]) ∧
  ((x40_1 != (0 : Int)) = true →
  R (.bool false) w3) ∧
  ((x40_1 != (0 : Int)) = false →
  ((x46_1 != (0 : Int)) = true →
  R (.bool false) w3) ∧
  ((x46_1 != (0 : Int)) = false →
  ∃ vI : Bool → Int → Nat → World → Prop, (∃ vk_2 : Nat, vI false 0 vk_2 w3) ∧
  ∀ (jk : Nat → Value) (over : Bool) (i : Int), ∀ (vk : Nat) (w4 : World), vI over i vk w4 →
  (decide (i < ((listN : Nat) : Int)) = true →
  (0 ≤ i ∧ i < ((listN : Nat) : Int)) ∧ someV listA fun p =>
  ∃ (x66 : Bool), w4.cell? (p.add (i.toNat * 1)) = some (.bool x66) ∧
  ∀ w5 : World, w5 = w4.alloc (.cells #[(.bool x66)] 4 (0, 0)) →
  Calls Try.prog 17 #[(.pointer x40_0), (.slice (some (⟨w4.heap.size, 0, none⟩ : Addr)) 1 1)] w5 (Ret fun v_3 w6 => ∃ (x68_0 : Bool), ∃ (x68_1 : Int), v_3 = (.tuple #[(.bool x68_0), (.int .i64 x68_1)]) ∧
  ((x68_1 != (0 : Int)) = true →
  R (.bool false) w6) ∧
  ((x68_1 != (0 : Int)) = false →
  Calls Try.prog 18 #[(.pointer x40_0)] w6 (Ret fun v_4 w7 => ∃ (x76 : Bool), v_4 = (.bool x76) ∧
  ((!(x68_0 == x76)) = true →
  R (.bool false) w7) ∧
  ((!(x68_0 == x76)) = false →
  (x68_0 = true →
  Calls Try.prog 19 #[(.pointer x40_0)] w7 (Ret fun v_5 w8 => ∃ (x83 : Int), v_5 = (.int .i64 x83) ∧
  (decide (x83 < (IntKind.i64.wrap (1 + (IntKind.i64.wrap (Int.tmod (IntKind.u64.wrap limit) (IntKind.u64.wrap (IntKind.i64.wrap (1 + (IntKind.i64.wrap (Int.tmod (IntKind.u64.wrap window) 100)))))))))) = true →
  R (.bool false) w8) ∧
  (decide (x83 < (IntKind.i64.wrap (1 + (IntKind.i64.wrap (Int.tmod (IntKind.u64.wrap limit) (IntKind.u64.wrap (IntKind.i64.wrap (1 + (IntKind.i64.wrap (Int.tmod (IntKind.u64.wrap window) 100)))))))))) = false →
  (over = true →
  ∃ vk_1 : Nat, vk_1 < vk ∧ vI true (IntKind.i64.wrap (i + 1)) vk_1 w8) ∧
  (over = false →
  ∃ vk_1 : Nat, vk_1 < vk ∧ vI x68_0 (IntKind.i64.wrap (i + 1)) vk_1 w8)))) ∧
  (x68_0 = false →
  (over = true →
  ∃ vk_1 : Nat, vk_1 < vk ∧ vI true (IntKind.i64.wrap (i + 1)) vk_1 w7) ∧
  (over = false →
  ∃ vk_1 : Nat, vk_1 < vk ∧ vI x68_0 (IntKind.i64.wrap (i + 1)) vk_1 w7))))))) ∧
  (decide (i < ((listN : Nat) : Int)) = false →
  Calls Try.prog 17 #[(.pointer x46_0), (.slice listA listN listC)] w4 (Ret fun v_6 w9 => ∃ (x95_0 : Bool), ∃ (x95_1 : Int), v_6 = (.tuple #[(.bool x95_0), (.int .i64 x95_1)]) ∧
  ∃ vS : World → Prop, ∀ w10 : World, w10 = w9.drew → vS w10 ∧
  ((x95_1 != (0 : Int)) = true →
  R (.bool false) w10) ∧
  ((x95_1 != (0 : Int)) = false →
  ((!(x95_0 == over)) = true →
  R (.bool false) w10) ∧
  ((!(x95_0 == over)) = false →
  Calls Try.prog 19 #[(.pointer x40_0)] w10 (Ret fun v_7 w11 => ∃ (x107 : Int), v_7 = (.int .i64 x107) ∧
  vS w11 ∧
  Calls Try.prog 19 #[(.pointer x46_0)] w11 (Ret fun v_8 w12 => ∃ (x109 : Int), v_8 = (.int .i64 x109) ∧
  vS w12 ∧
  ((x107 != x109) = true →
  R (.bool false) w12) ∧
  ((x107 != x109) = false →
  someV x40_0 fun p_1 =>
  ∃ (x1160 : Int), ∃ (x1161 : Int), ((∀ w13, vS w13 → w13.cell? p_1 = some (.int .i64 x1160)) ∧ (∀ w13, vS w13 → w13.cell? (p_1.add 1) = some (.int .i64 x1161))) ∧
  someV x46_0 fun p_2 =>
  ∃ (x1200 : Int), ∃ (x1201 : Int), (w12.cell? p_2 = some (.int .i64 x1200) ∧ w12.cell? (p_2.add 1) = some (.int .i64 x1201)) ∧
  vS w12 ∧
  ((!((x1160 == x1200) && ((x1161 == x1201) && true))) = true →
  R (.bool false) w12) ∧
  ((!((x1160 == x1200) && ((x1161 == x1201) && true))) = false →
  ∃ vI_1 : Int → Nat → World → Prop, (∃ vk_5 : Nat, vI_1 0 vk_5 w12) ∧
  ∀ (jk : Nat → Value) (i_1 : Int), ∀ (vk_3 : Nat) (w14 : World), vI_1 i_1 vk_3 w14 →
  (decide (i_1 < (IntKind.i64.wrap (1 + (IntKind.i64.wrap (Int.tmod (IntKind.u64.wrap window) 100))))) = true →
  ∀ w15 : World, w15 = w14.alloc (.cells #[(.bool true)] 4 (0, 0)) →
  Calls Try.prog 17 #[(.pointer x46_0), (.slice (some (⟨w14.heap.size, 0, none⟩ : Addr)) 1 1)] w15 (Ret fun v_9 w16 => ∃ (x130_0 : Bool), ∃ (x130_1 : Int), v_9 = (.tuple #[(.bool x130_0), (.int .i64 x130_1)]) ∧
  ∃ vk_4 : Nat, vk_4 < vk_3 ∧ vI_1 (IntKind.i64.wrap (i_1 + 1)) vk_4 w16)) ∧
  (decide (i_1 < (IntKind.i64.wrap (1 + (IntKind.i64.wrap (Int.tmod (IntKind.u64.wrap window) 100))))) = false →
  ∃ vS_1 : World → Prop, ∀ w17 : World, w17 = w14.drew → vS_1 w17 ∧
  Calls Try.prog 19 #[(.pointer x46_0)] w17 (Ret fun v_10 w18 => ∃ (x132 : Int), v_10 = (.int .i64 x132) ∧
  vS_1 w18 ∧
  ((x132 == (0 : Int)) = true →
  Calls Try.prog 18 #[(.pointer x46_0)] w18 (Ret fun v_11 w19 => ∃ (x136 : Bool), v_11 = (.bool x136) ∧
  vS_1 w19 ∧
  ((!x136) = true →
  someV x46_0 fun p_3 =>
  ∃ (x144 : Int), (∀ w20, vS_1 w20 → w20.cell? (p_3.add 1) = some (.int .i64 x144)) ∧
  someV x40_0 fun p_4 =>
  ∃ (x149 : Int), w19.cell? (p_4.add 1) = some (.int .i64 x149) ∧
  vS_1 w19 ∧
  ((x144 == x149) = true →
  someV x46_0 fun p_5 =>
  ∃ (x157 : Int), (∀ w21, vS_1 w21 → w21.cell? p_5 = some (.int .i64 x157)) ∧
  someV x40_0 fun p_6 =>
  ∃ (x162 : Int), (∀ w22, vS_1 w22 → w22.cell? p_6 = some (.int .i64 x162)) ∧
  R (.bool (x157 == (IntKind.i64.wrap (x162 + (IntKind.i64.wrap (1 + (IntKind.i64.wrap (Int.tmod (IntKind.u64.wrap window) 100)))))))) w19) ∧
  ((x144 == x149) = false →
  R (.bool false) w19)) ∧
  ((!x136) = false →
  R (.bool false) w19))) ∧
  ((x132 == (0 : Int)) = false →
  R (.bool false) w18))))))))))))))))))
theorem coadjutorlaw27_HealthHeals.vc_eq (window : Int) (limit : Int) (listA : Option Addr) (listN : Nat) (listC : Nat) (w : World) (R : Value → World → Prop) : fnV Try.prog Try.f3 (.c .nil (.c .nil (.at_ 9 2 (.k .nil) (.c .nil (.lp [(6, none), (13, some (.bool)), (14, some (.int .i64)), (15, none), (16, none), (55, none), (56, none), (57, none), (58, none), (59, none), (60, none), (61, none), (62, none), (63, none), (64, none), (65, none), (66, none), (67, none), (68, none), (69, none), (70, none), (71, none), (72, none), (73, none), (74, none), (75, none), (76, none), (77, none), (78, none), (79, none), (80, none), (81, none), (82, none), (83, none), (84, none), (85, none), (86, none), (87, none), (88, none), (89, none), (90, none), (91, none)] (.c (.at_ 16 2 (.k .nil) (.at_ 16 8 (.k .nil) (.at_ 16 10 (.c .nil (.at_ 18 1 .nil .nil)) (.k (.at_ 18 1 .nil .nil))))) (.tk 0 (.tk 1 (.tks 2 (.tk 3 (.tk 4 (.tk 5 (.tk 6 (.tk 7 (.tk 8 (.tk 9 (.tk 10 (.tk 11 (.tk 12 (.tk 13 (.tk 14 (.tk 15 (.tk 16 (.tk 17 (.tk 18 (.tk 19 (.tk 20 (.tk 21 (.tk 22 (.tk 23 (.tk 24 (.fin (.k .nil)))))))))))))))))))))))) (.tk 3 (.tk 4 (.tk 5 (.tk 6 (.tks 7 (.tk 8 (.tk 9 (.tk 10 (.tk 11 (.tk 12 (.tk 13 (.tk 14 (.tk 15 (.tk 16 (.tk 17 (.tk 18 (.tk 19 (.tk 20 (.tk 21 (.tk 22 (.tk 23 (.tk 24 (.fin (.k .nil))))))))))))))))))) (.tk 8 (.tk 10 (.alt 9 (.alt 11 (.tk 12 (.tk 13 (.tks 14 (.tk 15 (.tk 16 (.tk 17 (.tk 18 (.tk 19 (.tk 20 (.tk 21 (.tk 22 (.tk 23 (.tk 24 (.fin (.k .nil)))))))))))) (.tk 15 (.tk 16 (.tk 17 (.tk 18 (.tk 19 (.tk 20 (.tk 21 (.alt 22 (.tk 23 (.tk 24 (.fin (.c .nil (.lp [(19, some (.int .i64)), (123, none), (124, none), (125, none), (126, none), (127, none), (128, none), (129, none), (130, none)] (.c .nil (.tk 0 (.alt 1 (.tk 2 (.tks 3 (.tk 4 (.alt 5 (.tk 6 (.tk 7 (.tks 8 (.tk 9 (.tk 10 (.tk 11 (.tk 12 (.tk 13 (.tk 14 (.tk 15 (.tk 16 (.tk 17 (.alt 18 (.tk 19 (.tk 20 (.tks 21 (.tk 22 (.tk 23 (.tk 24 (.tk 25 (.tk 26 (.tk 27 (.tk 28 (.tk 29 (.tk 30 (.tk 31 (.tk 32 (.tk 33 (.tk 34 (.tk 35 (.tk 36 (.fin .nil)))))))))))))))) (.tk 22 (.tk 23 (.tk 24 (.tk 25 (.tk 26 (.tk 27 (.tk 28 (.tk 29 (.tk 30 (.tk 31 (.tk 32 (.tk 33 (.tk 34 (.tk 35 (.tk 36 (.fin .nil))))))))))))))))))) .nil)))))))))) (.tk 9 (.tk 10 (.tk 11 (.tk 12 (.tk 13 (.tk 14 (.tk 15 (.tk 16 (.tk 17 (.tk 18 (.tk 19 (.tk 20 (.tk 21 (.tk 22 (.tk 23 (.tk 24 (.tk 25 (.tk 26 (.tk 27 (.tk 28 (.tk 29 (.tk 30 (.tk 31 (.tk 32 (.tk 33 (.tk 34 (.tk 35 (.tk 36 (.fin .nil)))))))))))))))))))))))))))))))) .nil)) (.tk 4 (.tk 5 (.tk 6 (.tk 7 (.tk 8 (.tk 9 (.tk 10 (.tk 11 (.tk 12 (.tk 13 (.tk 14 (.tk 15 (.tk 16 (.tk 17 (.tk 18 (.tk 19 (.tk 20 (.tk 21 (.tk 22 (.tk 23 (.tk 24 (.tk 25 (.tk 26 (.tk 27 (.tk 28 (.tk 29 (.tk 30 (.tk 31 (.tk 32 (.tk 33 (.tk 34 (.tk 35 (.tk 36 (.fin .nil)))))))))))))))))))))))))))))))))))) .nil)))))))) .nil))))))))))) .nil) .nil))))))))))))))))) [(.int .i64 window), (.int .i64 limit), (.slice listA listN listC)] w R = coadjutorlaw27_HealthHeals.vc window limit listA listN listC w R := by kernel_rfl
theorem coadjutorlaw27_HealthHeals.calls (window : Int) (limit : Int) (listA : Option Addr) (listN : Nat) (listC : Nat) {w : World} {R : Value → World → Prop} (h : coadjutorlaw27_HealthHeals.vc window limit listA listN listC w R) : Calls Try.prog 3 #[(.int .i64 window), (.int .i64 limit), (.slice listA listN listC)] w (Ret R) :=
  calls_V fit Try.func3 (.c .nil (.c .nil (.at_ 9 2 (.k .nil) (.c .nil (.lp [(6, none), (13, some (.bool)), (14, some (.int .i64)), (15, none), (16, none), (55, none), (56, none), (57, none), (58, none), (59, none), (60, none), (61, none), (62, none), (63, none), (64, none), (65, none), (66, none), (67, none), (68, none), (69, none), (70, none), (71, none), (72, none), (73, none), (74, none), (75, none), (76, none), (77, none), (78, none), (79, none), (80, none), (81, none), (82, none), (83, none), (84, none), (85, none), (86, none), (87, none), (88, none), (89, none), (90, none), (91, none)] (.c (.at_ 16 2 (.k .nil) (.at_ 16 8 (.k .nil) (.at_ 16 10 (.c .nil (.at_ 18 1 .nil .nil)) (.k (.at_ 18 1 .nil .nil))))) (.tk 0 (.tk 1 (.tks 2 (.tk 3 (.tk 4 (.tk 5 (.tk 6 (.tk 7 (.tk 8 (.tk 9 (.tk 10 (.tk 11 (.tk 12 (.tk 13 (.tk 14 (.tk 15 (.tk 16 (.tk 17 (.tk 18 (.tk 19 (.tk 20 (.tk 21 (.tk 22 (.tk 23 (.tk 24 (.fin (.k .nil)))))))))))))))))))))))) (.tk 3 (.tk 4 (.tk 5 (.tk 6 (.tks 7 (.tk 8 (.tk 9 (.tk 10 (.tk 11 (.tk 12 (.tk 13 (.tk 14 (.tk 15 (.tk 16 (.tk 17 (.tk 18 (.tk 19 (.tk 20 (.tk 21 (.tk 22 (.tk 23 (.tk 24 (.fin (.k .nil))))))))))))))))))) (.tk 8 (.tk 10 (.alt 9 (.alt 11 (.tk 12 (.tk 13 (.tks 14 (.tk 15 (.tk 16 (.tk 17 (.tk 18 (.tk 19 (.tk 20 (.tk 21 (.tk 22 (.tk 23 (.tk 24 (.fin (.k .nil)))))))))))) (.tk 15 (.tk 16 (.tk 17 (.tk 18 (.tk 19 (.tk 20 (.tk 21 (.alt 22 (.tk 23 (.tk 24 (.fin (.c .nil (.lp [(19, some (.int .i64)), (123, none), (124, none), (125, none), (126, none), (127, none), (128, none), (129, none), (130, none)] (.c .nil (.tk 0 (.alt 1 (.tk 2 (.tks 3 (.tk 4 (.alt 5 (.tk 6 (.tk 7 (.tks 8 (.tk 9 (.tk 10 (.tk 11 (.tk 12 (.tk 13 (.tk 14 (.tk 15 (.tk 16 (.tk 17 (.alt 18 (.tk 19 (.tk 20 (.tks 21 (.tk 22 (.tk 23 (.tk 24 (.tk 25 (.tk 26 (.tk 27 (.tk 28 (.tk 29 (.tk 30 (.tk 31 (.tk 32 (.tk 33 (.tk 34 (.tk 35 (.tk 36 (.fin .nil)))))))))))))))) (.tk 22 (.tk 23 (.tk 24 (.tk 25 (.tk 26 (.tk 27 (.tk 28 (.tk 29 (.tk 30 (.tk 31 (.tk 32 (.tk 33 (.tk 34 (.tk 35 (.tk 36 (.fin .nil))))))))))))))))))) .nil)))))))))) (.tk 9 (.tk 10 (.tk 11 (.tk 12 (.tk 13 (.tk 14 (.tk 15 (.tk 16 (.tk 17 (.tk 18 (.tk 19 (.tk 20 (.tk 21 (.tk 22 (.tk 23 (.tk 24 (.tk 25 (.tk 26 (.tk 27 (.tk 28 (.tk 29 (.tk 30 (.tk 31 (.tk 32 (.tk 33 (.tk 34 (.tk 35 (.tk 36 (.fin .nil)))))))))))))))))))))))))))))))) .nil)) (.tk 4 (.tk 5 (.tk 6 (.tk 7 (.tk 8 (.tk 9 (.tk 10 (.tk 11 (.tk 12 (.tk 13 (.tk 14 (.tk 15 (.tk 16 (.tk 17 (.tk 18 (.tk 19 (.tk 20 (.tk 21 (.tk 22 (.tk 23 (.tk 24 (.tk 25 (.tk 26 (.tk 27 (.tk 28 (.tk 29 (.tk 30 (.tk 31 (.tk 32 (.tk 33 (.tk 34 (.tk 35 (.tk 36 (.fin .nil)))))))))))))))))))))))))))))))))))) .nil)))))))) .nil))))))))))) .nil) .nil))))))))))))))))) (by rw [show (#[(.int .i64 window), (.int .i64 limit), (.slice listA listN listC)] : Array Value).toList = [(.int .i64 window), (.int .i64 limit), (.slice listA listN listC)] from rfl, coadjutorlaw27_HealthHeals.vc_eq]; exact h)
end Go.Proofs.Ytddgcdlljkooiaa.Vc
