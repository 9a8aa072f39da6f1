import Derived.Test.YtfecfdhigkehgaaVc
import Derived.Test.YtfecfdhigkehgaaH
import Derived.Test.YtfecfdhigkehgaaProg
import Derived.KernelRfl
set_option linter.unusedVariables false
set_option maxRecDepth 100000
namespace Go.Proofs.Ytfecfdhigkehgaa.Vc
open Go Go.Proofs Go.Proofs.Ytfecfdhigkehgaa.V
/-- function 60 -/
def num_Clamp.vc (x : Int) (low : Int) (high : Int) (w : World) (R : Value → World → Prop) : Prop :=
  (decide (x < low) = true →
  R (.int .i64 low) w) ∧
  (decide (x < low) = false →
  (decide (x > high) = true →
  R (.int .i64 high) w) ∧
  (decide (x > high) = false →
  R (.int .i64 x) w))
theorem num_Clamp.vc_eq (x : Int) (low : Int) (high : Int) (w : World) (R : Value → World → Prop) : fnV Try.prog Try.f60 (.c .nil (.c .nil .nil)) [(.int .i64 x), (.int .i64 low), (.int .i64 high)] w R = num_Clamp.vc x low high w R := by kernel_rfl
theorem num_Clamp.calls (x : Int) (low : Int) (high : Int) {w : World} {R : Value → World → Prop} (h : num_Clamp.vc x low high w R) : Calls Try.prog 60 #[(.int .i64 x), (.int .i64 low), (.int .i64 high)] w (Ret R) :=
  calls_V fit Try.func60 (.c .nil (.c .nil .nil)) (by rw [show (#[(.int .i64 x), (.int .i64 low), (.int .i64 high)] : Array Value).toList = [(.int .i64 x), (.int .i64 low), (.int .i64 high)] from rfl, num_Clamp.vc_eq]; exact h)
/-- function 52 -/
def num_Sat.vc (x : Int) (w : World) (R : Value → World → Prop) : Prop :=
  Calls Try.prog 60 #[(.int .i64 x), (.int .i64 (-32767)), (.int .i64 32767)] w (Ret fun v w1 => ∃ (x4 : Int), v = (.int .i64 x4) ∧
  R (.int .i64 x4) w1)
theorem num_Sat.vc_eq (x : Int) (w : World) (R : Value → World → Prop) : fnV Try.prog Try.f52 .nil [(.int .i64 x)] w R = num_Sat.vc x w R := by kernel_rfl
theorem num_Sat.calls (x : Int) {w : World} {R : Value → World → Prop} (h : num_Sat.vc x w R) : Calls Try.prog 52 #[(.int .i64 x)] w (Ret R) :=
  calls_V fit Try.func52 .nil (by rw [show (#[(.int .i64 x)] : Array Value).toList = [(.int .i64 x)] from rfl, num_Sat.vc_eq]; exact h)
/-- function 49 -/
def num_Sum.vc (listA : Option Addr) (listN : Nat) (listC : Nat) (w : World) (R : Value → World → Prop) : Prop :=
  ∃ vI : Int → Int → Nat → World → Prop, (∃ vk_2 : Nat, vI 0 0 vk_2 w) ∧
  ∀ (jk : Nat → Value) (out : Int) (x8 : Int), ∀ (vk : Nat) (w1 : World), vI out x8 vk w1 →
  (decide (x8 < ((listN : Nat) : Int)) = true →
  (0 ≤ x8 ∧ x8 < ((listN : Nat) : Int)) ∧ someV listA fun p =>
  ∃ (x11 : Int), w1.cell? (p.add (x8.toNat * 1)) = some (.int .i64 x11) ∧
  Calls Try.prog 60 #[(.int .i64 x11), (.int .i64 (-2305843009213693952)), (.int .i64 2305843009213693952)] w1 (Ret fun v w2 => ∃ (x14 : Int), v = (.int .i64 x14) ∧
  Calls Try.prog 60 #[(.int .i64 (IntKind.i64.wrap (out + x14))), (.int .i64 (-4611686018427387904)), (.int .i64 4611686018427387904)] w2 (Ret fun v_1 w3 => ∃ (x16 : Int), v_1 = (.int .i64 x16) ∧
  ∃ vk_1 : Nat, vk_1 < vk ∧ vI x16 (IntKind.i64.wrap (x8 + 1)) vk_1 w3))) ∧
  (decide (x8 < ((listN : Nat) : Int)) = false →
  R (.int .i64 out) w1)
theorem num_Sum.vc_eq (listA : Option Addr) (listN : Nat) (listC : Nat) (w : World) (R : Value → World → Prop) : fnV Try.prog Try.f49 (.lp [(3, some (.int .i64)), (5, none), (8, some (.int .i64)), (9, none), (10, none), (11, none), (12, none), (13, none), (14, none), (15, none), (16, none), (17, none)] (.c .nil .nil)) [(.slice listA listN listC)] w R = num_Sum.vc listA listN listC w R := by kernel_rfl
theorem num_Sum.calls (listA : Option Addr) (listN : Nat) (listC : Nat) {w : World} {R : Value → World → Prop} (h : num_Sum.vc listA listN listC w R) : Calls Try.prog 49 #[(.slice listA listN listC)] w (Ret R) :=
  calls_V fit Try.func49 (.lp [(3, some (.int .i64)), (5, none), (8, some (.int .i64)), (9, none), (10, none), (11, none), (12, none), (13, none), (14, none), (15, none), (16, none), (17, none)] (.c .nil .nil)) (by rw [show (#[(.slice listA listN listC)] : Array Value).toList = [(.slice listA listN listC)] from rfl, num_Sum.vc_eq]; exact h)
/-- function 61 -/
def coadjutorref01_Clamp.vc (x : Int) (low : Int) (high : Int) (w : World) (R : Value → World → Prop) : Prop :=
  (decide (x < low) = true →
  R (.int .i64 low) w) ∧
  (decide (x < low) = false →
  (decide (x > high) = true →
  R (.int .i64 high) w) ∧
  (decide (x > high) = false →
  R (.int .i64 x) w))
theorem coadjutorref01_Clamp.vc_eq (x : Int) (low : Int) (high : Int) (w : World) (R : Value → World → Prop) : fnV Try.prog Try.f61 (.c .nil (.c .nil .nil)) [(.int .i64 x), (.int .i64 low), (.int .i64 high)] w R = coadjutorref01_Clamp.vc x low high w R := by kernel_rfl
theorem coadjutorref01_Clamp.calls (x : Int) (low : Int) (high : Int) {w : World} {R : Value → World → Prop} (h : coadjutorref01_Clamp.vc x low high w R) : Calls Try.prog 61 #[(.int .i64 x), (.int .i64 low), (.int .i64 high)] w (Ret R) :=
  calls_V fit Try.func61 (.c .nil (.c .nil .nil)) (by rw [show (#[(.int .i64 x), (.int .i64 low), (.int .i64 high)] : Array Value).toList = [(.int .i64 x), (.int .i64 low), (.int .i64 high)] from rfl, coadjutorref01_Clamp.vc_eq]; exact h)
/-- function 53 -/
def coadjutorref01_Sat.vc (x : Int) (w : World) (R : Value → World → Prop) : Prop :=
  Calls Try.prog 61 #[(.int .i64 x), (.int .i64 (-32767)), (.int .i64 32767)] w (Ret fun v w1 => ∃ (x4 : Int), v = (.int .i64 x4) ∧
  R (.int .i64 x4) w1)
theorem coadjutorref01_Sat.vc_eq (x : Int) (w : World) (R : Value → World → Prop) : fnV Try.prog Try.f53 .nil [(.int .i64 x)] w R = coadjutorref01_Sat.vc x w R := by kernel_rfl
theorem coadjutorref01_Sat.calls (x : Int) {w : World} {R : Value → World → Prop} (h : coadjutorref01_Sat.vc x w R) : Calls Try.prog 53 #[(.int .i64 x)] w (Ret R) :=
  calls_V fit Try.func53 .nil (by rw [show (#[(.int .i64 x)] : Array Value).toList = [(.int .i64 x)] from rfl, coadjutorref01_Sat.vc_eq]; exact h)
end Go.Proofs.Ytfecfdhigkehgaa.Vc
