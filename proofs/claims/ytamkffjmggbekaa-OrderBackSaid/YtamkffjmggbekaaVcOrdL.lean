import Derived.Test.YtamkffjmggbekaaVc
import Derived.Test.YtamkffjmggbekaaH
import Derived.Test.YtamkffjmggbekaaProg
import Derived.KernelRfl
set_option linter.unusedVariables false
set_option maxRecDepth 100000
namespace Go.Proofs.Ytamkffjmggbekaa.Vc
open Go Go.Proofs Go.Proofs.Ytamkffjmggbekaa.V
/-- function 74 -/
def coadjutorlaw29_ints.vc (aA : Option Addr) (aN : Nat) (aC : Nat) (bA : Option Addr) (bN : Nat) (bC : Nat) (w : World) (R : Value → World → Prop) : Prop :=
  ((((aN : Nat) : Int) != ((bN : Nat) : Int)) = true →
  R (.bool false) w) ∧
  ((((aN : Nat) : Int) != ((bN : Nat) : Int)) = false →
  ∃ vI : Int → Nat → World → Prop, (∃ vk_2 : Nat, vI 0 vk_2 w) ∧
  ∀ (jk : Nat → Value) (i : Int), ∀ (vk : Nat) (w1 : World), vI i vk w1 →
  (decide (i < ((aN : Nat) : Int)) = true →
  ∃ vS : World → Prop, ∀ w2 : World, w2 = w1.drew → vS w2 ∧
  (0 ≤ i ∧ i < ((aN : Nat) : Int)) ∧ someV aA fun p =>
  ∃ (x20 : Int), (∀ w3, vS w3 → w3.cell? (p.add (i.toNat * 1)) = some (.int .i64 x20)) ∧
  (0 ≤ i ∧ i < ((bN : Nat) : Int)) ∧ someV bA fun p_1 =>
  ∃ (x24 : Int), (∀ w4, vS w4 → w4.cell? (p_1.add (i.toNat * 1)) = some (.int .i64 x24)) ∧
  ((x20 != x24) = true →
  R (.bool false) w2) ∧
  ((x20 != x24) = false →
  ∃ vk_1 : Nat, vk_1 < vk ∧ vI (IntKind.i64.wrap (i + 1)) vk_1 w2)) ∧
  (decide (i < ((aN : Nat) : Int)) = false →
  R (.bool true) w1))
theorem coadjutorlaw29_ints.vc_eq (aA : Option Addr) (aN : Nat) (aC : Nat) (bA : Option Addr) (bN : Nat) (bC : Nat) (w : World) (R : Value → World → Prop) : fnV Try.prog Try.f74 (.c .nil (.lp [(4, none), (5, some (.int .i64)), (11, none), (12, none), (13, none), (14, none), (15, none), (16, none), (17, none), (18, none), (19, none), (20, none), (21, none), (22, none), (23, none), (24, none), (25, none)] (.c (.tk 0 (.tk 1 (.tk 2 (.tk 3 (.tk 4 (.tk 5 (.tk 6 (.tk 7 (.tk 8 (.fin (.c .nil .nil))))))))))) .nil))) [(.slice aA aN aC), (.slice bA bN bC)] w R = coadjutorlaw29_ints.vc aA aN aC bA bN bC w R := by kernel_rfl
theorem coadjutorlaw29_ints.calls (aA : Option Addr) (aN : Nat) (aC : Nat) (bA : Option Addr) (bN : Nat) (bC : Nat) {w : World} {R : Value → World → Prop} (h : coadjutorlaw29_ints.vc aA aN aC bA bN bC w R) : Calls Try.prog 74 #[(.slice aA aN aC), (.slice bA bN bC)] w (Ret R) :=
  calls_V fit Try.func74 (.c .nil (.lp [(4, none), (5, some (.int .i64)), (11, none), (12, none), (13, none), (14, none), (15, none), (16, none), (17, none), (18, none), (19, none), (20, none), (21, none), (22, none), (23, none), (24, none), (25, none)] (.c (.tk 0 (.tk 1 (.tk 2 (.tk 3 (.tk 4 (.tk 5 (.tk 6 (.tk 7 (.tk 8 (.fin (.c .nil .nil))))))))))) .nil))) (by rw [show (#[(.slice aA aN aC), (.slice bA bN bC)] : Array Value).toList = [(.slice aA aN aC), (.slice bA bN bC)] from rfl, coadjutorlaw29_ints.vc_eq]; exact h)
/-- function 32 -/
def coadjutorlaw29_form.vc (c0 : Int) (c1 : Int) (c2 : Int) (c3 : Bool) (c4A : Option Addr) (c4N : Nat) (c4C : Nat) (c5A : Option Addr) (c5N : Nat) (c5C : Nat) (c6 : ByteArray) (w : World) (R : Value → World → Prop) : Prop :=
  ∀ w1 : World, w1 = w.alloc (.cells #[(.int .i64 c0), (.int .i64 c1), (.int .i64 c2), (.bool c3), (.slice c4A c4N c4C), (.slice c5A c5N c5C), (.string c6)] 72 (0, 0)) →
  ∀ w2 : World, w2 = w1.alloc (.cells #[(.int .i64 0), (.int .i64 0), (.int .i64 0), (.bool false), (.slice none 0 0), (.slice none 0 0), (.string ByteArray.empty)] 73 (0, 0)) →
  ∃ (x4 : Int), w2.cell? (⟨w.heap.size, 0, none⟩ : Addr) = some (.int .i64 x4) ∧
  ∃ (x6 : Int), w2.cell? (⟨w.heap.size, 1, none⟩ : Addr) = some (.int .i64 x6) ∧
  ∃ (x8 : Int), w2.cell? (⟨w.heap.size, 2, none⟩ : Addr) = some (.int .i64 x8) ∧
  ∃ (x10 : Bool), w2.cell? (⟨w.heap.size, 3, none⟩ : Addr) = some (.bool x10) ∧
  ∃ (x12A : Option Addr), ∃ (x12N : Nat), ∃ (x12C : Nat), w2.cell? (⟨w.heap.size, 4, none⟩ : Addr) = some (.slice x12A x12N x12C) ∧
  ∃ (x14A : Option Addr), ∃ (x14N : Nat), ∃ (x14C : Nat), w2.cell? (⟨w.heap.size, 5, none⟩ : Addr) = some (.slice x14A x14N x14C) ∧
  ∃ (x16 : ByteArray), w2.cell? (⟨w.heap.size, 6, none⟩ : Addr) = some (.string x16) ∧
  (((∃ u, w2.cell? (⟨w1.heap.size, 0, none⟩ : Addr) = some u) ∧ w2.frozen? (⟨w1.heap.size, 0, none⟩ : Addr) = false) ∧ ((∃ u, w2.cell? (⟨w1.heap.size, 1, none⟩ : Addr) = some u) ∧ w2.frozen? (⟨w1.heap.size, 1, none⟩ : Addr) = false) ∧ ((∃ u, w2.cell? (⟨w1.heap.size, 2, none⟩ : Addr) = some u) ∧ w2.frozen? (⟨w1.heap.size, 2, none⟩ : Addr) = false) ∧ ((∃ u, w2.cell? (⟨w1.heap.size, 3, none⟩ : Addr) = some u) ∧ w2.frozen? (⟨w1.heap.size, 3, none⟩ : Addr) = false) ∧ ((∃ u, w2.cell? (⟨w1.heap.size, 4, none⟩ : Addr) = some u) ∧ w2.frozen? (⟨w1.heap.size, 4, none⟩ : Addr) = false) ∧ ((∃ u, w2.cell? (⟨w1.heap.size, 5, none⟩ : Addr) = some u) ∧ w2.frozen? (⟨w1.heap.size, 5, none⟩ : Addr) = false) ∧ ((∃ u, w2.cell? (⟨w1.heap.size, 6, none⟩ : Addr) = some u) ∧ w2.frozen? (⟨w1.heap.size, 6, none⟩ : Addr) = false)) ∧ ∀ w3 : World, w3 = (((((((w2.setCell (⟨w1.heap.size, 0, none⟩ : Addr) (.int .i64 x4)).setCell (⟨w1.heap.size, 1, none⟩ : Addr) (.int .i64 x6)).setCell (⟨w1.heap.size, 2, none⟩ : Addr) (.int .i64 x8)).setCell (⟨w1.heap.size, 3, none⟩ : Addr) (.bool x10)).setCell (⟨w1.heap.size, 4, none⟩ : Addr) (.slice x12A x12N x12C)).setCell (⟨w1.heap.size, 5, none⟩ : Addr) (.slice x14A x14N x14C)).setCell (⟨w1.heap.size, 6, none⟩ : Addr) (.string x16)) →
  ∃ (r00 : Int), ∃ (r01 : Int), ∃ (r02 : Int), ∃ (r03 : Bool), ∃ (r04A : Option Addr), ∃ (r04N : Nat), ∃ (r04C : Nat), ∃ (r05A : Option Addr), ∃ (r05N : Nat), ∃ (r05C : Nat), ∃ (r06 : ByteArray), (w3.cell? (⟨w1.heap.size, 0, none⟩ : Addr) = some (.int .i64 r00) ∧ w3.cell? (⟨w1.heap.size, 1, none⟩ : Addr) = some (.int .i64 r01) ∧ w3.cell? (⟨w1.heap.size, 2, none⟩ : Addr) = some (.int .i64 r02) ∧ w3.cell? (⟨w1.heap.size, 3, none⟩ : Addr) = some (.bool r03) ∧ w3.cell? (⟨w1.heap.size, 4, none⟩ : Addr) = some (.slice r04A r04N r04C) ∧ w3.cell? (⟨w1.heap.size, 5, none⟩ : Addr) = some (.slice r05A r05N r05C) ∧ w3.cell? (⟨w1.heap.size, 6, none⟩ : Addr) = some (.string r06)) ∧
  R (.agg #[(.int .i64 r00), (.int .i64 r01), (.int .i64 r02), (.bool r03), (.slice r04A r04N r04C), (.slice r05A r05N r05C), (.string r06)]) w3
theorem coadjutorlaw29_form.vc_eq (c0 : Int) (c1 : Int) (c2 : Int) (c3 : Bool) (c4A : Option Addr) (c4N : Nat) (c4C : Nat) (c5A : Option Addr) (c5N : Nat) (c5C : Nat) (c6 : ByteArray) (w : World) (R : Value → World → Prop) : fnV Try.prog Try.f32 .nil [(.agg #[(.int .i64 c0), (.int .i64 c1), (.int .i64 c2), (.bool c3), (.slice c4A c4N c4C), (.slice c5A c5N c5C), (.string c6)])] w R = coadjutorlaw29_form.vc c0 c1 c2 c3 c4A c4N c4C c5A c5N c5C c6 w R := by kernel_rfl
theorem coadjutorlaw29_form.calls (c0 : Int) (c1 : Int) (c2 : Int) (c3 : Bool) (c4A : Option Addr) (c4N : Nat) (c4C : Nat) (c5A : Option Addr) (c5N : Nat) (c5C : Nat) (c6 : ByteArray) {w : World} {R : Value → World → Prop} (h : coadjutorlaw29_form.vc c0 c1 c2 c3 c4A c4N c4C c5A c5N c5C c6 w R) : Calls Try.prog 32 #[(.agg #[(.int .i64 c0), (.int .i64 c1), (.int .i64 c2), (.bool c3), (.slice c4A c4N c4C), (.slice c5A c5N c5C), (.string c6)])] w (Ret R) :=
  calls_V fit Try.func32 .nil (by rw [show (#[(.agg #[(.int .i64 c0), (.int .i64 c1), (.int .i64 c2), (.bool c3), (.slice c4A c4N c4C), (.slice c5A c5N c5C), (.string c6)])] : Array Value).toList = [(.agg #[(.int .i64 c0), (.int .i64 c1), (.int .i64 c2), (.bool c3), (.slice c4A c4N c4C), (.slice c5A c5N c5C), (.string c6)])] from rfl, coadjutorlaw29_form.vc_eq]; exact h)
/-- function 38 -/
def coadjutorlaw29_alike.vc (c0 : Int) (c1 : Int) (c2 : Int) (c3 : Bool) (c4A : Option Addr) (c4N : Nat) (c4C : Nat) (c5A : Option Addr) (c5N : Nat) (c5C : Nat) (c6 : ByteArray) (vw0 : Int) (vw1 : Int) (vw2 : Int) (vw3 : Bool) (w4A : Option Addr) (w4N : Nat) (w4C : Nat) (w5A : Option Addr) (w5N : Nat) (w5C : Nat) (vw6 : ByteArray) (w : World) (R : Value → World → Prop) : Prop :=
  ∀ w1 : World, w1 = w.alloc (.cells #[(.int .i64 c0), (.int .i64 c1), (.int .i64 c2), (.bool c3), (.slice c4A c4N c4C), (.slice c5A c5N c5C), (.string c6)] 72 (0, 0)) →
  ∀ w2 : World, w2 = w1.alloc (.cells #[(.int .i64 vw0), (.int .i64 vw1), (.int .i64 vw2), (.bool vw3), (.slice w4A w4N w4C), (.slice w5A w5N w5C), (.string vw6)] 73 (0, 0)) →
  ∃ (x6 : Int), w2.cell? (⟨w.heap.size, 0, none⟩ : Addr) = some (.int .i64 x6) ∧
  ∃ (x8 : Int), w2.cell? (⟨w1.heap.size, 0, none⟩ : Addr) = some (.int .i64 x8) ∧
  ((x6 == x8) = true →
  ∃ (x12 : Int), w2.cell? (⟨w.heap.size, 1, none⟩ : Addr) = some (.int .i64 x12) ∧
  ∃ (x14 : Int), w2.cell? (⟨w1.heap.size, 1, none⟩ : Addr) = some (.int .i64 x14) ∧
  ((x12 == x14) = true →
  ∃ (x19 : Int), w2.cell? (⟨w.heap.size, 2, none⟩ : Addr) = some (.int .i64 x19) ∧
  ∃ (x21 : Int), w2.cell? (⟨w1.heap.size, 2, none⟩ : Addr) = some (.int .i64 x21) ∧
  ((x19 == x21) = true →
  ∃ (x26 : Bool), w2.cell? (⟨w.heap.size, 3, none⟩ : Addr) = some (.bool x26) ∧
  ∃ (x28 : Bool), w2.cell? (⟨w1.heap.size, 3, none⟩ : Addr) = some (.bool x28) ∧
  ((x26 == x28) = true →
  ∃ (x33A : Option Addr), ∃ (x33N : Nat), ∃ (x33C : Nat), w2.cell? (⟨w.heap.size, 4, none⟩ : Addr) = some (.slice x33A x33N x33C) ∧
  ∃ (x35A : Option Addr), ∃ (x35N : Nat), ∃ (x35C : Nat), w2.cell? (⟨w1.heap.size, 4, none⟩ : Addr) = some (.slice x35A x35N x35C) ∧
  Calls Try.prog 74 #[(.slice x33A x33N x33C), (.slice x35A x35N x35C)] w2 (Ret fun v w3 => ∃ (x36 : Bool), v = (.bool x36) ∧
  (x36 = true →
  ∃ (x40A : Option Addr), ∃ (x40N : Nat), ∃ (x40C : Nat), w3.cell? (⟨w.heap.size, 5, none⟩ : Addr) = some (.slice x40A x40N x40C) ∧
  ∃ (x42A : Option Addr), ∃ (x42N : Nat), ∃ (x42C : Nat), w3.cell? (⟨w1.heap.size, 5, none⟩ : Addr) = some (.slice x42A x42N x42C) ∧
  Calls Try.prog 74 #[(.slice x40A x40N x40C), (.slice x42A x42N x42C)] w3 (Ret fun v_1 w4 => ∃ (x43 : Bool), v_1 = (.bool x43) ∧
  (x43 = true →
  ∃ (x47 : ByteArray), w4.cell? (⟨w.heap.size, 6, none⟩ : Addr) = some (.string x47) ∧
  ∃ (x49 : ByteArray), w4.cell? (⟨w1.heap.size, 6, none⟩ : Addr) = some (.string x49) ∧
  R (.bool (x47.toList == x49.toList)) w4) ∧
  (x43 = false →
  R (.bool false) w4))) ∧
  (x36 = false →
  R (.bool false) w3))) ∧
  ((x26 == x28) = false →
  R (.bool false) w2)) ∧
  ((x19 == x21) = false →
  R (.bool false) w2)) ∧
  ((x12 == x14) = false →
  R (.bool false) w2)) ∧
  ((x6 == x8) = false →
  R (.bool false) w2)
theorem coadjutorlaw29_alike.vc_eq (c0 : Int) (c1 : Int) (c2 : Int) (c3 : Bool) (c4A : Option Addr) (c4N : Nat) (c4C : Nat) (c5A : Option Addr) (c5N : Nat) (c5C : Nat) (c6 : ByteArray) (vw0 : Int) (vw1 : Int) (vw2 : Int) (vw3 : Bool) (w4A : Option Addr) (w4N : Nat) (w4C : Nat) (w5A : Option Addr) (w5N : Nat) (w5C : Nat) (vw6 : ByteArray) (w : World) (R : Value → World → Prop) : fnV Try.prog Try.f38 (.at_ 1 5 (.at_ 1 12 (.at_ 1 19 (.at_ 1 26 (.at_ 1 33 (.at_ 1 40 .nil .nil) .nil) .nil) .nil) .nil) .nil) [(.agg #[(.int .i64 c0), (.int .i64 c1), (.int .i64 c2), (.bool c3), (.slice c4A c4N c4C), (.slice c5A c5N c5C), (.string c6)]), (.agg #[(.int .i64 vw0), (.int .i64 vw1), (.int .i64 vw2), (.bool vw3), (.slice w4A w4N w4C), (.slice w5A w5N w5C), (.string vw6)])] w R = coadjutorlaw29_alike.vc c0 c1 c2 c3 c4A c4N c4C c5A c5N c5C c6 vw0 vw1 vw2 vw3 w4A w4N w4C w5A w5N w5C vw6 w R := by kernel_rfl
theorem coadjutorlaw29_alike.calls (c0 : Int) (c1 : Int) (c2 : Int) (c3 : Bool) (c4A : Option Addr) (c4N : Nat) (c4C : Nat) (c5A : Option Addr) (c5N : Nat) (c5C : Nat) (c6 : ByteArray) (vw0 : Int) (vw1 : Int) (vw2 : Int) (vw3 : Bool) (w4A : Option Addr) (w4N : Nat) (w4C : Nat) (w5A : Option Addr) (w5N : Nat) (w5C : Nat) (vw6 : ByteArray) {w : World} {R : Value → World → Prop} (h : coadjutorlaw29_alike.vc c0 c1 c2 c3 c4A c4N c4C c5A c5N c5C c6 vw0 vw1 vw2 vw3 w4A w4N w4C w5A w5N w5C vw6 w R) : Calls Try.prog 38 #[(.agg #[(.int .i64 c0), (.int .i64 c1), (.int .i64 c2), (.bool c3), (.slice c4A c4N c4C), (.slice c5A c5N c5C), (.string c6)]), (.agg #[(.int .i64 vw0), (.int .i64 vw1), (.int .i64 vw2), (.bool vw3), (.slice w4A w4N w4C), (.slice w5A w5N w5C), (.string vw6)])] w (Ret R) :=
  calls_V fit Try.func38 (.at_ 1 5 (.at_ 1 12 (.at_ 1 19 (.at_ 1 26 (.at_ 1 33 (.at_ 1 40 .nil .nil) .nil) .nil) .nil) .nil) .nil) (by rw [show (#[(.agg #[(.int .i64 c0), (.int .i64 c1), (.int .i64 c2), (.bool c3), (.slice c4A c4N c4C), (.slice c5A c5N c5C), (.string c6)]), (.agg #[(.int .i64 vw0), (.int .i64 vw1), (.int .i64 vw2), (.bool vw3), (.slice w4A w4N w4C), (.slice w5A w5N w5C), (.string vw6)])] : Array Value).toList = [(.agg #[(.int .i64 c0), (.int .i64 c1), (.int .i64 c2), (.bool c3), (.slice c4A c4N c4C), (.slice c5A c5N c5C), (.string c6)]), (.agg #[(.int .i64 vw0), (.int .i64 vw1), (.int .i64 vw2), (.bool vw3), (.slice w4A w4N w4C), (.slice w5A w5N w5C), (.string vw6)])] from rfl, coadjutorlaw29_alike.vc_eq]; exact h)
/-- function 31 -/
def coadjutorlaw29_great.vc (c0 : Int) (c1 : Int) (c2 : Int) (c3 : Bool) (c4A : Option Addr) (c4N : Nat) (c4C : Nat) (c5A : Option Addr) (c5N : Nat) (c5C : Nat) (c6 : ByteArray) (w : World) (R : Value → World → Prop) : Prop :=
  ∀ w1 : World, w1 = w.alloc (.cells #[(.int .i64 c0), (.int .i64 c1), (.int .i64 c2), (.bool c3), (.slice c4A c4N c4C), (.slice c5A c5N c5C), (.string c6)] 72 (0, 0)) →
  ∃ (x4A : Option Addr), ∃ (x4N : Nat), ∃ (x4C : Nat), w1.cell? (⟨w.heap.size, 4, none⟩ : Addr) = some (.slice x4A x4N x4C) ∧
  (decide (((x4N : Nat) : Int) > (40 : Int)) = true →
  R (.bool true) w1) ∧
  (decide (((x4N : Nat) : Int) > (40 : Int)) = false →
  ∃ (x9A : Option Addr), ∃ (x9N : Nat), ∃ (x9C : Nat), w1.cell? (⟨w.heap.size, 5, none⟩ : Addr) = some (.slice x9A x9N x9C) ∧
  (decide (((x9N : Nat) : Int) > (40 : Int)) = true →
  R (.bool true) w1) ∧
  (decide (((x9N : Nat) : Int) > (40 : Int)) = false →
  ∃ (x15 : ByteArray), w1.cell? (⟨w.heap.size, 6, none⟩ : Addr) = some (.string x15) ∧
  R (.bool (decide (((x15.size : Nat) : Int) > (1100 : Int)))) w1))
theorem coadjutorlaw29_great.vc_eq (c0 : Int) (c1 : Int) (c2 : Int) (c3 : Bool) (c4A : Option Addr) (c4N : Nat) (c4C : Nat) (c5A : Option Addr) (c5N : Nat) (c5C : Nat) (c6 : ByteArray) (w : World) (R : Value → World → Prop) : fnV Try.prog Try.f31 (.at_ 1 4 .nil (.at_ 1 10 .nil .nil)) [(.agg #[(.int .i64 c0), (.int .i64 c1), (.int .i64 c2), (.bool c3), (.slice c4A c4N c4C), (.slice c5A c5N c5C), (.string c6)])] w R = coadjutorlaw29_great.vc c0 c1 c2 c3 c4A c4N c4C c5A c5N c5C c6 w R := by kernel_rfl
theorem coadjutorlaw29_great.calls (c0 : Int) (c1 : Int) (c2 : Int) (c3 : Bool) (c4A : Option Addr) (c4N : Nat) (c4C : Nat) (c5A : Option Addr) (c5N : Nat) (c5C : Nat) (c6 : ByteArray) {w : World} {R : Value → World → Prop} (h : coadjutorlaw29_great.vc c0 c1 c2 c3 c4A c4N c4C c5A c5N c5C c6 w R) : Calls Try.prog 31 #[(.agg #[(.int .i64 c0), (.int .i64 c1), (.int .i64 c2), (.bool c3), (.slice c4A c4N c4C), (.slice c5A c5N c5C), (.string c6)])] w (Ret R) :=
  calls_V fit Try.func31 (.at_ 1 4 .nil (.at_ 1 10 .nil .nil)) (by rw [show (#[(.agg #[(.int .i64 c0), (.int .i64 c1), (.int .i64 c2), (.bool c3), (.slice c4A c4N c4C), (.slice c5A c5N c5C), (.string c6)])] : Array Value).toList = [(.agg #[(.int .i64 c0), (.int .i64 c1), (.int .i64 c2), (.bool c3), (.slice c4A c4N c4C), (.slice c5A c5N c5C), (.string c6)])] from rfl, coadjutorlaw29_great.vc_eq]; exact h)
/-- function 85 -/
def coadjutorlaw29_small.vc (n : Int) (w : World) (R : Value → World → Prop) : Prop :=
  R (.int .i64 (IntKind.i64.wrap (IntKind.i32.wrap n))) w
theorem coadjutorlaw29_small.vc_eq (n : Int) (w : World) (R : Value → World → Prop) : fnV Try.prog Try.f85 .nil [(.int .i64 n)] w R = coadjutorlaw29_small.vc n w R := by kernel_rfl
theorem coadjutorlaw29_small.calls (n : Int) {w : World} {R : Value → World → Prop} (h : coadjutorlaw29_small.vc n w R) : Calls Try.prog 85 #[(.int .i64 n)] w (Ret R) :=
  calls_V fit Try.func85 .nil (by rw [show (#[(.int .i64 n)] : Array Value).toList = [(.int .i64 n)] from rfl, coadjutorlaw29_small.vc_eq]; exact h)
/-- function 50 -/
def coadjutorlaw29_fit.vc (c0 : Int) (c1 : Int) (c2 : Int) (c3 : Bool) (c4A : Option Addr) (c4N : Nat) (c4C : Nat) (c5A : Option Addr) (c5N : Nat) (c5C : Nat) (c6 : ByteArray) (w : World) (R : Value → World → Prop) : Prop :=
  ∀ w1 : World, w1 = w.alloc (.cells #[(.int .i64 c0), (.int .i64 c1), (.int .i64 c2), (.bool c3), (.slice c4A c4N c4C), (.slice c5A c5N c5C), (.string c6)] 72 (0, 0)) →
  ∀ w2 : World, w2 = w1.alloc (.cells #[(.int .i64 0), (.int .i64 0), (.int .i64 0), (.bool false), (.slice none 0 0), (.slice none 0 0), (.string ByteArray.empty)] 72 (0, 0)) →
  ∃ (x80 : Int), ∃ (x81 : Int), ∃ (x82 : Int), ∃ (x83 : Bool), ∃ (x84A : Option Addr), ∃ (x84N : Nat), ∃ (x84C : Nat), ∃ (x85A : Option Addr), ∃ (x85N : Nat), ∃ (x85C : Nat), ∃ (x86 : ByteArray), (w2.cell? (⟨w.heap.size, 0, none⟩ : Addr) = some (.int .i64 x80) ∧ w2.cell? (⟨w.heap.size, 1, none⟩ : Addr) = some (.int .i64 x81) ∧ w2.cell? (⟨w.heap.size, 2, none⟩ : Addr) = some (.int .i64 x82) ∧ w2.cell? (⟨w.heap.size, 3, none⟩ : Addr) = some (.bool x83) ∧ w2.cell? (⟨w.heap.size, 4, none⟩ : Addr) = some (.slice x84A x84N x84C) ∧ w2.cell? (⟨w.heap.size, 5, none⟩ : Addr) = some (.slice x85A x85N x85C) ∧ w2.cell? (⟨w.heap.size, 6, none⟩ : Addr) = some (.string x86)) ∧
  Calls Try.prog 46 #[(.agg #[(.int .i64 x80), (.int .i64 x81), (.int .i64 x82), (.bool x83), (.slice x84A x84N x84C), (.slice x85A x85N x85C), (.string x86)])] w2 (Ret fun v w3 => ∃ (x90 : Int), ∃ (x91 : Int), ∃ (x92 : Int), ∃ (x93 : Bool), ∃ (x94A : Option Addr), ∃ (x94N : Nat), ∃ (x94C : Nat), ∃ (x95A : Option Addr), ∃ (x95N : Nat), ∃ (x95C : Nat), ∃ (x96 : ByteArray), v = (.agg #[(.int .i64 x90), (.int .i64 x91), (.int .i64 x92), (.bool x93), (.slice x94A x94N x94C), (.slice x95A x95N x95C), (.string x96)]) ∧
  ∀ w4 : World, w4 = w3.alloc (.cells #[(.int .i64 0), (.int .i64 0), (.int .i64 0), (.bool false), (.slice none 0 0), (.slice none 0 0), (.string ByteArray.empty)] 72 (0, 0)) →
  (((∃ u, w4.cell? (⟨w3.heap.size, 0, none⟩ : Addr) = some u) ∧ w4.frozen? (⟨w3.heap.size, 0, none⟩ : Addr) = false) ∧ ((∃ u, w4.cell? (⟨w3.heap.size, 1, none⟩ : Addr) = some u) ∧ w4.frozen? (⟨w3.heap.size, 1, none⟩ : Addr) = false) ∧ ((∃ u, w4.cell? (⟨w3.heap.size, 2, none⟩ : Addr) = some u) ∧ w4.frozen? (⟨w3.heap.size, 2, none⟩ : Addr) = false) ∧ ((∃ u, w4.cell? (⟨w3.heap.size, 3, none⟩ : Addr) = some u) ∧ w4.frozen? (⟨w3.heap.size, 3, none⟩ : Addr) = false) ∧ ((∃ u, w4.cell? (⟨w3.heap.size, 4, none⟩ : Addr) = some u) ∧ w4.frozen? (⟨w3.heap.size, 4, none⟩ : Addr) = false) ∧ ((∃ u, w4.cell? (⟨w3.heap.size, 5, none⟩ : Addr) = some u) ∧ w4.frozen? (⟨w3.heap.size, 5, none⟩ : Addr) = false) ∧ ((∃ u, w4.cell? (⟨w3.heap.size, 6, none⟩ : Addr) = some u) ∧ w4.frozen? (⟨w3.heap.size, 6, none⟩ : Addr) = false)) ∧ ∀ w5 : World, w5 = (((((((w4.setCell (⟨w3.heap.size, 0, none⟩ : Addr) (.int .i64 x90)).setCell (⟨w3.heap.size, 1, none⟩ : Addr) (.int .i64 x91)).setCell (⟨w3.heap.size, 2, none⟩ : Addr) (.int .i64 x92)).setCell (⟨w3.heap.size, 3, none⟩ : Addr) (.bool x93)).setCell (⟨w3.heap.size, 4, none⟩ : Addr) (.slice x94A x94N x94C)).setCell (⟨w3.heap.size, 5, none⟩ : Addr) (.slice x95A x95N x95C)).setCell (⟨w3.heap.size, 6, none⟩ : Addr) (.string x96)) →
  ∃ (x11 : Int), w5.cell? (⟨w3.heap.size, 1, none⟩ : Addr) = some (.int .i64 x11) ∧
  Calls Try.prog 85 #[(.int .i64 x11)] w5 (Ret fun v_1 w6 => ∃ (x12 : Int), v_1 = (.int .i64 x12) ∧
  (((∃ u, w6.cell? (⟨w3.heap.size, 1, none⟩ : Addr) = some u) ∧ w6.frozen? (⟨w3.heap.size, 1, none⟩ : Addr) = false)) ∧ ∀ w7 : World, w7 = (w6.setCell (⟨w3.heap.size, 1, none⟩ : Addr) (.int .i64 x12)) →
  ∃ (x15 : Int), w7.cell? (⟨w3.heap.size, 2, none⟩ : Addr) = some (.int .i64 x15) ∧
  Calls Try.prog 85 #[(.int .i64 x15)] w7 (Ret fun v_2 w8 => ∃ (x16 : Int), v_2 = (.int .i64 x16) ∧
  (((∃ u, w8.cell? (⟨w3.heap.size, 2, none⟩ : Addr) = some u) ∧ w8.frozen? (⟨w3.heap.size, 2, none⟩ : Addr) = false)) ∧ ∀ w9 : World, w9 = (w8.setCell (⟨w3.heap.size, 2, none⟩ : Addr) (.int .i64 x16)) →
  ∀ w10 : World, w10 = w9.alloc (.cells #[] 3 (0, 0)) →
  ∃ J : Option Addr → Nat → Nat → World → Prop, (∃ vI : Option Addr → Nat → Nat → Int → Nat → World → Prop, (∃ vk_2 : Nat, vI (some (⟨w9.heap.size, 0, none⟩ : Addr)) 0 0 0 vk_2 w10) ∧
  ∀ (jk : Nat → Value) (pA : Option Addr) (pN : Nat) (pC : Nat) (i : Int), ∀ (vk : Nat) (w11 : World), vI pA pN pC i vk w11 →
  ∃ (x21A : Option Addr), ∃ (x21N : Nat), ∃ (x21C : Nat), w11.cell? (⟨w3.heap.size, 4, none⟩ : Addr) = some (.slice x21A x21N x21C) ∧
  (decide (i < ((x21N : Nat) : Int)) = true →
  (decide (i < (32 : Int)) = true →
  ∃ (x32A : Option Addr), ∃ (x32N : Nat), ∃ (x32C : Nat), w11.cell? (⟨w3.heap.size, 4, none⟩ : Addr) = some (.slice x32A x32N x32C) ∧
  (0 ≤ i ∧ i < ((x32N : Nat) : Int)) ∧ someV x32A fun p =>
  ∃ (x35 : Int), w11.cell? (p.add (i.toNat * 1)) = some (.int .i64 x35) ∧
  Calls Try.prog 85 #[(.int .i64 x35)] w11 (Ret fun v_3 w12 => ∃ (x36 : Int), v_3 = (.int .i64 x36) ∧
  ∀ w13 : World, w13 = w12.alloc (.cells #[(.int .i64 x36)] 3 (0, 0)) →
  ∃ (x38A : Option Addr), ∃ (x38N : Nat), ∃ (x38C : Nat), ∃ w14 : World, (Builtin.append_ #[29, 29] 29 #[(.slice pA pN pC), (.slice (some (⟨w12.heap.size, 0, none⟩ : Addr)) 1 1)]).run Try.prog w13 = .ok (.slice x38A x38N x38C) w14 ∧
  ∃ vk_1 : Nat, vk_1 < vk ∧ vI x38A x38N x38C (IntKind.i64.wrap (i + 1)) vk_1 w14)) ∧
  (decide (i < (32 : Int)) = false →
  J pA pN pC w11)) ∧
  (decide (i < ((x21N : Nat) : Int)) = false →
  J pA pN pC w11)) ∧
  ∀ (jk : Nat → Value) (pA_1 : Option Addr) (pN_1 : Nat) (pC_1 : Nat), ∀ w15 : World, J pA_1 pN_1 pC_1 w15 →
  ∀ w16 : World, w16 = w15.alloc (.cells #[] 3 (0, 0)) →
  ∃ J_1 : Option Addr → Nat → Nat → World → Prop, (∃ vI_1 : Option Addr → Nat → Nat → Int → Nat → World → Prop, (∃ vk_5 : Nat, vI_1 (some (⟨w15.heap.size, 0, none⟩ : Addr)) 0 0 0 vk_5 w16) ∧
  ∀ (jk : Nat → Value) (dA : Option Addr) (dN : Nat) (dC : Nat) (i_1 : Int), ∀ (vk_3 : Nat) (w17 : World), vI_1 dA dN dC i_1 vk_3 w17 →
  ∃ (x42A : Option Addr), ∃ (x42N : Nat), ∃ (x42C : Nat), w17.cell? (⟨w3.heap.size, 5, none⟩ : Addr) = some (.slice x42A x42N x42C) ∧
  (decide (i_1 < ((x42N : Nat) : Int)) = true →
  (decide (i_1 < (32 : Int)) = true →
  ∃ (x53A : Option Addr), ∃ (x53N : Nat), ∃ (x53C : Nat), w17.cell? (⟨w3.heap.size, 5, none⟩ : Addr) = some (.slice x53A x53N x53C) ∧
  (0 ≤ i_1 ∧ i_1 < ((x53N : Nat) : Int)) ∧ someV x53A fun p_1 =>
  ∃ (x56 : Int), w17.cell? (p_1.add (i_1.toNat * 1)) = some (.int .i64 x56) ∧
  Calls Try.prog 85 #[(.int .i64 x56)] w17 (Ret fun v_4 w18 => ∃ (x57 : Int), v_4 = (.int .i64 x57) ∧
  ∀ w19 : World, w19 = w18.alloc (.cells #[(.int .i64 x57)] 3 (0, 0)) →
  ∃ (x59A : Option Addr), ∃ (x59N : Nat), ∃ (x59C : Nat), ∃ w20 : World, (Builtin.append_ #[29, 29] 29 #[(.slice dA dN dC), (.slice (some (⟨w18.heap.size, 0, none⟩ : Addr)) 1 1)]).run Try.prog w19 = .ok (.slice x59A x59N x59C) w20 ∧
  ∃ vk_4 : Nat, vk_4 < vk_3 ∧ vI_1 x59A x59N x59C (IntKind.i64.wrap (i_1 + 1)) vk_4 w20)) ∧
  (decide (i_1 < (32 : Int)) = false →
  J_1 dA dN dC w17)) ∧
  (decide (i_1 < ((x42N : Nat) : Int)) = false →
  J_1 dA dN dC w17)) ∧
  ∀ (jk : Nat → Value) (dA_1 : Option Addr) (dN_1 : Nat) (dC_1 : Nat), ∀ w21 : World, J_1 dA_1 dN_1 dC_1 w21 →
  (((∃ u, w21.cell? (⟨w3.heap.size, 4, none⟩ : Addr) = some u) ∧ w21.frozen? (⟨w3.heap.size, 4, none⟩ : Addr) = false)) ∧ ∀ w22 : World, w22 = (w21.setCell (⟨w3.heap.size, 4, none⟩ : Addr) (.slice pA_1 pN_1 pC_1)) →
  (((∃ u, w22.cell? (⟨w3.heap.size, 5, none⟩ : Addr) = some u) ∧ w22.frozen? (⟨w3.heap.size, 5, none⟩ : Addr) = false)) ∧ ∀ w23 : World, w23 = (w22.setCell (⟨w3.heap.size, 5, none⟩ : Addr) (.slice dA_1 dN_1 dC_1)) →
  ∃ (x65 : ByteArray), w23.cell? (⟨w3.heap.size, 6, none⟩ : Addr) = some (.string x65) ∧
  ∃ (x67 : ByteArray), w23.cell? (⟨w3.heap.size, 6, none⟩ : Addr) = some (.string x67) ∧
  (0 ≤ (if (1024 : Int) < ((x67.size : Nat) : Int) then (1024 : Int) else ((x67.size : Nat) : Int)) ∧ (if (1024 : Int) < ((x67.size : Nat) : Int) then (1024 : Int) else ((x67.size : Nat) : Int)) ≤ ((x65.size : Nat) : Int)) ∧
  (((∃ u, w23.cell? (⟨w3.heap.size, 6, none⟩ : Addr) = some u) ∧ w23.frozen? (⟨w3.heap.size, 6, none⟩ : Addr) = false)) ∧ ∀ w24 : World, w24 = (w23.setCell (⟨w3.heap.size, 6, none⟩ : Addr) (.string (x65.extract 0 (if (1024 : Int) < ((x67.size : Nat) : Int) then (1024 : Int) else ((x67.size : Nat) : Int)).toNat))) →
  ∃ (x720 : Int), ∃ (x721 : Int), ∃ (x722 : Int), ∃ (x723 : Bool), ∃ (x724A : Option Addr), ∃ (x724N : Nat), ∃ (x724C : Nat), ∃ (x725A : Option Addr), ∃ (x725N : Nat), ∃ (x725C : Nat), ∃ (x726 : ByteArray), (w24.cell? (⟨w3.heap.size, 0, none⟩ : Addr) = some (.int .i64 x720) ∧ w24.cell? (⟨w3.heap.size, 1, none⟩ : Addr) = some (.int .i64 x721) ∧ w24.cell? (⟨w3.heap.size, 2, none⟩ : Addr) = some (.int .i64 x722) ∧ w24.cell? (⟨w3.heap.size, 3, none⟩ : Addr) = some (.bool x723) ∧ w24.cell? (⟨w3.heap.size, 4, none⟩ : Addr) = some (.slice x724A x724N x724C) ∧ w24.cell? (⟨w3.heap.size, 5, none⟩ : Addr) = some (.slice x725A x725N x725C) ∧ w24.cell? (⟨w3.heap.size, 6, none⟩ : Addr) = some (.string x726)) ∧
  (((∃ u, w24.cell? (⟨w1.heap.size, 0, none⟩ : Addr) = some u) ∧ w24.frozen? (⟨w1.heap.size, 0, none⟩ : Addr) = false) ∧ ((∃ u, w24.cell? (⟨w1.heap.size, 1, none⟩ : Addr) = some u) ∧ w24.frozen? (⟨w1.heap.size, 1, none⟩ : Addr) = false) ∧ ((∃ u, w24.cell? (⟨w1.heap.size, 2, none⟩ : Addr) = some u) ∧ w24.frozen? (⟨w1.heap.size, 2, none⟩ : Addr) = false) ∧ ((∃ u, w24.cell? (⟨w1.heap.size, 3, none⟩ : Addr) = some u) ∧ w24.frozen? (⟨w1.heap.size, 3, none⟩ : Addr) = false) ∧ ((∃ u, w24.cell? (⟨w1.heap.size, 4, none⟩ : Addr) = some u) ∧ w24.frozen? (⟨w1.heap.size, 4, none⟩ : Addr) = false) ∧ ((∃ u, w24.cell? (⟨w1.heap.size, 5, none⟩ : Addr) = some u) ∧ w24.frozen? (⟨w1.heap.size, 5, none⟩ : Addr) = false) ∧ ((∃ u, w24.cell? (⟨w1.heap.size, 6, none⟩ : Addr) = some u) ∧ w24.frozen? (⟨w1.heap.size, 6, none⟩ : Addr) = false)) ∧ ∀ w25 : World, w25 = (((((((w24.setCell (⟨w1.heap.size, 0, none⟩ : Addr) (.int .i64 x720)).setCell (⟨w1.heap.size, 1, none⟩ : Addr) (.int .i64 x721)).setCell (⟨w1.heap.size, 2, none⟩ : Addr) (.int .i64 x722)).setCell (⟨w1.heap.size, 3, none⟩ : Addr) (.bool x723)).setCell (⟨w1.heap.size, 4, none⟩ : Addr) (.slice x724A x724N x724C)).setCell (⟨w1.heap.size, 5, none⟩ : Addr) (.slice x725A x725N x725C)).setCell (⟨w1.heap.size, 6, none⟩ : Addr) (.string x726)) →
  ∃ (r00 : Int), ∃ (r01 : Int), ∃ (r02 : Int), ∃ (r03 : Bool), ∃ (r04A : Option Addr), ∃ (r04N : Nat), ∃ (r04C : Nat), ∃ (r05A : Option Addr), ∃ (r05N : Nat), ∃ (r05C : Nat), ∃ (r06 : ByteArray), (w25.cell? (⟨w1.heap.size, 0, none⟩ : Addr) = some (.int .i64 r00) ∧ w25.cell? (⟨w1.heap.size, 1, none⟩ : Addr) = some (.int .i64 r01) ∧ w25.cell? (⟨w1.heap.size, 2, none⟩ : Addr) = some (.int .i64 r02) ∧ w25.cell? (⟨w1.heap.size, 3, none⟩ : Addr) = some (.bool r03) ∧ w25.cell? (⟨w1.heap.size, 4, none⟩ : Addr) = some (.slice r04A r04N r04C) ∧ w25.cell? (⟨w1.heap.size, 5, none⟩ : Addr) = some (.slice r05A r05N r05C) ∧ w25.cell? (⟨w1.heap.size, 6, none⟩ : Addr) = some (.string r06)) ∧
  R (.agg #[(.int .i64 r00), (.int .i64 r01), (.int .i64 r02), (.bool r03), (.slice r04A r04N r04C), (.slice r05A r05N r05C), (.string r06)]) w25)))
theorem coadjutorlaw29_fit.vc_eq (c0 : Int) (c1 : Int) (c2 : Int) (c3 : Bool) (c4A : Option Addr) (c4N : Nat) (c4C : Nat) (c5A : Option Addr) (c5N : Nat) (c5C : Nat) (c6 : ByteArray) (w : World) (R : Value → World → Prop) : fnV Try.prog Try.f50 (.cut 5 [(4, some (.slice)), (5, none), (19, none), (20, none), (21, none), (22, none), (23, none), (24, none), (25, none), (26, none), (27, none), (28, none), (29, none), (30, none), (31, none), (32, none), (33, none), (34, none), (35, none), (36, none), (37, none), (38, none)] (.lp [(4, some (.slice)), (5, some (.int .i64)), (19, none), (20, none), (21, none), (22, none), (23, none), (24, none), (25, none), (26, none), (27, none), (28, none), (29, none), (30, none), (31, none), (32, none), (33, none), (34, none), (35, none), (36, none), (37, none), (38, none)] (.at_ 6 5 (.c .nil .nil) (.k .nil))) (.cut 1 [(6, some (.slice)), (7, none), (40, none), (41, none), (42, none), (43, none), (44, none), (45, none), (46, none), (47, none), (48, none), (49, none), (50, none), (51, none), (52, none), (53, none), (54, none), (55, none), (56, none), (57, none), (58, none), (59, none)] (.lp [(6, some (.slice)), (7, some (.int .i64)), (40, none), (41, none), (42, none), (43, none), (44, none), (45, none), (46, none), (47, none), (48, none), (49, none), (50, none), (51, none), (52, none), (53, none), (54, none), (55, none), (56, none), (57, none), (58, none), (59, none)] (.at_ 11 5 (.c .nil .nil) (.k .nil))) .nil)) [(.agg #[(.int .i64 c0), (.int .i64 c1), (.int .i64 c2), (.bool c3), (.slice c4A c4N c4C), (.slice c5A c5N c5C), (.string c6)])] w R = coadjutorlaw29_fit.vc c0 c1 c2 c3 c4A c4N c4C c5A c5N c5C c6 w R := by kernel_rfl
theorem coadjutorlaw29_fit.calls (c0 : Int) (c1 : Int) (c2 : Int) (c3 : Bool) (c4A : Option Addr) (c4N : Nat) (c4C : Nat) (c5A : Option Addr) (c5N : Nat) (c5C : Nat) (c6 : ByteArray) {w : World} {R : Value → World → Prop} (h : coadjutorlaw29_fit.vc c0 c1 c2 c3 c4A c4N c4C c5A c5N c5C c6 w R) : Calls Try.prog 50 #[(.agg #[(.int .i64 c0), (.int .i64 c1), (.int .i64 c2), (.bool c3), (.slice c4A c4N c4C), (.slice c5A c5N c5C), (.string c6)])] w (Ret R) :=
  calls_V fit Try.func50 (.cut 5 [(4, some (.slice)), (5, none), (19, none), (20, none), (21, none), (22, none), (23, none), (24, none), (25, none), (26, none), (27, none), (28, none), (29, none), (30, none), (31, none), (32, none), (33, none), (34, none), (35, none), (36, none), (37, none), (38, none)] (.lp [(4, some (.slice)), (5, some (.int .i64)), (19, none), (20, none), (21, none), (22, none), (23, none), (24, none), (25, none), (26, none), (27, none), (28, none), (29, none), (30, none), (31, none), (32, none), (33, none), (34, none), (35, none), (36, none), (37, none), (38, none)] (.at_ 6 5 (.c .nil .nil) (.k .nil))) (.cut 1 [(6, some (.slice)), (7, none), (40, none), (41, none), (42, none), (43, none), (44, none), (45, none), (46, none), (47, none), (48, none), (49, none), (50, none), (51, none), (52, none), (53, none), (54, none), (55, none), (56, none), (57, none), (58, none), (59, none)] (.lp [(6, some (.slice)), (7, some (.int .i64)), (40, none), (41, none), (42, none), (43, none), (44, none), (45, none), (46, none), (47, none), (48, none), (49, none), (50, none), (51, none), (52, none), (53, none), (54, none), (55, none), (56, none), (57, none), (58, none), (59, none)] (.at_ 11 5 (.c .nil .nil) (.k .nil))) .nil)) (by rw [show (#[(.agg #[(.int .i64 c0), (.int .i64 c1), (.int .i64 c2), (.bool c3), (.slice c4A c4N c4C), (.slice c5A c5N c5C), (.string c6)])] : Array Value).toList = [(.agg #[(.int .i64 c0), (.int .i64 c1), (.int .i64 c2), (.bool c3), (.slice c4A c4N c4C), (.slice c5A c5N c5C), (.string c6)])] from rfl, coadjutorlaw29_fit.vc_eq]; exact h)
/-- function 30 -/
def coadjutorlaw29_awake.vc (w : World) (R : Value → World → Prop) : Prop :=
  Calls Try.prog 39 #[(.agg #[(.int .i64 13), (.int .i64 0), (.int .i64 0), (.bool false), (.slice none 0 0), (.slice none 0 0), (.string ByteArray.empty)])] w (Ret fun v w1 => ∃ (x13_0 : ByteArray), ∃ (x13_1 : Int), v = (.tuple #[(.string x13_0), (.int .i64 x13_1)]) ∧
  Calls Try.prog 39 #[(.agg #[(.int .i64 5), (.int .i64 0), (.int .i64 (-1)), (.bool false), (.slice none 0 0), (.slice none 0 0), (.string ByteArray.empty)])] w1 (Ret fun v_1 w2 => ∃ (x18_0 : ByteArray), ∃ (x18_1 : Int), v_1 = (.tuple #[(.string x18_0), (.int .i64 x18_1)]) ∧
  Calls Try.prog 48 #[(.string (ByteArray.mk #[6, 1]))] w2 (Ret fun v_2 w3 => ∃ (x22_00 : Int), ∃ (x22_01 : Int), ∃ (x22_02 : Int), ∃ (x22_03 : Bool), ∃ (x22_04A : Option Addr), ∃ (x22_04N : Nat), ∃ (x22_04C : Nat), ∃ (x22_05A : Option Addr), ∃ (x22_05N : Nat), ∃ (x22_05C : Nat), ∃ (x22_06 : ByteArray), ∃ (x22_1 : Int), v_2 = (.tuple #[(.agg #[(.int .i64 x22_00), (.int .i64 x22_01), (.int .i64 x22_02), (.bool x22_03), (.slice x22_04A x22_04N x22_04C), (.slice x22_05A x22_05N x22_05C), (.string x22_06)]), (.int .i64 x22_1)]) ∧
  ∀ w4 : World, w4 = w3.alloc (.cells #[(.int .i64 0), (.int .i64 0), (.int .i64 0), (.bool false), (.slice none 0 0), (.slice none 0 0), (.string ByteArray.empty)] 72 (0, 0)) →
  (((∃ u, w4.cell? (⟨w3.heap.size, 0, none⟩ : Addr) = some u) ∧ w4.frozen? (⟨w3.heap.size, 0, none⟩ : Addr) = false) ∧ ((∃ u, w4.cell? (⟨w3.heap.size, 1, none⟩ : Addr) = some u) ∧ w4.frozen? (⟨w3.heap.size, 1, none⟩ : Addr) = false) ∧ ((∃ u, w4.cell? (⟨w3.heap.size, 2, none⟩ : Addr) = some u) ∧ w4.frozen? (⟨w3.heap.size, 2, none⟩ : Addr) = false) ∧ ((∃ u, w4.cell? (⟨w3.heap.size, 3, none⟩ : Addr) = some u) ∧ w4.frozen? (⟨w3.heap.size, 3, none⟩ : Addr) = false) ∧ ((∃ u, w4.cell? (⟨w3.heap.size, 4, none⟩ : Addr) = some u) ∧ w4.frozen? (⟨w3.heap.size, 4, none⟩ : Addr) = false) ∧ ((∃ u, w4.cell? (⟨w3.heap.size, 5, none⟩ : Addr) = some u) ∧ w4.frozen? (⟨w3.heap.size, 5, none⟩ : Addr) = false) ∧ ((∃ u, w4.cell? (⟨w3.heap.size, 6, none⟩ : Addr) = some u) ∧ w4.frozen? (⟨w3.heap.size, 6, none⟩ : Addr) = false)) ∧ ∀ w5 : World, w5 = (((((((w4.setCell (⟨w3.heap.size, 0, none⟩ : Addr) (.int .i64 x22_00)).setCell (⟨w3.heap.size, 1, none⟩ : Addr) (.int .i64 x22_01)).setCell (⟨w3.heap.size, 2, none⟩ : Addr) (.int .i64 x22_02)).setCell (⟨w3.heap.size, 3, none⟩ : Addr) (.bool x22_03)).setCell (⟨w3.heap.size, 4, none⟩ : Addr) (.slice x22_04A x22_04N x22_04C)).setCell (⟨w3.heap.size, 5, none⟩ : Addr) (.slice x22_05A x22_05N x22_05C)).setCell (⟨w3.heap.size, 6, none⟩ : Addr) (.string x22_06)) →
  Calls Try.prog 39 #[(.agg #[(.int .i64 13), (.int .i64 0), (.int .i64 1), (.bool false), (.slice none 0 0), (.slice none 0 0), (.string ByteArray.empty)])] w5 (Ret fun v_3 w6 => ∃ (x27_0 : ByteArray), ∃ (x27_1 : Int), v_3 = (.tuple #[(.string x27_0), (.int .i64 x27_1)]) ∧
  ∃ (x310 : Int), ∃ (x311 : Int), ∃ (x312 : Int), ∃ (x313 : Bool), ∃ (x314A : Option Addr), ∃ (x314N : Nat), ∃ (x314C : Nat), ∃ (x315A : Option Addr), ∃ (x315N : Nat), ∃ (x315C : Nat), ∃ (x316 : ByteArray), (w6.cell? (⟨w3.heap.size, 0, none⟩ : Addr) = some (.int .i64 x310) ∧ w6.cell? (⟨w3.heap.size, 1, none⟩ : Addr) = some (.int .i64 x311) ∧ w6.cell? (⟨w3.heap.size, 2, none⟩ : Addr) = some (.int .i64 x312) ∧ w6.cell? (⟨w3.heap.size, 3, none⟩ : Addr) = some (.bool x313) ∧ w6.cell? (⟨w3.heap.size, 4, none⟩ : Addr) = some (.slice x314A x314N x314C) ∧ w6.cell? (⟨w3.heap.size, 5, none⟩ : Addr) = some (.slice x315A x315N x315C) ∧ w6.cell? (⟨w3.heap.size, 6, none⟩ : Addr) = some (.string x316)) ∧
  ∀ w7 : World, w7 = w6.alloc (.cells #[(.int .i64 x310), (.int .i64 x311), (.int .i64 x312), (.bool x313), (.slice x314A x314N x314C), (.slice x315A x315N x315C), (.string x316)] 72 (0, 0)) →
  Calls Try.prog 34 #[(.slice (some (⟨w6.heap.size, 0, none⟩ : Addr)) 1 1)] w7 (Ret fun v_4 w8 => ∃ (x33_0 : ByteArray), ∃ (x33_1 : Int), v_4 = (.tuple #[(.string x33_0), (.int .i64 x33_1)]) ∧
  ((x13_0.toList == (ByteArray.mk #[13]).toList) = true →
  ((x13_1 == (0 : Int)) = true →
  ((x18_0.toList == (ByteArray.mk #[5, 255, 255, 255, 127]).toList) = true →
  ((x18_1 == (0 : Int)) = true →
  ∃ (x52 : Bool), w8.cell? (⟨w3.heap.size, 3, none⟩ : Addr) = some (.bool x52) ∧
  (x52 = true →
  ((x22_1 == (0 : Int)) = true →
  ((x27_1 == (1 : Int)) = true →
  ((x33_0.toList == (ByteArray.mk #[1, 0, 0, 0, 2, 0, 0, 0, 6, 1]).toList) = true →
  ((x33_1 == (0 : Int)) = true →
  Calls Try.prog 42 #[(.int .i64 8)] w8 (Ret fun v_5 w9 => ∃ (x71 : ByteArray), v_5 = (.string x71) ∧
  R (.bool (x71.toList == (ByteArray.mk #[99, 104, 117, 110, 107]).toList)) w9)) ∧
  ((x33_1 == (0 : Int)) = false →
  R (.bool false) w8)) ∧
  ((x33_0.toList == (ByteArray.mk #[1, 0, 0, 0, 2, 0, 0, 0, 6, 1]).toList) = false →
  R (.bool false) w8)) ∧
  ((x27_1 == (1 : Int)) = false →
  R (.bool false) w8)) ∧
  ((x22_1 == (0 : Int)) = false →
  R (.bool false) w8)) ∧
  (x52 = false →
  R (.bool false) w8)) ∧
  ((x18_1 == (0 : Int)) = false →
  R (.bool false) w8)) ∧
  ((x18_0.toList == (ByteArray.mk #[5, 255, 255, 255, 127]).toList) = false →
  R (.bool false) w8)) ∧
  ((x13_1 == (0 : Int)) = false →
  R (.bool false) w8)) ∧
  ((x13_0.toList == (ByteArray.mk #[13]).toList) = false →
  R (.bool false) w8))))))
theorem coadjutorlaw29_awake.vc_eq (w : World) (R : Value → World → Prop) : fnV Try.prog Try.f30 (.at_ 6 2 (.at_ 6 6 (.at_ 6 10 (.at_ 6 14 (.at_ 6 18 (.at_ 6 22 (.at_ 6 26 (.at_ 6 30 (.at_ 6 34 .nil .nil) .nil) .nil) .nil) .nil) .nil) .nil) .nil) .nil) [] w R = coadjutorlaw29_awake.vc  w R := by kernel_rfl
theorem coadjutorlaw29_awake.calls {w : World} {R : Value → World → Prop} (h : coadjutorlaw29_awake.vc  w R) : Calls Try.prog 30 #[] w (Ret R) :=
  calls_V fit Try.func30 (.at_ 6 2 (.at_ 6 6 (.at_ 6 10 (.at_ 6 14 (.at_ 6 18 (.at_ 6 22 (.at_ 6 26 (.at_ 6 30 (.at_ 6 34 .nil .nil) .nil) .nil) .nil) .nil) .nil) .nil) .nil) .nil) (by rw [show (#[] : Array Value).toList = [] from rfl, coadjutorlaw29_awake.vc_eq]; exact h)
end Go.Proofs.Ytamkffjmggbekaa.Vc
