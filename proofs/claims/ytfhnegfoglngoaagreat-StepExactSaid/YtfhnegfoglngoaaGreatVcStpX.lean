import Derived.Test.YtfhnegfoglngoaaGreatVc
import Derived.Test.YtfhnegfoglngoaaGreatH
import Derived.Test.YtfhnegfoglngoaaGreatProg
import Derived.KernelRfl
set_option linter.unusedVariables false
set_option maxRecDepth 100000
namespace Go.Proofs.YtfhnegfoglngoaaGreat.Vc
open Go Go.Proofs Go.Proofs.YtfhnegfoglngoaaGreat.V
/-- function 10 -/
def step_Good.vc_nl (e0A : Option Addr) (e0N : Nat) (e0C : Nat) (e1A : Option Addr) (e1N : Nat) (e1C : Nat) (w : World) (R : Value → World → Prop) : Prop :=
  ∀ w1 : World, w1 = w.alloc (.cells #[(.slice e0A e0N e0C), (.slice e1A e1N e1C)] 29 (0, 0)) →
  ∃ vS : World → Prop, ∀ w2 : World, w2 = w1.drew → vS w2 ∧
  R (.bool false) w2
theorem step_Good.vc_nl_eq (e0A : Option Addr) (e0N : Nat) (e0C : Nat) (e1A : Option Addr) (e1N : Nat) (e1C : Nat) (w : World) (R : Value → World → Prop) : fnV Tryz.prog Tryz.f10 (.tk 0 (.tk 1 (.tk 2 (.tk 3 (.tk 4 (.tk 5 (.tk 6 (.tk 7 (.tk 8 (.tk 9 (.tk 10 (.tk 11 (.tk 12 (.tk 13 (.tk 14 (.tk 15 (.tk 16 (.tk 17 (.tk 18 (.tk 19 (.tk 20 (.tk 21 (.tk 22 (.tk 23 (.tk 24 (.tk 25 (.tk 26 (.tk 27 (.tk 28 (.tk 29 (.tk 30 (.tk 31 (.tk 32 (.tk 33 (.tk 34 (.tk 35 (.tk 36 (.fin .nil)))))))))))))))))))))))))))))))))))))) [(.pointer none), (.agg #[(.slice e0A e0N e0C), (.slice e1A e1N e1C)])] w R = step_Good.vc_nl e0A e0N e0C e1A e1N e1C w R := by kernel_rfl
theorem step_Good.calls_nl (e0A : Option Addr) (e0N : Nat) (e0C : Nat) (e1A : Option Addr) (e1N : Nat) (e1C : Nat) {w : World} {R : Value → World → Prop} (h : step_Good.vc_nl e0A e0N e0C e1A e1N e1C w R) : Calls Tryz.prog 10 #[(.pointer none), (.agg #[(.slice e0A e0N e0C), (.slice e1A e1N e1C)])] w (Ret R) :=
  calls_V fit Tryz.func10 (.tk 0 (.tk 1 (.tk 2 (.tk 3 (.tk 4 (.tk 5 (.tk 6 (.tk 7 (.tk 8 (.tk 9 (.tk 10 (.tk 11 (.tk 12 (.tk 13 (.tk 14 (.tk 15 (.tk 16 (.tk 17 (.tk 18 (.tk 19 (.tk 20 (.tk 21 (.tk 22 (.tk 23 (.tk 24 (.tk 25 (.tk 26 (.tk 27 (.tk 28 (.tk 29 (.tk 30 (.tk 31 (.tk 32 (.tk 33 (.tk 34 (.tk 35 (.tk 36 (.fin .nil)))))))))))))))))))))))))))))))))))))) (by rw [show (#[(.pointer none), (.agg #[(.slice e0A e0N e0C), (.slice e1A e1N e1C)])] : Array Value).toList = [(.pointer none), (.agg #[(.slice e0A e0N e0C), (.slice e1A e1N e1C)])] from rfl, step_Good.vc_nl_eq]; exact h)
/-- function 8 -/
def coadjutorlaw17_forms.vc (lA : Option Addr) (lN : Nat) (lC : Nat) (w : World) (R : Value → World → Prop) : Prop :=
  ∀ w1 : World, w1 = w.alloc (.cells #[] 42 (0, 0)) →
  ∃ vI : Option Addr → Nat → Nat → Int → Nat → World → Prop, (∃ vk_2 : Nat, vI (some (⟨w.heap.size, 0, none⟩ : Addr)) 0 0 0 vk_2 w1) ∧
  ∀ (jk : Nat → Value) (outA : Option Addr) (outN : Nat) (outC : Nat) (i : Int), ∀ (vk : Nat) (w2 : World), vI outA outN outC i vk w2 →
  (decide (i < ((lN : Nat) : Int)) = true →
  ∃ vS : World → Prop, ∀ w3 : World, w3 = w2.drew → vS w3 ∧
  (0 ≤ i ∧ i < ((lN : Nat) : Int)) ∧ someV lA fun p =>
  ∃ (x17A : Option Addr), ∃ (x17N : Nat), ∃ (x17C : Nat), (∀ w4, vS w4 → w4.cell? (p.add (i.toNat * 2)) = some (.slice x17A x17N x17C)) ∧
  (0 ≤ i ∧ i < ((lN : Nat) : Int)) ∧ someV lA fun p_1 =>
  ∃ (x22A : Option Addr), ∃ (x22N : Nat), ∃ (x22C : Nat), (∀ w5, vS w5 → w5.cell? ((p_1.add (i.toNat * 2)).add 1) = some (.slice x22A x22N x22C)) ∧
  ∀ w6 : World, w6 = w3.alloc (.cells #[(.slice x17A x17N x17C), (.slice x22A x22N x22C)] 42 (0, 0)) →
  vS w6 ∧
  ∃ (x25A : Option Addr), ∃ (x25N : Nat), ∃ (x25C : Nat), ∃ w7 : World, (Builtin.append_ #[36, 36] 36 #[(.slice outA outN outC), (.slice (some (⟨w3.heap.size, 0, none⟩ : Addr)) 1 1)]).run Tryz.prog w6 = .ok (.slice x25A x25N x25C) w7 ∧
  vS w7 ∧
  ∃ vk_1 : Nat, vk_1 < vk ∧ vI x25A x25N x25C (IntKind.i64.wrap (i + 1)) vk_1 w7) ∧
  (decide (i < ((lN : Nat) : Int)) = false →
  R (.slice outA outN outC) w2)
theorem coadjutorlaw17_forms.vc_eq (lA : Option Addr) (lN : Nat) (lC : Nat) (w : World) (R : Value → World → Prop) : fnV Tryz.prog Tryz.f8 (.lp [(3, some (.slice)), (4, some (.int .i64)), (6, none), (7, none), (8, none), (9, none), (10, none), (11, none), (12, none), (13, none), (14, none), (15, none), (16, none), (17, none), (18, none), (19, none), (20, none), (21, none), (22, none), (23, none), (24, none), (25, none)] (.c (.tk 0 (.tk 1 (.tk 2 (.tk 3 (.tk 4 (.tk 5 (.tk 6 (.tk 7 (.tk 8 (.tk 9 (.tk 10 (.tk 11 (.alt 12 (.alt 13 (.tk 14 (.fin .nil)) .nil) .nil))))))))))))) .nil)) [(.slice lA lN lC)] w R = coadjutorlaw17_forms.vc lA lN lC w R := by kernel_rfl
theorem coadjutorlaw17_forms.calls (lA : Option Addr) (lN : Nat) (lC : Nat) {w : World} {R : Value → World → Prop} (h : coadjutorlaw17_forms.vc lA lN lC w R) : Calls Tryz.prog 8 #[(.slice lA lN lC)] w (Ret R) :=
  calls_V fit Tryz.func8 (.lp [(3, some (.slice)), (4, some (.int .i64)), (6, none), (7, none), (8, none), (9, none), (10, none), (11, none), (12, none), (13, none), (14, none), (15, none), (16, none), (17, none), (18, none), (19, none), (20, none), (21, none), (22, none), (23, none), (24, none), (25, none)] (.c (.tk 0 (.tk 1 (.tk 2 (.tk 3 (.tk 4 (.tk 5 (.tk 6 (.tk 7 (.tk 8 (.tk 9 (.tk 10 (.tk 11 (.alt 12 (.alt 13 (.tk 14 (.fin .nil)) .nil) .nil))))))))))))) .nil)) (by rw [show (#[(.slice lA lN lC)] : Array Value).toList = [(.slice lA lN lC)] from rfl, coadjutorlaw17_forms.vc_eq]; exact h)
/-- function 13 -/
def coadjutorlaw17_table.vc (aA : Option Addr) (aN : Nat) (aC : Nat) (bA : Option Addr) (bN : Nat) (bC : Nat) (w : World) (R : Value → World → Prop) : Prop :=
  ((((aN : Nat) : Int) != ((bN : Nat) : Int)) = true →
  R (.bool false) w) ∧
  ((((aN : Nat) : Int) != ((bN : Nat) : Int)) = false →
  ∃ vI : Int → Nat → World → Prop, (∃ vk_2 : Nat, vI 0 vk_2 w) ∧
  ∀ (jk : Nat → Value) (i : Int), ∀ (vk : Nat) (w1 : World), vI i vk w1 →
  (decide (i < ((aN : Nat) : Int)) = true →
  ∃ vS : World → Prop, ∀ w2 : World, w2 = w1.drew → vS w2 ∧
  (0 ≤ i ∧ i < ((aN : Nat) : Int)) ∧ someV aA fun p =>
  ∃ (x20A : Option Addr), ∃ (x20N : Nat), ∃ (x20C : Nat), (∀ w3, vS w3 → w3.cell? (p.add (i.toNat * 1)) = some (.slice x20A x20N x20C)) ∧
  (0 ≤ i ∧ i < ((bN : Nat) : Int)) ∧ someV bA fun p_1 =>
  ∃ (x24A : Option Addr), ∃ (x24N : Nat), ∃ (x24C : Nat), (∀ w4, vS w4 → w4.cell? (p_1.add (i.toNat * 1)) = some (.slice x24A x24N x24C)) ∧
  Calls Tryz.prog 16 #[(.slice x20A x20N x20C), (.slice x24A x24N x24C)] w2 (Ret fun v w5 => ∃ (x25 : Bool), v = (.bool x25) ∧
  vS w5 ∧
  ((!x25) = true →
  R (.bool false) w5) ∧
  ((!x25) = false →
  ∃ vk_1 : Nat, vk_1 < vk ∧ vI (IntKind.i64.wrap (i + 1)) vk_1 w5))) ∧
  (decide (i < ((aN : Nat) : Int)) = false →
  R (.bool true) w1))
theorem coadjutorlaw17_table.vc_eq (aA : Option Addr) (aN : Nat) (aC : Nat) (bA : Option Addr) (bN : Nat) (bC : Nat) (w : World) (R : Value → World → Prop) : fnV Tryz.prog Tryz.f13 (.c .nil (.lp [(4, none), (5, some (.int .i64)), (11, none), (12, none), (13, none), (14, none), (15, none), (16, none), (17, none), (18, none), (19, none), (20, none), (21, none), (22, none), (23, none), (24, none), (25, none), (26, none)] (.c (.tk 0 (.tk 1 (.tk 2 (.tk 3 (.tk 4 (.tk 5 (.tk 6 (.tk 7 (.alt 8 (.tk 9 (.fin (.c .nil .nil))) .nil))))))))) .nil))) [(.slice aA aN aC), (.slice bA bN bC)] w R = coadjutorlaw17_table.vc aA aN aC bA bN bC w R := by kernel_rfl
theorem coadjutorlaw17_table.calls (aA : Option Addr) (aN : Nat) (aC : Nat) (bA : Option Addr) (bN : Nat) (bC : Nat) {w : World} {R : Value → World → Prop} (h : coadjutorlaw17_table.vc aA aN aC bA bN bC w R) : Calls Tryz.prog 13 #[(.slice aA aN aC), (.slice bA bN bC)] w (Ret R) :=
  calls_V fit Tryz.func13 (.c .nil (.lp [(4, none), (5, some (.int .i64)), (11, none), (12, none), (13, none), (14, none), (15, none), (16, none), (17, none), (18, none), (19, none), (20, none), (21, none), (22, none), (23, none), (24, none), (25, none), (26, none)] (.c (.tk 0 (.tk 1 (.tk 2 (.tk 3 (.tk 4 (.tk 5 (.tk 6 (.tk 7 (.alt 8 (.tk 9 (.fin (.c .nil .nil))) .nil))))))))) .nil))) (by rw [show (#[(.slice aA aN aC), (.slice bA bN bC)] : Array Value).toList = [(.slice aA aN aC), (.slice bA bN bC)] from rfl, coadjutorlaw17_table.vc_eq]; exact h)
/-- function 3 -/
def coadjutorlaw17_StepExact.vc (c0 : Int) (c1 : Int) (c2 : Int) (c3 : Int) (c4 : Int) (c5 : Int) (weights : ByteArray) (pastA : Option Addr) (pastN : Nat) (pastC : Nat) (token : Int) (w : World) (R : Value → World → Prop) : Prop :=
  ∀ w1 : World, w1 = w.alloc (.cells #[(.int .i64 c0), (.int .i64 c1), (.int .i64 c2), (.int .i64 c3), (.int .i64 c4), (.int .i64 c5)] 23 (0, 0)) →
  Calls Tryz.prog 5 #[] w1 (Ret fun v w2 => ∃ (x22 : Bool), v = (.bool x22) ∧
  ((!x22) = true →
  R (.bool false) w2) ∧
  ((!x22) = false →
  (decide (((pastN : Nat) : Int) > (6 : Int)) = true →
  R (.bool true) w2) ∧
  (decide (((pastN : Nat) : Int) > (6 : Int)) = false →
  ∃ (x280 : Int), ∃ (x281 : Int), ∃ (x282 : Int), ∃ (x283 : Int), ∃ (x284 : Int), ∃ (x285 : Int), (w2.cell? (⟨w.heap.size, 0, none⟩ : Addr) = some (.int .i64 x280) ∧ w2.cell? (⟨w.heap.size, 1, none⟩ : Addr) = some (.int .i64 x281) ∧ w2.cell? (⟨w.heap.size, 2, none⟩ : Addr) = some (.int .i64 x282) ∧ w2.cell? (⟨w.heap.size, 3, none⟩ : Addr) = some (.int .i64 x283) ∧ w2.cell? (⟨w.heap.size, 4, none⟩ : Addr) = some (.int .i64 x284) ∧ w2.cell? (⟨w.heap.size, 5, none⟩ : Addr) = some (.int .i64 x285)) ∧
  Calls Tryz.prog 6 #[(.agg #[(.int .i64 x280), (.int .i64 x281), (.int .i64 x282), (.int .i64 x283), (.int .i64 x284), (.int .i64 x285)])] w2 (Ret fun v_1 w3 => ∃ (x29 : Bool), v_1 = (.bool x29) ∧
  ((!x29) = true →
  R (.bool true) w3) ∧
  ((!x29) = false →
  (decide (((weights.size : Nat) : Int) > (2048 : Int)) = true →
  R (.bool true) w3) ∧
  (decide (((weights.size : Nat) : Int) > (2048 : Int)) = false →
  ∃ vI : Int → Nat → World → Prop, (∃ vk_2 : Nat, vI 0 vk_2 w3) ∧
  ∀ (jk : Nat → Value) (i : Int), ∀ (vk : Nat) (w4 : World), vI i vk w4 →
  (decide (i < ((pastN : Nat) : Int)) = true →
  (0 ≤ i ∧ i < ((pastN : Nat) : Int)) ∧ someV pastA fun p =>
  ∃ (x47A : Option Addr), ∃ (x47N : Nat), ∃ (x47C : Nat), w4.cell? (p.add (i.toNat * 2)) = some (.slice x47A x47N x47C) ∧
  (decide (((x47N : Nat) : Int) > (4 : Int)) = true →
  R (.bool true) w4) ∧
  (decide (((x47N : Nat) : Int) > (4 : Int)) = false →
  (0 ≤ i ∧ i < ((pastN : Nat) : Int)) ∧ someV pastA fun p_1 =>
  ∃ (x55A : Option Addr), ∃ (x55N : Nat), ∃ (x55C : Nat), w4.cell? ((p_1.add (i.toNat * 2)).add 1) = some (.slice x55A x55N x55C) ∧
  (decide (((x55N : Nat) : Int) > (4 : Int)) = true →
  R (.bool true) w4) ∧
  (decide (((x55N : Nat) : Int) > (4 : Int)) = false →
  ∃ vk_1 : Nat, vk_1 < vk ∧ vI (IntKind.i64.wrap (i + 1)) vk_1 w4))) ∧
  (decide (i < ((pastN : Nat) : Int)) = false →
  ∃ (x600 : Int), ∃ (x601 : Int), ∃ (x602 : Int), ∃ (x603 : Int), ∃ (x604 : Int), ∃ (x605 : Int), (w4.cell? (⟨w.heap.size, 0, none⟩ : Addr) = some (.int .i64 x600) ∧ w4.cell? (⟨w.heap.size, 1, none⟩ : Addr) = some (.int .i64 x601) ∧ w4.cell? (⟨w.heap.size, 2, none⟩ : Addr) = some (.int .i64 x602) ∧ w4.cell? (⟨w.heap.size, 3, none⟩ : Addr) = some (.int .i64 x603) ∧ w4.cell? (⟨w.heap.size, 4, none⟩ : Addr) = some (.int .i64 x604) ∧ w4.cell? (⟨w.heap.size, 5, none⟩ : Addr) = some (.int .i64 x605)) ∧
  Calls Tryz.prog 7 #[(.agg #[(.int .i64 x600), (.int .i64 x601), (.int .i64 x602), (.int .i64 x603), (.int .i64 x604), (.int .i64 x605)]), (.string weights)] w4 (Ret fun v_2 w5 => ∃ (x62_0 : Option Addr), ∃ (x62_1 : Int), v_2 = (.tuple #[(.pointer x62_0), (.int .i64 x62_1)]) ∧
  ((x62_1 != (0 : Int)) = true →
  R (.bool x62_0.isNone) w5) ∧
  ((x62_1 != (0 : Int)) = false →
  ∃ (x690 : Int), ∃ (x691 : Int), ∃ (x692 : Int), ∃ (x693 : Int), ∃ (x694 : Int), ∃ (x695 : Int), (w5.cell? (⟨w.heap.size, 0, none⟩ : Addr) = some (.int .i64 x690) ∧ w5.cell? (⟨w.heap.size, 1, none⟩ : Addr) = some (.int .i64 x691) ∧ w5.cell? (⟨w.heap.size, 2, none⟩ : Addr) = some (.int .i64 x692) ∧ w5.cell? (⟨w.heap.size, 3, none⟩ : Addr) = some (.int .i64 x693) ∧ w5.cell? (⟨w.heap.size, 4, none⟩ : Addr) = some (.int .i64 x694) ∧ w5.cell? (⟨w.heap.size, 5, none⟩ : Addr) = some (.int .i64 x695)) ∧
  ∀ w6 : World, w6 = w5.alloc (.cells #[(.int .i64 0), (.int .i64 0), (.int .i64 0), (.int .i64 0), (.int .i64 0), (.int .i64 0), (.string ByteArray.empty)] 35 (0, 0)) →
  (((∃ u, w6.cell? (⟨w5.heap.size, 0, none⟩ : Addr) = some u) ∧ w6.frozen? (⟨w5.heap.size, 0, none⟩ : Addr) = false) ∧ ((∃ u, w6.cell? (⟨w5.heap.size, 1, none⟩ : Addr) = some u) ∧ w6.frozen? (⟨w5.heap.size, 1, none⟩ : Addr) = false) ∧ ((∃ u, w6.cell? (⟨w5.heap.size, 2, none⟩ : Addr) = some u) ∧ w6.frozen? (⟨w5.heap.size, 2, none⟩ : Addr) = false) ∧ ((∃ u, w6.cell? (⟨w5.heap.size, 3, none⟩ : Addr) = some u) ∧ w6.frozen? (⟨w5.heap.size, 3, none⟩ : Addr) = false) ∧ ((∃ u, w6.cell? (⟨w5.heap.size, 4, none⟩ : Addr) = some u) ∧ w6.frozen? (⟨w5.heap.size, 4, none⟩ : Addr) = false) ∧ ((∃ u, w6.cell? (⟨w5.heap.size, 5, none⟩ : Addr) = some u) ∧ w6.frozen? (⟨w5.heap.size, 5, none⟩ : Addr) = false) ∧ ((∃ u, w6.cell? (⟨w5.heap.size, 6, none⟩ : Addr) = some u) ∧ w6.frozen? (⟨w5.heap.size, 6, none⟩ : Addr) = false)) ∧ ∀ w7 : World, w7 = (((((((w6.setCell (⟨w5.heap.size, 0, none⟩ : Addr) (.int .i64 x690)).setCell (⟨w5.heap.size, 1, none⟩ : Addr) (.int .i64 x691)).setCell (⟨w5.heap.size, 2, none⟩ : Addr) (.int .i64 x692)).setCell (⟨w5.heap.size, 3, none⟩ : Addr) (.int .i64 x693)).setCell (⟨w5.heap.size, 4, none⟩ : Addr) (.int .i64 x694)).setCell (⟨w5.heap.size, 5, none⟩ : Addr) (.int .i64 x695)).setCell (⟨w5.heap.size, 6, none⟩ : Addr) (.string weights)) →
  Calls Tryz.prog 8 #[(.slice pastA pastN pastC)] w7 (Ret fun v_3 w8 => ∃ (x73A : Option Addr), ∃ (x73N : Nat), ∃ (x73C : Nat), v_3 = (.slice x73A x73N x73C) ∧
  ∃ vI_1 : Int → Nat → World → Prop, (∃ vk_5 : Nat, vI_1 0 vk_5 w8) ∧
  ∀ (jk : Nat → Value) (i_1 : Int), ∀ (vk_3 : Nat) (w9 : World), vI_1 i_1 vk_3 w9 →
  (decide (i_1 < ((pastN : Nat) : Int)) = true →
  (0 ≤ i_1 ∧ i_1 < ((pastN : Nat) : Int)) ∧ someV pastA fun p_2 =>
  ∃ (x830A : Option Addr), ∃ (x830N : Nat), ∃ (x830C : Nat), ∃ (x831A : Option Addr), ∃ (x831N : Nat), ∃ (x831C : Nat), (w9.cell? (p_2.add (i_1.toNat * 2)) = some (.slice x830A x830N x830C) ∧ w9.cell? ((p_2.add (i_1.toNat * 2)).add 1) = some (.slice x831A x831N x831C)) ∧
  Calls Tryz.prog 9 #[(.agg #[(.slice x830A x830N x830C), (.slice x831A x831N x831C)])] w9 (Ret fun v_4 w10 => ∃ (x840A : Option Addr), ∃ (x840N : Nat), ∃ (x840C : Nat), ∃ (x841A : Option Addr), ∃ (x841N : Nat), ∃ (x841C : Nat), v_4 = (.agg #[(.slice x840A x840N x840C), (.slice x841A x841N x841C)]) ∧
  ∀ w11 : World, w11 = w10.alloc (.cells #[(.slice none 0 0), (.slice none 0 0)] 29 (0, 0)) →
  (((∃ u, w11.cell? (⟨w10.heap.size, 0, none⟩ : Addr) = some u) ∧ w11.frozen? (⟨w10.heap.size, 0, none⟩ : Addr) = false) ∧ ((∃ u, w11.cell? (⟨w10.heap.size, 1, none⟩ : Addr) = some u) ∧ w11.frozen? (⟨w10.heap.size, 1, none⟩ : Addr) = false)) ∧ ∀ w12 : World, w12 = ((w11.setCell (⟨w10.heap.size, 0, none⟩ : Addr) (.slice x840A x840N x840C)).setCell (⟨w10.heap.size, 1, none⟩ : Addr) (.slice x841A x841N x841C)) →
  ∃ vS : World → Prop, ∀ w13 : World, w13 = w12.drew → vS w13 ∧
  (0 ≤ i_1 ∧ i_1 < ((pastN : Nat) : Int)) ∧ someV pastA fun p_3 =>
  ∃ (x890A : Option Addr), ∃ (x890N : Nat), ∃ (x890C : Nat), ∃ (x891A : Option Addr), ∃ (x891N : Nat), ∃ (x891C : Nat), ((∀ w14, vS w14 → w14.cell? (p_3.add (i_1.toNat * 2)) = some (.slice x890A x890N x890C)) ∧ (∀ w14, vS w14 → w14.cell? ((p_3.add (i_1.toNat * 2)).add 1) = some (.slice x891A x891N x891C))) ∧
  ∃ (x910 : Int), ∃ (x911 : Int), ∃ (x912 : Int), ∃ (x913 : Int), ∃ (x914 : Int), ∃ (x915 : Int), ∃ (x916 : ByteArray), ((∀ w15, vS w15 → w15.cell? (⟨w5.heap.size, 0, none⟩ : Addr) = some (.int .i64 x910)) ∧ (∀ w15, vS w15 → w15.cell? (⟨w5.heap.size, 1, none⟩ : Addr) = some (.int .i64 x911)) ∧ (∀ w15, vS w15 → w15.cell? (⟨w5.heap.size, 2, none⟩ : Addr) = some (.int .i64 x912)) ∧ (∀ w15, vS w15 → w15.cell? (⟨w5.heap.size, 3, none⟩ : Addr) = some (.int .i64 x913)) ∧ (∀ w15, vS w15 → w15.cell? (⟨w5.heap.size, 4, none⟩ : Addr) = some (.int .i64 x914)) ∧ (∀ w15, vS w15 → w15.cell? (⟨w5.heap.size, 5, none⟩ : Addr) = some (.int .i64 x915)) ∧ (∀ w15, vS w15 → w15.cell? (⟨w5.heap.size, 6, none⟩ : Addr) = some (.string x916))) ∧
  (0 ≤ i_1 ∧ i_1 < ((x73N : Nat) : Int)) ∧ someV x73A fun p_4 =>
  ∃ (x950A : Option Addr), ∃ (x950N : Nat), ∃ (x950C : Nat), ∃ (x951A : Option Addr), ∃ (x951N : Nat), ∃ (x951C : Nat), ((∀ w16, vS w16 → w16.cell? (p_4.add (i_1.toNat * 2)) = some (.slice x950A x950N x950C)) ∧ (∀ w16, vS w16 → w16.cell? ((p_4.add (i_1.toNat * 2)).add 1) = some (.slice x951A x951N x951C))) ∧
  Calls Tryz.prog 10 #[(.pointer x62_0), (.agg #[(.slice x890A x890N x890C), (.slice x891A x891N x891C)])] w13 (Ret fun v_5 w17 => ∃ (x90 : Bool), v_5 = (.bool x90) ∧
  vS w17 ∧
  Calls Tryz.prog 11 #[(.agg #[(.int .i64 x910), (.int .i64 x911), (.int .i64 x912), (.int .i64 x913), (.int .i64 x914), (.int .i64 x915), (.string x916)]), (.agg #[(.slice x950A x950N x950C), (.slice x951A x951N x951C)])] w17 (Ret fun v_6 w18 => ∃ (x96 : Bool), v_6 = (.bool x96) ∧
  vS w18 ∧
  ((!(x90 == x96)) = true →
  R (.bool false) w18) ∧
  ((!(x90 == x96)) = false →
  ∃ (x990A : Option Addr), ∃ (x990N : Nat), ∃ (x990C : Nat), ∃ (x991A : Option Addr), ∃ (x991N : Nat), ∃ (x991C : Nat), ((∀ w19, vS w19 → w19.cell? (⟨w10.heap.size, 0, none⟩ : Addr) = some (.slice x990A x990N x990C)) ∧ (∀ w19, vS w19 → w19.cell? (⟨w10.heap.size, 1, none⟩ : Addr) = some (.slice x991A x991N x991C))) ∧
  (0 ≤ i_1 ∧ i_1 < ((pastN : Nat) : Int)) ∧ someV pastA fun p_5 =>
  ∃ (x1030A : Option Addr), ∃ (x1030N : Nat), ∃ (x1030C : Nat), ∃ (x1031A : Option Addr), ∃ (x1031N : Nat), ∃ (x1031C : Nat), (w18.cell? (p_5.add (i_1.toNat * 2)) = some (.slice x1030A x1030N x1030C) ∧ w18.cell? ((p_5.add (i_1.toNat * 2)).add 1) = some (.slice x1031A x1031N x1031C)) ∧
  vS w18 ∧
  Calls Tryz.prog 12 #[(.agg #[(.slice x990A x990N x990C), (.slice x991A x991N x991C)]), (.agg #[(.slice x1030A x1030N x1030C), (.slice x1031A x1031N x1031C)])] w18 (Ret fun v_7 w20 => ∃ (x104 : Bool), v_7 = (.bool x104) ∧
  vS w20 ∧
  ((!x104) = true →
  R (.bool false) w20) ∧
  ((!x104) = false →
  ∃ (x109A : Option Addr), ∃ (x109N : Nat), ∃ (x109C : Nat), (∀ w21, vS w21 → w21.cell? (⟨w10.heap.size, 0, none⟩ : Addr) = some (.slice x109A x109N x109C)) ∧
  (0 ≤ i_1 ∧ i_1 < ((pastN : Nat) : Int)) ∧ someV pastA fun p_6 =>
  ∃ (x114A : Option Addr), ∃ (x114N : Nat), ∃ (x114C : Nat), w20.cell? (p_6.add (i_1.toNat * 2)) = some (.slice x114A x114N x114C) ∧
  vS w20 ∧
  Calls Tryz.prog 13 #[(.slice x109A x109N x109C), (.slice x114A x114N x114C)] w20 (Ret fun v_8 w22 => ∃ (x115 : Bool), v_8 = (.bool x115) ∧
  vS w22 ∧
  ((!x115) = true →
  R (.bool false) w22) ∧
  ((!x115) = false →
  ∃ (x120A : Option Addr), ∃ (x120N : Nat), ∃ (x120C : Nat), (∀ w23, vS w23 → w23.cell? (⟨w10.heap.size, 1, none⟩ : Addr) = some (.slice x120A x120N x120C)) ∧
  (0 ≤ i_1 ∧ i_1 < ((pastN : Nat) : Int)) ∧ someV pastA fun p_7 =>
  ∃ (x125A : Option Addr), ∃ (x125N : Nat), ∃ (x125C : Nat), w22.cell? ((p_7.add (i_1.toNat * 2)).add 1) = some (.slice x125A x125N x125C) ∧
  vS w22 ∧
  Calls Tryz.prog 13 #[(.slice x120A x120N x120C), (.slice x125A x125N x125C)] w22 (Ret fun v_9 w24 => ∃ (x126 : Bool), v_9 = (.bool x126) ∧
  vS w24 ∧
  ((!x126) = true →
  R (.bool false) w24) ∧
  ((!x126) = false →
  ∃ vS_1 : World → Prop, ∀ w25 : World, w25 = w24.drew → vS_1 w25 ∧
  (0 ≤ (0 : Int) ∧ (0 : Int) < ((pastN : Nat) : Int)) ∧ someV pastA fun p_8 =>
  ∃ (x1310A : Option Addr), ∃ (x1310N : Nat), ∃ (x1310C : Nat), ∃ (x1311A : Option Addr), ∃ (x1311N : Nat), ∃ (x1311C : Nat), ((∀ w26, vS_1 w26 → w26.cell? p_8 = some (.slice x1310A x1310N x1310C)) ∧ (∀ w26, vS_1 w26 → w26.cell? (p_8.add 1) = some (.slice x1311A x1311N x1311C))) ∧
  (0 ≤ i_1 ∧ i_1 < ((pastN : Nat) : Int)) ∧ someV pastA fun p_9 =>
  ∃ (x1350A : Option Addr), ∃ (x1350N : Nat), ∃ (x1350C : Nat), ∃ (x1351A : Option Addr), ∃ (x1351N : Nat), ∃ (x1351C : Nat), ((∀ w27, vS_1 w27 → w27.cell? (p_9.add (i_1.toNat * 2)) = some (.slice x1350A x1350N x1350C)) ∧ (∀ w27, vS_1 w27 → w27.cell? ((p_9.add (i_1.toNat * 2)).add 1) = some (.slice x1351A x1351N x1351C))) ∧
  (0 ≤ (0 : Int) ∧ (0 : Int) < ((pastN : Nat) : Int)) ∧ someV pastA fun p_10 =>
  ∃ (x140A : Option Addr), ∃ (x140N : Nat), ∃ (x140C : Nat), (∀ w28, vS_1 w28 → w28.cell? p_10 = some (.slice x140A x140N x140C)) ∧
  (0 ≤ i_1 ∧ i_1 < ((pastN : Nat) : Int)) ∧ someV pastA fun p_11 =>
  ∃ (x145A : Option Addr), ∃ (x145N : Nat), ∃ (x145C : Nat), (∀ w29, vS_1 w29 → w29.cell? (p_11.add (i_1.toNat * 2)) = some (.slice x145A x145N x145C)) ∧
  Calls Tryz.prog 12 #[(.agg #[(.slice x1310A x1310N x1310C), (.slice x1311A x1311N x1311C)]), (.agg #[(.slice x1350A x1350N x1350C), (.slice x1351A x1351N x1351C)])] w25 (Ret fun v_10 w30 => ∃ (x136 : Bool), v_10 = (.bool x136) ∧
  vS_1 w30 ∧
  Calls Tryz.prog 13 #[(.slice x140A x140N x140C), (.slice x145A x145N x145C)] w30 (Ret fun v_11 w31 => ∃ (x146 : Bool), v_11 = (.bool x146) ∧
  vS_1 w31 ∧
  (x146 = true →
  (0 ≤ (0 : Int) ∧ (0 : Int) < ((pastN : Nat) : Int)) ∧ someV pastA fun p_12 =>
  ∃ (x151A : Option Addr), ∃ (x151N : Nat), ∃ (x151C : Nat), (∀ w32, vS_1 w32 → w32.cell? (p_12.add 1) = some (.slice x151A x151N x151C)) ∧
  (0 ≤ i_1 ∧ i_1 < ((pastN : Nat) : Int)) ∧ someV pastA fun p_13 =>
  ∃ (x156A : Option Addr), ∃ (x156N : Nat), ∃ (x156C : Nat), w31.cell? ((p_13.add (i_1.toNat * 2)).add 1) = some (.slice x156A x156N x156C) ∧
  vS_1 w31 ∧
  Calls Tryz.prog 13 #[(.slice x151A x151N x151C), (.slice x156A x156N x156C)] w31 (Ret fun v_12 w33 => ∃ (x157 : Bool), v_12 = (.bool x157) ∧
  vS_1 w33 ∧
  ((!(x136 == x157)) = true →
  R (.bool false) w33) ∧
  ((!(x136 == x157)) = false →
  ∃ vk_4 : Nat, vk_4 < vk_3 ∧ vI_1 (IntKind.i64.wrap (i_1 + 1)) vk_4 w33))) ∧
  (x146 = false →
  ((!(x136 == false)) = true →
  R (.bool false) w31) ∧
  ((!(x136 == false)) = false →
  ∃ vk_4 : Nat, vk_4 < vk_3 ∧ vI_1 (IntKind.i64.wrap (i_1 + 1)) vk_4 w31))))))))))))))) ∧
  (decide (i_1 < ((pastN : Nat) : Int)) = false →
  Calls Tryz.prog 14 #[(.pointer x62_0), (.slice pastA pastN pastC), (.int .i64 token)] w9 (Ret fun v_13 w34 => ∃ (x164_00A : Option Addr), ∃ (x164_00N : Nat), ∃ (x164_00C : Nat), ∃ (x164_01A : Option Addr), ∃ (x164_01N : Nat), ∃ (x164_01C : Nat), ∃ (x164_1A : Option Addr), ∃ (x164_1N : Nat), ∃ (x164_1C : Nat), ∃ (x164_2 : Int), v_13 = (.tuple #[(.agg #[(.slice x164_00A x164_00N x164_00C), (.slice x164_01A x164_01N x164_01C)]), (.slice x164_1A x164_1N x164_1C), (.int .i64 x164_2)]) ∧
  ∀ w35 : World, w35 = w34.alloc (.cells #[(.slice none 0 0), (.slice none 0 0)] 29 (0, 0)) →
  (((∃ u, w35.cell? (⟨w34.heap.size, 0, none⟩ : Addr) = some u) ∧ w35.frozen? (⟨w34.heap.size, 0, none⟩ : Addr) = false) ∧ ((∃ u, w35.cell? (⟨w34.heap.size, 1, none⟩ : Addr) = some u) ∧ w35.frozen? (⟨w34.heap.size, 1, none⟩ : Addr) = false)) ∧ ∀ w36 : World, w36 = ((w35.setCell (⟨w34.heap.size, 0, none⟩ : Addr) (.slice x164_00A x164_00N x164_00C)).setCell (⟨w34.heap.size, 1, none⟩ : Addr) (.slice x164_01A x164_01N x164_01C)) →
  ∃ (x1690 : Int), ∃ (x1691 : Int), ∃ (x1692 : Int), ∃ (x1693 : Int), ∃ (x1694 : Int), ∃ (x1695 : Int), ∃ (x1696 : ByteArray), (w36.cell? (⟨w5.heap.size, 0, none⟩ : Addr) = some (.int .i64 x1690) ∧ w36.cell? (⟨w5.heap.size, 1, none⟩ : Addr) = some (.int .i64 x1691) ∧ w36.cell? (⟨w5.heap.size, 2, none⟩ : Addr) = some (.int .i64 x1692) ∧ w36.cell? (⟨w5.heap.size, 3, none⟩ : Addr) = some (.int .i64 x1693) ∧ w36.cell? (⟨w5.heap.size, 4, none⟩ : Addr) = some (.int .i64 x1694) ∧ w36.cell? (⟨w5.heap.size, 5, none⟩ : Addr) = some (.int .i64 x1695) ∧ w36.cell? (⟨w5.heap.size, 6, none⟩ : Addr) = some (.string x1696)) ∧
  Calls Tryz.prog 15 #[(.agg #[(.int .i64 x1690), (.int .i64 x1691), (.int .i64 x1692), (.int .i64 x1693), (.int .i64 x1694), (.int .i64 x1695), (.string x1696)]), (.slice x73A x73N x73C), (.int .i64 token)] w36 (Ret fun v_14 w37 => ∃ (x172_00A : Option Addr), ∃ (x172_00N : Nat), ∃ (x172_00C : Nat), ∃ (x172_01A : Option Addr), ∃ (x172_01N : Nat), ∃ (x172_01C : Nat), ∃ (x172_1A : Option Addr), ∃ (x172_1N : Nat), ∃ (x172_1C : Nat), ∃ (x172_2 : Int), v_14 = (.tuple #[(.agg #[(.slice x172_00A x172_00N x172_00C), (.slice x172_01A x172_01N x172_01C)]), (.slice x172_1A x172_1N x172_1C), (.int .i64 x172_2)]) ∧
  ∀ w38 : World, w38 = w37.alloc (.cells #[(.slice none 0 0), (.slice none 0 0)] 42 (0, 0)) →
  (((∃ u, w38.cell? (⟨w37.heap.size, 0, none⟩ : Addr) = some u) ∧ w38.frozen? (⟨w37.heap.size, 0, none⟩ : Addr) = false) ∧ ((∃ u, w38.cell? (⟨w37.heap.size, 1, none⟩ : Addr) = some u) ∧ w38.frozen? (⟨w37.heap.size, 1, none⟩ : Addr) = false)) ∧ ∀ w39 : World, w39 = ((w38.setCell (⟨w37.heap.size, 0, none⟩ : Addr) (.slice x172_00A x172_00N x172_00C)).setCell (⟨w37.heap.size, 1, none⟩ : Addr) (.slice x172_01A x172_01N x172_01C)) →
  ((x164_2 == x172_2) = true →
  Calls Tryz.prog 16 #[(.slice x164_1A x164_1N x164_1C), (.slice x172_1A x172_1N x172_1C)] w39 (Ret fun v_15 w40 => ∃ (x182 : Bool), v_15 = (.bool x182) ∧
  (x182 = true →
  ∃ (x186A : Option Addr), ∃ (x186N : Nat), ∃ (x186C : Nat), w40.cell? (⟨w34.heap.size, 0, none⟩ : Addr) = some (.slice x186A x186N x186C) ∧
  ∃ (x188A : Option Addr), ∃ (x188N : Nat), ∃ (x188C : Nat), w40.cell? (⟨w37.heap.size, 0, none⟩ : Addr) = some (.slice x188A x188N x188C) ∧
  Calls Tryz.prog 13 #[(.slice x186A x186N x186C), (.slice x188A x188N x188C)] w40 (Ret fun v_16 w41 => ∃ (x189 : Bool), v_16 = (.bool x189) ∧
  (x189 = true →
  ∃ (x193A : Option Addr), ∃ (x193N : Nat), ∃ (x193C : Nat), w41.cell? (⟨w34.heap.size, 1, none⟩ : Addr) = some (.slice x193A x193N x193C) ∧
  ∃ (x195A : Option Addr), ∃ (x195N : Nat), ∃ (x195C : Nat), w41.cell? (⟨w37.heap.size, 1, none⟩ : Addr) = some (.slice x195A x195N x195C) ∧
  Calls Tryz.prog 13 #[(.slice x193A x193N x193C), (.slice x195A x195N x195C)] w41 (Ret fun v_17 w42 => ∃ (x196 : Bool), v_17 = (.bool x196) ∧
  (x196 = true →
  ∃ (x1990A : Option Addr), ∃ (x1990N : Nat), ∃ (x1990C : Nat), ∃ (x1991A : Option Addr), ∃ (x1991N : Nat), ∃ (x1991C : Nat), (w42.cell? (⟨w34.heap.size, 0, none⟩ : Addr) = some (.slice x1990A x1990N x1990C) ∧ w42.cell? (⟨w34.heap.size, 1, none⟩ : Addr) = some (.slice x1991A x1991N x1991C)) ∧
  Calls Tryz.prog 10 #[(.pointer none), (.agg #[(.slice x1990A x1990N x1990C), (.slice x1991A x1991N x1991C)])] w42 (Ret fun v_18 w43 => ∃ (x200 : Bool), v_18 = (.bool x200) ∧
  R (.bool (!x200)) w43)) ∧
  (x196 = false →
  R (.bool false) w42))) ∧
  (x189 = false →
  R (.bool false) w41))) ∧
  (x182 = false →
  R (.bool false) w40))) ∧
  ((x164_2 == x172_2) = false →
  R (.bool false) w39))))))))))))))
theorem coadjutorlaw17_StepExact.vc_eq (c0 : Int) (c1 : Int) (c2 : Int) (c3 : Int) (c4 : Int) (c5 : Int) (weights : ByteArray) (pastA : Option Addr) (pastN : Nat) (pastC : Nat) (token : Int) (w : World) (R : Value → World → Prop) : fnV Tryz.prog Tryz.f3 (.c .nil (.at_ 3 3 (.k .nil) (.at_ 3 8 (.k .nil) (.c .nil (.lp [(8, none), (9, some (.int .i64)), (37, none), (38, none), (39, none), (40, none), (41, none), (42, none), (43, none), (44, none), (45, none), (46, none), (47, none), (48, none), (49, none), (50, none), (51, none), (52, none), (53, none), (54, none), (55, none), (56, none), (57, none), (58, none)] (.c (.at_ 8 7 (.k .nil) (.c .nil .nil)) (.c .nil (.lp [(8, none), (14, some (.int .i64)), (15, none), (74, none), (75, none), (76, none), (77, none), (78, none), (79, none), (80, none), (81, none), (82, none), (83, none), (84, none), (85, none), (86, none), (87, none), (88, none), (89, none), (90, none), (91, none), (92, none), (93, none), (94, none), (95, none), (96, none), (97, none), (98, none), (99, none), (100, none), (101, none), (102, none), (103, none), (104, none), (105, none), (106, none), (107, none), (108, none), (109, none), (110, none), (111, none), (112, none), (113, none), (114, none), (115, none), (116, none), (117, none), (118, none), (119, none), (120, none), (121, none), (122, none), (123, none), (124, none), (125, none), (126, none), (127, none), (128, none), (129, none), (130, none), (131, none), (132, none), (133, none), (134, none), (135, none), (136, none), (137, none), (138, none), (139, none), (140, none), (141, none), (142, none), (143, none), (144, none), (145, none), (146, none), (147, none), (148, none), (149, none), (150, none), (151, none), (152, none), (153, none), (154, none), (155, none), (156, none), (157, none), (158, none), (159, none)] (.c (.tk 0 (.tk 1 (.tk 2 (.tk 3 (.tk 4 (.tk 6 (.tk 7 (.tk 8 (.tk 9 (.tk 10 (.alt 5 (.alt 11 (.tk 12 (.tks 13 (.tk 14 (.tk 15 (.tk 16 (.tk 17 (.tk 18 (.tk 19 (.tk 20 (.tk 21 (.tk 22 (.tk 23 (.tk 24 (.tk 25 (.tk 26 (.tk 27 (.tk 28 (.tk 29 (.tk 30 (.tk 31 (.tk 32 (.tk 33 (.tk 34 (.tk 35 (.tk 36 (.tk 37 (.tk 38 (.tk 39 (.tk 40 (.tk 41 (.tk 42 (.tk 43 (.fin (.k .nil)))))))))))))))))))))))))))))))) (.tk 14 (.tk 15 (.tk 16 (.tk 17 (.alt 18 (.alt 19 (.tk 20 (.tk 21 (.tks 22 (.tk 23 (.tk 24 (.tk 25 (.tk 26 (.tk 27 (.tk 28 (.tk 29 (.tk 30 (.tk 31 (.tk 32 (.tk 33 (.tk 34 (.tk 35 (.tk 36 (.tk 37 (.tk 38 (.tk 39 (.tk 40 (.tk 41 (.tk 42 (.tk 43 (.fin (.k .nil))))))))))))))))))))))) (.tk 23 (.tk 24 (.tk 25 (.tk 26 (.tk 27 (.tk 28 (.alt 29 (.alt 30 (.tk 31 (.tk 32 (.tks 33 (.tk 34 (.tk 35 (.tk 36 (.tk 37 (.tk 38 (.tk 39 (.tk 40 (.tk 41 (.tk 42 (.tk 43 (.fin (.k .nil)))))))))))) (.tk 34 (.tk 35 (.tk 36 (.tk 37 (.tk 38 (.tk 39 (.alt 40 (.alt 41 (.tk 42 (.tk 43 (.fin (.c .nil (.tk 0 (.tk 1 (.tk 2 (.tk 3 (.tk 4 (.tk 5 (.tk 6 (.tk 8 (.tk 9 (.tk 10 (.tk 11 (.tk 12 (.tk 13 (.tk 14 (.tk 15 (.tk 16 (.alt 7 (.alt 17 (.tks 18 (.tk 19 (.tk 20 (.tk 21 (.tk 22 (.tk 23 (.tk 24 (.tk 25 (.tk 26 (.alt 27 (.alt 28 (.tk 29 (.tk 30 (.fin (.c .nil .nil)))) .nil) .nil))))))))) (.tk 19 (.tk 20 (.tk 21 (.tk 22 (.tk 23 (.tk 24 (.tk 25 (.tk 26 (.tk 27 (.tk 28 (.tk 29 (.tk 30 (.fin (.c .nil .nil))))))))))))))) .nil) .nil))))))))))))))))))))) .nil) .nil)))))))))) .nil) .nil)))))))))) .nil) .nil))))))) .nil) .nil))))))))))) (.at_ 25 3 (.at_ 25 8 (.at_ 25 15 (.at_ 25 22 .nil .nil) .nil) .nil) .nil)))))))))) [(.agg #[(.int .i64 c0), (.int .i64 c1), (.int .i64 c2), (.int .i64 c3), (.int .i64 c4), (.int .i64 c5)]), (.string weights), (.slice pastA pastN pastC), (.int .i64 token)] w R = coadjutorlaw17_StepExact.vc c0 c1 c2 c3 c4 c5 weights pastA pastN pastC token w R := by kernel_rfl
theorem coadjutorlaw17_StepExact.calls (c0 : Int) (c1 : Int) (c2 : Int) (c3 : Int) (c4 : Int) (c5 : Int) (weights : ByteArray) (pastA : Option Addr) (pastN : Nat) (pastC : Nat) (token : Int) {w : World} {R : Value → World → Prop} (h : coadjutorlaw17_StepExact.vc c0 c1 c2 c3 c4 c5 weights pastA pastN pastC token w R) : Calls Tryz.prog 3 #[(.agg #[(.int .i64 c0), (.int .i64 c1), (.int .i64 c2), (.int .i64 c3), (.int .i64 c4), (.int .i64 c5)]), (.string weights), (.slice pastA pastN pastC), (.int .i64 token)] w (Ret R) :=
  calls_V fit Tryz.func3 (.c .nil (.at_ 3 3 (.k .nil) (.at_ 3 8 (.k .nil) (.c .nil (.lp [(8, none), (9, some (.int .i64)), (37, none), (38, none), (39, none), (40, none), (41, none), (42, none), (43, none), (44, none), (45, none), (46, none), (47, none), (48, none), (49, none), (50, none), (51, none), (52, none), (53, none), (54, none), (55, none), (56, none), (57, none), (58, none)] (.c (.at_ 8 7 (.k .nil) (.c .nil .nil)) (.c .nil (.lp [(8, none), (14, some (.int .i64)), (15, none), (74, none), (75, none), (76, none), (77, none), (78, none), (79, none), (80, none), (81, none), (82, none), (83, none), (84, none), (85, none), (86, none), (87, none), (88, none), (89, none), (90, none), (91, none), (92, none), (93, none), (94, none), (95, none), (96, none), (97, none), (98, none), (99, none), (100, none), (101, none), (102, none), (103, none), (104, none), (105, none), (106, none), (107, none), (108, none), (109, none), (110, none), (111, none), (112, none), (113, none), (114, none), (115, none), (116, none), (117, none), (118, none), (119, none), (120, none), (121, none), (122, none), (123, none), (124, none), (125, none), (126, none), (127, none), (128, none), (129, none), (130, none), (131, none), (132, none), (133, none), (134, none), (135, none), (136, none), (137, none), (138, none), (139, none), (140, none), (141, none), (142, none), (143, none), (144, none), (145, none), (146, none), (147, none), (148, none), (149, none), (150, none), (151, none), (152, none), (153, none), (154, none), (155, none), (156, none), (157, none), (158, none), (159, none)] (.c (.tk 0 (.tk 1 (.tk 2 (.tk 3 (.tk 4 (.tk 6 (.tk 7 (.tk 8 (.tk 9 (.tk 10 (.alt 5 (.alt 11 (.tk 12 (.tks 13 (.tk 14 (.tk 15 (.tk 16 (.tk 17 (.tk 18 (.tk 19 (.tk 20 (.tk 21 (.tk 22 (.tk 23 (.tk 24 (.tk 25 (.tk 26 (.tk 27 (.tk 28 (.tk 29 (.tk 30 (.tk 31 (.tk 32 (.tk 33 (.tk 34 (.tk 35 (.tk 36 (.tk 37 (.tk 38 (.tk 39 (.tk 40 (.tk 41 (.tk 42 (.tk 43 (.fin (.k .nil)))))))))))))))))))))))))))))))) (.tk 14 (.tk 15 (.tk 16 (.tk 17 (.alt 18 (.alt 19 (.tk 20 (.tk 21 (.tks 22 (.tk 23 (.tk 24 (.tk 25 (.tk 26 (.tk 27 (.tk 28 (.tk 29 (.tk 30 (.tk 31 (.tk 32 (.tk 33 (.tk 34 (.tk 35 (.tk 36 (.tk 37 (.tk 38 (.tk 39 (.tk 40 (.tk 41 (.tk 42 (.tk 43 (.fin (.k .nil))))))))))))))))))))))) (.tk 23 (.tk 24 (.tk 25 (.tk 26 (.tk 27 (.tk 28 (.alt 29 (.alt 30 (.tk 31 (.tk 32 (.tks 33 (.tk 34 (.tk 35 (.tk 36 (.tk 37 (.tk 38 (.tk 39 (.tk 40 (.tk 41 (.tk 42 (.tk 43 (.fin (.k .nil)))))))))))) (.tk 34 (.tk 35 (.tk 36 (.tk 37 (.tk 38 (.tk 39 (.alt 40 (.alt 41 (.tk 42 (.tk 43 (.fin (.c .nil (.tk 0 (.tk 1 (.tk 2 (.tk 3 (.tk 4 (.tk 5 (.tk 6 (.tk 8 (.tk 9 (.tk 10 (.tk 11 (.tk 12 (.tk 13 (.tk 14 (.tk 15 (.tk 16 (.alt 7 (.alt 17 (.tks 18 (.tk 19 (.tk 20 (.tk 21 (.tk 22 (.tk 23 (.tk 24 (.tk 25 (.tk 26 (.alt 27 (.alt 28 (.tk 29 (.tk 30 (.fin (.c .nil .nil)))) .nil) .nil))))))))) (.tk 19 (.tk 20 (.tk 21 (.tk 22 (.tk 23 (.tk 24 (.tk 25 (.tk 26 (.tk 27 (.tk 28 (.tk 29 (.tk 30 (.fin (.c .nil .nil))))))))))))))) .nil) .nil))))))))))))))))))))) .nil) .nil)))))))))) .nil) .nil)))))))))) .nil) .nil))))))) .nil) .nil))))))))))) (.at_ 25 3 (.at_ 25 8 (.at_ 25 15 (.at_ 25 22 .nil .nil) .nil) .nil) .nil)))))))))) (by rw [show (#[(.agg #[(.int .i64 c0), (.int .i64 c1), (.int .i64 c2), (.int .i64 c3), (.int .i64 c4), (.int .i64 c5)]), (.string weights), (.slice pastA pastN pastC), (.int .i64 token)] : Array Value).toList = [(.agg #[(.int .i64 c0), (.int .i64 c1), (.int .i64 c2), (.int .i64 c3), (.int .i64 c4), (.int .i64 c5)]), (.string weights), (.slice pastA pastN pastC), (.int .i64 token)] from rfl, coadjutorlaw17_StepExact.vc_eq]; exact h)
end Go.Proofs.YtfhnegfoglngoaaGreat.Vc
