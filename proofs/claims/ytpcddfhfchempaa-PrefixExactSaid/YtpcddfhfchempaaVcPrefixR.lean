import Derived.Test.YtpcddfhfchempaaVc
import Derived.Test.YtpcddfhfchempaaH
import Derived.Test.YtpcddfhfchempaaProg
import Derived.KernelRfl
set_option linter.unusedVariables false
set_option maxRecDepth 100000
namespace Go.Proofs.Ytpcddfhfchempaa.Vc
open Go Go.Proofs Go.Proofs.Ytpcddfhfchempaa.V
/-- function 73 -/
def coadjutorref23_begins.vc (aA : Option Addr) (aN : Nat) (aC : Nat) (bA : Option Addr) (bN : Nat) (bC : Nat) (w : World) (R : Value → World → Prop) : Prop :=
  (decide (((aN : Nat) : Int) > ((bN : Nat) : Int)) = true →
  R (.bool false) w) ∧
  (decide (((aN : Nat) : Int) > ((bN : Nat) : Int)) = false →
  ∃ vI : Int → Nat → World → Prop, (∃ vk_2 : Nat, vI 0 vk_2 w) ∧
  ∀ (jk : Nat → Value) (i : Int), ∀ (vk : Nat) (w1 : World), vI i vk w1 →
  (decide (i < ((aN : Nat) : Int)) = true →
  ∃ vS : World → Prop, ∀ w2 : World, w2 = w1.drew → vS w2 ∧
  (0 ≤ i ∧ i < ((aN : Nat) : Int)) ∧ someV aA fun p =>
  ∃ (x20 : Int), (∀ w3, vS w3 → w3.cell? (p.add (i.toNat * 1)) = some (.int .i64 x20)) ∧
  (0 ≤ i ∧ i < ((bN : Nat) : Int)) ∧ someV bA fun p_1 =>
  ∃ (x24 : Int), (∀ w4, vS w4 → w4.cell? (p_1.add (i.toNat * 1)) = some (.int .i64 x24)) ∧
  ((x20 != x24) = true →
  R (.bool false) w2) ∧
  ((x20 != x24) = false →
  ∃ vk_1 : Nat, vk_1 < vk ∧ vI (IntKind.i64.wrap (i + 1)) vk_1 w2)) ∧
  (decide (i < ((aN : Nat) : Int)) = false →
  R (.bool true) w1))
theorem coadjutorref23_begins.vc_eq (aA : Option Addr) (aN : Nat) (aC : Nat) (bA : Option Addr) (bN : Nat) (bC : Nat) (w : World) (R : Value → World → Prop) : fnV Try.prog Try.f73 (.c .nil (.lp [(4, none), (5, some (.int .i64)), (11, none), (12, none), (13, none), (14, none), (15, none), (16, none), (17, none), (18, none), (19, none), (20, none), (21, none), (22, none), (23, none), (24, none), (25, none)] (.c (.tk 0 (.tk 1 (.tk 2 (.tk 3 (.tk 4 (.tk 5 (.tk 6 (.tk 7 (.tk 8 (.fin (.c .nil .nil))))))))))) .nil))) [(.slice aA aN aC), (.slice bA bN bC)] w R = coadjutorref23_begins.vc aA aN aC bA bN bC w R := by kernel_rfl
theorem coadjutorref23_begins.calls (aA : Option Addr) (aN : Nat) (aC : Nat) (bA : Option Addr) (bN : Nat) (bC : Nat) {w : World} {R : Value → World → Prop} (h : coadjutorref23_begins.vc aA aN aC bA bN bC w R) : Calls Try.prog 73 #[(.slice aA aN aC), (.slice bA bN bC)] w (Ret R) :=
  calls_V fit Try.func73 (.c .nil (.lp [(4, none), (5, some (.int .i64)), (11, none), (12, none), (13, none), (14, none), (15, none), (16, none), (17, none), (18, none), (19, none), (20, none), (21, none), (22, none), (23, none), (24, none), (25, none)] (.c (.tk 0 (.tk 1 (.tk 2 (.tk 3 (.tk 4 (.tk 5 (.tk 6 (.tk 7 (.tk 8 (.fin (.c .nil .nil))))))))))) .nil))) (by rw [show (#[(.slice aA aN aC), (.slice bA bN bC)] : Array Value).toList = [(.slice aA aN aC), (.slice bA bN bC)] from rfl, coadjutorref23_begins.vc_eq]; exact h)
/-- function 47 -/
def coadjutorref23_Index_At.vc (xB : Nat) (version : Int) (tokensA : Option Addr) (tokensN : Nat) (tokensC : Nat) (w : World) (R : Value → World → Prop) : Prop :=
  ∃ vI : Int → Nat → World → Prop, (∃ vk_2 : Nat, vI 0 vk_2 w) ∧
  ∀ (jk : Nat → Value) (i : Int), ∀ (vk : Nat) (w1 : World), vI i vk w1 →
  ∃ (x12A : Option Addr), ∃ (x12N : Nat), ∃ (x12C : Nat), w1.cell? (⟨xB, 1, none⟩ : Addr) = some (.slice x12A x12N x12C) ∧
  (decide (i < ((x12N : Nat) : Int)) = true →
  ∃ (x20A : Option Addr), ∃ (x20N : Nat), ∃ (x20C : Nat), w1.cell? (⟨xB, 1, none⟩ : Addr) = some (.slice x20A x20N x20C) ∧
  (0 ≤ i ∧ i < ((x20N : Nat) : Int)) ∧ someV x20A fun p =>
  ∃ (x24 : Int), w1.cell? (p.add (i.toNat * 3)) = some (.int .i64 x24) ∧
  ((x24 == version) = true →
  ∃ (x31A : Option Addr), ∃ (x31N : Nat), ∃ (x31C : Nat), w1.cell? (⟨xB, 1, none⟩ : Addr) = some (.slice x31A x31N x31C) ∧
  (0 ≤ i ∧ i < ((x31N : Nat) : Int)) ∧ someV x31A fun p_1 =>
  ∃ (x35A : Option Addr), ∃ (x35N : Nat), ∃ (x35C : Nat), w1.cell? ((p_1.add (i.toNat * 3)).add 1) = some (.slice x35A x35N x35C) ∧
  ((((x35N : Nat) : Int) == ((tokensN : Nat) : Int)) = true →
  ∃ (x45A : Option Addr), ∃ (x45N : Nat), ∃ (x45C : Nat), w1.cell? (⟨xB, 1, none⟩ : Addr) = some (.slice x45A x45N x45C) ∧
  (0 ≤ i ∧ i < ((x45N : Nat) : Int)) ∧ someV x45A fun p_2 =>
  ∃ (x49A : Option Addr), ∃ (x49N : Nat), ∃ (x49C : Nat), w1.cell? ((p_2.add (i.toNat * 3)).add 1) = some (.slice x49A x49N x49C) ∧
  Calls Try.prog 73 #[(.slice x49A x49N x49C), (.slice tokensA tokensN tokensC)] w1 (Ret fun v w2 => ∃ (x51 : Bool), v = (.bool x51) ∧
  (x51 = true →
  R (.int .i64 i) w2) ∧
  (x51 = false →
  ∃ vk_1 : Nat, vk_1 < vk ∧ vI (IntKind.i64.wrap (i + 1)) vk_1 w2))) ∧
  ((((x35N : Nat) : Int) == ((tokensN : Nat) : Int)) = false →
  ∃ vk_1 : Nat, vk_1 < vk ∧ vI (IntKind.i64.wrap (i + 1)) vk_1 w1)) ∧
  ((x24 == version) = false →
  ∃ vk_1 : Nat, vk_1 < vk ∧ vI (IntKind.i64.wrap (i + 1)) vk_1 w1)) ∧
  (decide (i < ((x12N : Nat) : Int)) = false →
  R (.int .i64 (-1)) w1)
theorem coadjutorref23_Index_At.vc_eq (xB : Nat) (version : Int) (tokensA : Option Addr) (tokensN : Nat) (tokensC : Nat) (w : World) (R : Value → World → Prop) : fnV Try.prog Try.f47 (.lp [(6, none), (7, some (.int .i64)), (8, none), (9, none), (10, none), (11, none), (12, none), (13, none), (14, none), (15, none), (16, none), (17, none), (18, none), (19, none), (20, none), (21, none), (22, none), (23, none), (24, none), (25, none), (26, none), (27, none), (28, none), (29, none), (30, none), (31, none), (32, none), (33, none), (34, none), (35, none), (36, none), (37, none), (38, none), (39, none), (40, none), (41, none), (42, none), (43, none), (44, none), (45, none), (46, none), (47, none), (48, none), (49, none), (50, none), (51, none), (52, none), (53, none)] (.c (.at_ 4 10 (.at_ 4 24 (.c .nil .nil) (.k .nil)) (.k .nil)) .nil)) [(.pointer (some (⟨xB, 0, none⟩ : Addr))), (.int .i64 version), (.slice tokensA tokensN tokensC)] w R = coadjutorref23_Index_At.vc xB version tokensA tokensN tokensC w R := by kernel_rfl
theorem coadjutorref23_Index_At.calls (xB : Nat) (version : Int) (tokensA : Option Addr) (tokensN : Nat) (tokensC : Nat) {w : World} {R : Value → World → Prop} (h : coadjutorref23_Index_At.vc xB version tokensA tokensN tokensC w R) : Calls Try.prog 47 #[(.pointer (some (⟨xB, 0, none⟩ : Addr))), (.int .i64 version), (.slice tokensA tokensN tokensC)] w (Ret R) :=
  calls_V fit Try.func47 (.lp [(6, none), (7, some (.int .i64)), (8, none), (9, none), (10, none), (11, none), (12, none), (13, none), (14, none), (15, none), (16, none), (17, none), (18, none), (19, none), (20, none), (21, none), (22, none), (23, none), (24, none), (25, none), (26, none), (27, none), (28, none), (29, none), (30, none), (31, none), (32, none), (33, none), (34, none), (35, none), (36, none), (37, none), (38, none), (39, none), (40, none), (41, none), (42, none), (43, none), (44, none), (45, none), (46, none), (47, none), (48, none), (49, none), (50, none), (51, none), (52, none), (53, none)] (.c (.at_ 4 10 (.at_ 4 24 (.c .nil .nil) (.k .nil)) (.k .nil)) .nil)) (by rw [show (#[(.pointer (some (⟨xB, 0, none⟩ : Addr))), (.int .i64 version), (.slice tokensA tokensN tokensC)] : Array Value).toList = [(.pointer (some (⟨xB, 0, none⟩ : Addr))), (.int .i64 version), (.slice tokensA tokensN tokensC)] from rfl, coadjutorref23_Index_At.vc_eq]; exact h)
/-- function 70 -/
def coadjutorref23_Index_cut.vc (xB : Nat) (vat : Int) (w : World) (R : Value → World → Prop) : Prop :=
  ∀ w1 : World, w1 = w.alloc (.cells #[(.int .i64 0), (.slice none 0 0), (.int .i64 0)] 81 (0, 0)) →
  ∃ (x10A : Option Addr), ∃ (x10N : Nat), ∃ (x10C : Nat), w1.cell? (⟨xB, 1, none⟩ : Addr) = some (.slice x10A x10N x10C) ∧
  (0 ≤ vat ∧ vat < ((x10N : Nat) : Int)) ∧ someV x10A fun p =>
  ∃ (x130 : Int), ∃ (x131A : Option Addr), ∃ (x131N : Nat), ∃ (x131C : Nat), ∃ (x132 : Int), (w1.cell? (p.add (vat.toNat * 3)) = some (.int .i64 x130) ∧ w1.cell? ((p.add (vat.toNat * 3)).add 1) = some (.slice x131A x131N x131C) ∧ w1.cell? ((p.add (vat.toNat * 3)).add 2) = some (.int .i64 x132)) ∧
  ∀ w2 : World, w2 = w1.alloc (.cells #[(.int .i64 0), (.slice none 0 0), (.int .i64 0)] 81 (0, 0)) →
  (((∃ u, w2.cell? (⟨w1.heap.size, 0, none⟩ : Addr) = some u) ∧ w2.frozen? (⟨w1.heap.size, 0, none⟩ : Addr) = false) ∧ ((∃ u, w2.cell? (⟨w1.heap.size, 1, none⟩ : Addr) = some u) ∧ w2.frozen? (⟨w1.heap.size, 1, none⟩ : Addr) = false) ∧ ((∃ u, w2.cell? (⟨w1.heap.size, 2, none⟩ : Addr) = some u) ∧ w2.frozen? (⟨w1.heap.size, 2, none⟩ : Addr) = false)) ∧ ∀ w3 : World, w3 = (((w2.setCell (⟨w1.heap.size, 0, none⟩ : Addr) (.int .i64 x130)).setCell (⟨w1.heap.size, 1, none⟩ : Addr) (.slice x131A x131N x131C)).setCell (⟨w1.heap.size, 2, none⟩ : Addr) (.int .i64 x132)) →
  ∀ w4 : World, w4 = w3.alloc (.cells #[] 81 (0, 0)) →
  ∃ (x18A : Option Addr), ∃ (x18N : Nat), ∃ (x18C : Nat), w4.cell? (⟨xB, 1, none⟩ : Addr) = some (.slice x18A x18N x18C) ∧
  (0 ≤ vat ∧ vat ≤ ((x18C : Nat) : Int)) ∧
  ∃ (x21A : Option Addr), ∃ (x21N : Nat), ∃ (x21C : Nat), ∃ w5 : World, (Builtin.append_ #[74, 74] 74 #[(.slice (some (⟨w3.heap.size, 0, none⟩ : Addr)) 0 0), (.slice (if x18C = 0 then x18A else x18A.map (·.add (0 * 3))) (vat.toNat - 0) (x18C - 0))]).run Try.prog w4 = .ok (.slice x21A x21N x21C) w5 ∧
  ∃ (x27A : Option Addr), ∃ (x27N : Nat), ∃ (x27C : Nat), w5.cell? (⟨xB, 1, none⟩ : Addr) = some (.slice x27A x27N x27C) ∧
  (0 ≤ (IntKind.i64.wrap (vat + 1)) ∧ (IntKind.i64.wrap (vat + 1)) ≤ ((x27N : Nat) : Int)) ∧
  ∃ (x31A : Option Addr), ∃ (x31N : Nat), ∃ (x31C : Nat), ∃ w6 : World, (Builtin.append_ #[74, 74] 74 #[(.slice x21A x21N x21C), (.slice (if x27C = (IntKind.i64.wrap (vat + 1)).toNat then x27A else x27A.map (·.add ((IntKind.i64.wrap (vat + 1)).toNat * 3))) (x27N - (IntKind.i64.wrap (vat + 1)).toNat) (x27C - (IntKind.i64.wrap (vat + 1)).toNat))]).run Try.prog w5 = .ok (.slice x31A x31N x31C) w6 ∧
  (((∃ u, w6.cell? (⟨xB, 1, none⟩ : Addr) = some u) ∧ w6.frozen? (⟨xB, 1, none⟩ : Addr) = false)) ∧ ∀ w7 : World, w7 = (w6.setCell (⟨xB, 1, none⟩ : Addr) (.slice x31A x31N x31C)) →
  ∃ (x340 : Int), ∃ (x341A : Option Addr), ∃ (x341N : Nat), ∃ (x341C : Nat), ∃ (x342 : Int), (w7.cell? (⟨w1.heap.size, 0, none⟩ : Addr) = some (.int .i64 x340) ∧ w7.cell? (⟨w1.heap.size, 1, none⟩ : Addr) = some (.slice x341A x341N x341C) ∧ w7.cell? (⟨w1.heap.size, 2, none⟩ : Addr) = some (.int .i64 x342)) ∧
  (((∃ u, w7.cell? (⟨w.heap.size, 0, none⟩ : Addr) = some u) ∧ w7.frozen? (⟨w.heap.size, 0, none⟩ : Addr) = false) ∧ ((∃ u, w7.cell? (⟨w.heap.size, 1, none⟩ : Addr) = some u) ∧ w7.frozen? (⟨w.heap.size, 1, none⟩ : Addr) = false) ∧ ((∃ u, w7.cell? (⟨w.heap.size, 2, none⟩ : Addr) = some u) ∧ w7.frozen? (⟨w.heap.size, 2, none⟩ : Addr) = false)) ∧ ∀ w8 : World, w8 = (((w7.setCell (⟨w.heap.size, 0, none⟩ : Addr) (.int .i64 x340)).setCell (⟨w.heap.size, 1, none⟩ : Addr) (.slice x341A x341N x341C)).setCell (⟨w.heap.size, 2, none⟩ : Addr) (.int .i64 x342)) →
  ∃ (r00 : Int), ∃ (r01A : Option Addr), ∃ (r01N : Nat), ∃ (r01C : Nat), ∃ (r02 : Int), (w8.cell? (⟨w.heap.size, 0, none⟩ : Addr) = some (.int .i64 r00) ∧ w8.cell? (⟨w.heap.size, 1, none⟩ : Addr) = some (.slice r01A r01N r01C) ∧ w8.cell? (⟨w.heap.size, 2, none⟩ : Addr) = some (.int .i64 r02)) ∧
  R (.agg #[(.int .i64 r00), (.slice r01A r01N r01C), (.int .i64 r02)]) w8
theorem coadjutorref23_Index_cut.vc_eq (xB : Nat) (vat : Int) (w : World) (R : Value → World → Prop) : fnV Try.prog Try.f70 .nil [(.pointer (some (⟨xB, 0, none⟩ : Addr))), (.int .i64 vat)] w R = coadjutorref23_Index_cut.vc xB vat w R := by kernel_rfl
theorem coadjutorref23_Index_cut.calls (xB : Nat) (vat : Int) {w : World} {R : Value → World → Prop} (h : coadjutorref23_Index_cut.vc xB vat w R) : Calls Try.prog 70 #[(.pointer (some (⟨xB, 0, none⟩ : Addr))), (.int .i64 vat)] w (Ret R) :=
  calls_V fit Try.func70 .nil (by rw [show (#[(.pointer (some (⟨xB, 0, none⟩ : Addr))), (.int .i64 vat)] : Array Value).toList = [(.pointer (some (⟨xB, 0, none⟩ : Addr))), (.int .i64 vat)] from rfl, coadjutorref23_Index_cut.vc_eq]; exact h)
/-- function 45 -/
def coadjutorref23_Index_Add.vc (xB : Nat) (id : Int) (version : Int) (tokensA : Option Addr) (tokensN : Nat) (tokensC : Nat) (w : World) (R : Value → World → Prop) : Prop :=
  ((((tokensN : Nat) : Int) == (0 : Int)) = true →
  R (.int .i64 1) w) ∧
  ((((tokensN : Nat) : Int) == (0 : Int)) = false →
  (decide (((tokensN : Nat) : Int) > (32 : Int)) = true →
  R (.int .i64 1) w) ∧
  (decide (((tokensN : Nat) : Int) > (32 : Int)) = false →
  (4 : Int) ≠ 0 ∧
  (((Int.tmod ((tokensN : Nat) : Int) 4) != (0 : Int)) = true →
  R (.int .i64 1) w) ∧
  (((Int.tmod ((tokensN : Nat) : Int) 4) != (0 : Int)) = false →
  Calls Try.prog 47 #[(.pointer (some (⟨xB, 0, none⟩ : Addr))), (.int .i64 version), (.slice tokensA tokensN tokensC)] w (Ret fun v w1 => ∃ (x26 : Int), v = (.int .i64 x26) ∧
  (decide (x26 ≥ (0 : Int)) = true →
  R (.int .i64 9) w1) ∧
  (decide (x26 ≥ (0 : Int)) = false →
  ∃ (x31 : Option Addr), w1.cell? (⟨xB, 0, none⟩ : Addr) = some (.pointer x31) ∧
  Calls Try.prog 27 #[(.pointer x31), (.int .i64 id)] w1 (Ret fun v_1 w2 => ∃ (x33 : Bool), v_1 = (.bool x33) ∧
  ((!x33) = true →
  R (.int .i64 8) w2) ∧
  ((!x33) = false →
  ∃ (x39 : Option Addr), w2.cell? (⟨xB, 0, none⟩ : Addr) = some (.pointer x39) ∧
  someV x39 fun p =>
  ∃ (x42A : Option Addr), ∃ (x42N : Nat), ∃ (x42C : Nat), w2.cell? p = some (.slice x42A x42N x42C) ∧
  (0 ≤ id ∧ id < ((x42N : Nat) : Int)) ∧ someV x42A fun p_1 =>
  ∃ (x46 : Int), w2.cell? (p_1.add (id.toNat * 3)) = some (.int .i64 x46) ∧
  ((x46 != version) = true →
  R (.int .i64 8) w2) ∧
  ((x46 != version) = false →
  ∃ (x54 : Option Addr), w2.cell? (⟨xB, 0, none⟩ : Addr) = some (.pointer x54) ∧
  someV x54 fun p_2 =>
  ∃ (x57A : Option Addr), ∃ (x57N : Nat), ∃ (x57C : Nat), w2.cell? p_2 = some (.slice x57A x57N x57C) ∧
  (0 ≤ id ∧ id < ((x57N : Nat) : Int)) ∧ someV x57A fun p_3 =>
  ∃ (x61A : Option Addr), ∃ (x61N : Nat), ∃ (x61C : Nat), w2.cell? ((p_3.add (id.toNat * 3)).add 2) = some (.slice x61A x61N x61C) ∧
  ((((x61N : Nat) : Int) != (4 : Int)) = true →
  R (.int .i64 8) w2) ∧
  ((((x61N : Nat) : Int) != (4 : Int)) = false →
  ∃ (x68 : Option Addr), w2.cell? (⟨xB, 0, none⟩ : Addr) = some (.pointer x68) ∧
  ∀ w3 : World, w3 = w2.alloc (.cells #[(.int .i64 id)] 3 (0, 0)) →
  Calls Try.prog 24 #[(.pointer x68), (.slice (some (⟨w2.heap.size, 0, none⟩ : Addr)) 1 1), (.int .i64 1)] w3 (Ret fun v_2 w4 => ∃ (x71 : Int), v_2 = (.int .i64 x71) ∧
  ∃ vS : World → Prop, ∀ w5 : World, w5 = w4.drew → vS w5 ∧
  ∃ (x76A : Option Addr), ∃ (x76N : Nat), ∃ (x76C : Nat), (∀ w6, vS w6 → w6.cell? (⟨xB, 1, none⟩ : Addr) = some (.slice x76A x76N x76C)) ∧
  ∀ w7 : World, w7 = w5.alloc (.cells #[] 3 (0, 0)) →
  vS w7 ∧
  ∃ (x80A : Option Addr), ∃ (x80N : Nat), ∃ (x80C : Nat), ∃ w8 : World, (Builtin.append_ #[27, 27] 27 #[(.slice (some (⟨w5.heap.size, 0, none⟩ : Addr)) 0 0), (.slice tokensA tokensN tokensC)]).run Try.prog w7 = .ok (.slice x80A x80N x80C) w8 ∧
  vS w8 ∧
  ∀ w9 : World, w9 = w8.alloc (.cells #[(.int .i64 version), (.slice x80A x80N x80C), (.int .i64 id)] 81 (0, 0)) →
  vS w9 ∧
  ∃ (x84A : Option Addr), ∃ (x84N : Nat), ∃ (x84C : Nat), ∃ w10 : World, (Builtin.append_ #[74, 74] 74 #[(.slice x76A x76N x76C), (.slice (some (⟨w8.heap.size, 0, none⟩ : Addr)) 1 1)]).run Try.prog w9 = .ok (.slice x84A x84N x84C) w10 ∧
  vS w10 ∧
  (((∃ u, w10.cell? (⟨xB, 1, none⟩ : Addr) = some u) ∧ w10.frozen? (⟨xB, 1, none⟩ : Addr) = false)) ∧ ∀ w11 : World, w11 = (w10.setCell (⟨xB, 1, none⟩ : Addr) (.slice x84A x84N x84C)) →
  R (.int .i64 0) w11))))))))))
theorem coadjutorref23_Index_Add.vc_eq (xB : Nat) (id : Int) (version : Int) (tokensA : Option Addr) (tokensN : Nat) (tokensC : Nat) (w : World) (R : Value → World → Prop) : fnV Try.prog Try.f45 (.at_ 1 3 (.k .nil) (.at_ 1 8 (.k .nil) (.c .nil (.c .nil (.at_ 5 7 (.k .nil) (.at_ 5 22 (.k .nil) (.c .nil (.tk 0 (.tk 1 (.tk 2 (.tk 3 (.tk 4 (.tk 5 (.tk 7 (.tk 9 (.alt 6 (.alt 8 (.tk 10 (.alt 11 (.alt 12 (.tk 13 (.tk 14 (.last 15 .nil))) .nil) .nil)) .nil) .nil)))))))))))))))) [(.pointer (some (⟨xB, 0, none⟩ : Addr))), (.int .i64 id), (.int .i64 version), (.slice tokensA tokensN tokensC)] w R = coadjutorref23_Index_Add.vc xB id version tokensA tokensN tokensC w R := by kernel_rfl
theorem coadjutorref23_Index_Add.calls (xB : Nat) (id : Int) (version : Int) (tokensA : Option Addr) (tokensN : Nat) (tokensC : Nat) {w : World} {R : Value → World → Prop} (h : coadjutorref23_Index_Add.vc xB id version tokensA tokensN tokensC w R) : Calls Try.prog 45 #[(.pointer (some (⟨xB, 0, none⟩ : Addr))), (.int .i64 id), (.int .i64 version), (.slice tokensA tokensN tokensC)] w (Ret R) :=
  calls_V fit Try.func45 (.at_ 1 3 (.k .nil) (.at_ 1 8 (.k .nil) (.c .nil (.c .nil (.at_ 5 7 (.k .nil) (.at_ 5 22 (.k .nil) (.c .nil (.tk 0 (.tk 1 (.tk 2 (.tk 3 (.tk 4 (.tk 5 (.tk 7 (.tk 9 (.alt 6 (.alt 8 (.tk 10 (.alt 11 (.alt 12 (.tk 13 (.tk 14 (.last 15 .nil))) .nil) .nil)) .nil) .nil)))))))))))))))) (by rw [show (#[(.pointer (some (⟨xB, 0, none⟩ : Addr))), (.int .i64 id), (.int .i64 version), (.slice tokensA tokensN tokensC)] : Array Value).toList = [(.pointer (some (⟨xB, 0, none⟩ : Addr))), (.int .i64 id), (.int .i64 version), (.slice tokensA tokensN tokensC)] from rfl, coadjutorref23_Index_Add.vc_eq]; exact h)
/-- function 41 -/
def coadjutorref23_Index_Find.vc (xB : Nat) (version : Int) (tokensA : Option Addr) (tokensN : Nat) (tokensC : Nat) (w : World) (R : Value → World → Prop) : Prop :=
  ∀ w1 : World, w1 = w.alloc (.cells #[] 3 (0, 0)) →
  ∃ vI : Option Addr → Nat → Nat → Int → Nat → World → Prop, (∃ vk_2 : Nat, vI (some (⟨w.heap.size, 0, none⟩ : Addr)) 0 0 4 vk_2 w1) ∧
  ∀ (jk : Nat → Value) (outA : Option Addr) (outN : Nat) (outC : Nat) (n : Int), ∀ (vk : Nat) (w2 : World), vI outA outN outC n vk w2 →
  (decide (n < ((tokensN : Nat) : Int)) = true →
  (0 ≤ n ∧ n ≤ ((tokensC : Nat) : Int)) ∧
  Calls Try.prog 47 #[(.pointer (some (⟨xB, 0, none⟩ : Addr))), (.int .i64 version), (.slice (if tokensC = 0 then tokensA else tokensA.map (·.add (0 * 1))) (n.toNat - 0) (tokensC - 0))] w2 (Ret fun v w3 => ∃ (x23 : Int), v = (.int .i64 x23) ∧
  (decide (x23 < (0 : Int)) = true →
  ∃ (x47 : Option Addr), w3.cell? (⟨xB, 0, none⟩ : Addr) = some (.pointer x47) ∧
  Calls Try.prog 24 #[(.pointer x47), (.slice outA outN outC), (.int .i64 1)] w3 (Ret fun v_1 w4 => ∃ (x49 : Int), v_1 = (.int .i64 x49) ∧
  R (.slice outA outN outC) w4)) ∧
  (decide (x23 < (0 : Int)) = false →
  Calls Try.prog 70 #[(.pointer (some (⟨xB, 0, none⟩ : Addr))), (.int .i64 x23)] w3 (Ret fun v_2 w5 => ∃ (x280 : Int), ∃ (x281A : Option Addr), ∃ (x281N : Nat), ∃ (x281C : Nat), ∃ (x282 : Int), v_2 = (.agg #[(.int .i64 x280), (.slice x281A x281N x281C), (.int .i64 x282)]) ∧
  ∀ w6 : World, w6 = w5.alloc (.cells #[(.int .i64 0), (.slice none 0 0), (.int .i64 0)] 81 (0, 0)) →
  (((∃ u, w6.cell? (⟨w5.heap.size, 0, none⟩ : Addr) = some u) ∧ w6.frozen? (⟨w5.heap.size, 0, none⟩ : Addr) = false) ∧ ((∃ u, w6.cell? (⟨w5.heap.size, 1, none⟩ : Addr) = some u) ∧ w6.frozen? (⟨w5.heap.size, 1, none⟩ : Addr) = false) ∧ ((∃ u, w6.cell? (⟨w5.heap.size, 2, none⟩ : Addr) = some u) ∧ w6.frozen? (⟨w5.heap.size, 2, none⟩ : Addr) = false)) ∧ ∀ w7 : World, w7 = (((w6.setCell (⟨w5.heap.size, 0, none⟩ : Addr) (.int .i64 x280)).setCell (⟨w5.heap.size, 1, none⟩ : Addr) (.slice x281A x281N x281C)).setCell (⟨w5.heap.size, 2, none⟩ : Addr) (.int .i64 x282)) →
  ∃ vS : World → Prop, ∀ w8 : World, w8 = w7.drew → vS w8 ∧
  ∃ (x33A : Option Addr), ∃ (x33N : Nat), ∃ (x33C : Nat), (∀ w9, vS w9 → w9.cell? (⟨xB, 1, none⟩ : Addr) = some (.slice x33A x33N x33C)) ∧
  ∃ (x340 : Int), ∃ (x341A : Option Addr), ∃ (x341N : Nat), ∃ (x341C : Nat), ∃ (x342 : Int), ((∀ w10, vS w10 → w10.cell? (⟨w5.heap.size, 0, none⟩ : Addr) = some (.int .i64 x340)) ∧ (∀ w10, vS w10 → w10.cell? (⟨w5.heap.size, 1, none⟩ : Addr) = some (.slice x341A x341N x341C)) ∧ (∀ w10, vS w10 → w10.cell? (⟨w5.heap.size, 2, none⟩ : Addr) = some (.int .i64 x342))) ∧
  ∀ w11 : World, w11 = w8.alloc (.cells #[(.int .i64 x340), (.slice x341A x341N x341C), (.int .i64 x342)] 81 (0, 0)) →
  vS w11 ∧
  ∃ (x36A : Option Addr), ∃ (x36N : Nat), ∃ (x36C : Nat), ∃ w12 : World, (Builtin.append_ #[74, 74] 74 #[(.slice x33A x33N x33C), (.slice (some (⟨w8.heap.size, 0, none⟩ : Addr)) 1 1)]).run Try.prog w11 = .ok (.slice x36A x36N x36C) w12 ∧
  vS w12 ∧
  (((∃ u, w12.cell? (⟨xB, 1, none⟩ : Addr) = some u) ∧ w12.frozen? (⟨xB, 1, none⟩ : Addr) = false)) ∧ ∀ w13 : World, w13 = (w12.setCell (⟨xB, 1, none⟩ : Addr) (.slice x36A x36N x36C)) →
  ∃ (x41 : Int), w13.cell? (⟨w5.heap.size, 2, none⟩ : Addr) = some (.int .i64 x41) ∧
  ∀ w14 : World, w14 = w13.alloc (.cells #[(.int .i64 x41)] 3 (0, 0)) →
  ∃ (x43A : Option Addr), ∃ (x43N : Nat), ∃ (x43C : Nat), ∃ w15 : World, (Builtin.append_ #[27, 27] 27 #[(.slice outA outN outC), (.slice (some (⟨w13.heap.size, 0, none⟩ : Addr)) 1 1)]).run Try.prog w14 = .ok (.slice x43A x43N x43C) w15 ∧
  ∃ vk_1 : Nat, vk_1 < vk ∧ vI x43A x43N x43C (IntKind.i64.wrap (n + 4)) vk_1 w15)))) ∧
  (decide (n < ((tokensN : Nat) : Int)) = false →
  ∃ (x47_1 : Option Addr), w2.cell? (⟨xB, 0, none⟩ : Addr) = some (.pointer x47_1) ∧
  Calls Try.prog 24 #[(.pointer x47_1), (.slice outA outN outC), (.int .i64 1)] w2 (Ret fun v_3 w16 => ∃ (x49_1 : Int), v_3 = (.int .i64 x49_1) ∧
  R (.slice outA outN outC) w16))
theorem coadjutorref23_Index_Find.vc_eq (xB : Nat) (version : Int) (tokensA : Option Addr) (tokensN : Nat) (tokensC : Nat) (w : World) (R : Value → World → Prop) : fnV Try.prog Try.f41 (.lp [(7, some (.slice)), (8, some (.int .i64)), (9, none), (10, none), (12, none), (13, none), (14, none), (15, none), (16, none), (17, none), (18, none), (19, none), (20, none), (21, none), (22, none), (23, none), (24, none), (25, none), (26, none), (27, none), (28, none), (29, none), (30, none), (31, none), (32, none), (33, none), (34, none), (35, none), (36, none), (37, none), (38, none), (39, none), (40, none), (41, none), (42, none), (43, none)] (.c (.c .nil (.tk 0 (.tk 1 (.tk 2 (.tk 3 (.tk 4 (.tk 5 (.alt 6 (.alt 7 (.tk 8 (.tk 9 (.last 10 .nil))) .nil) .nil)))))))) .nil)) [(.pointer (some (⟨xB, 0, none⟩ : Addr))), (.int .i64 version), (.slice tokensA tokensN tokensC)] w R = coadjutorref23_Index_Find.vc xB version tokensA tokensN tokensC w R := by kernel_rfl
theorem coadjutorref23_Index_Find.calls (xB : Nat) (version : Int) (tokensA : Option Addr) (tokensN : Nat) (tokensC : Nat) {w : World} {R : Value → World → Prop} (h : coadjutorref23_Index_Find.vc xB version tokensA tokensN tokensC w R) : Calls Try.prog 41 #[(.pointer (some (⟨xB, 0, none⟩ : Addr))), (.int .i64 version), (.slice tokensA tokensN tokensC)] w (Ret R) :=
  calls_V fit Try.func41 (.lp [(7, some (.slice)), (8, some (.int .i64)), (9, none), (10, none), (12, none), (13, none), (14, none), (15, none), (16, none), (17, none), (18, none), (19, none), (20, none), (21, none), (22, none), (23, none), (24, none), (25, none), (26, none), (27, none), (28, none), (29, none), (30, none), (31, none), (32, none), (33, none), (34, none), (35, none), (36, none), (37, none), (38, none), (39, none), (40, none), (41, none), (42, none), (43, none)] (.c (.c .nil (.tk 0 (.tk 1 (.tk 2 (.tk 3 (.tk 4 (.tk 5 (.alt 6 (.alt 7 (.tk 8 (.tk 9 (.last 10 .nil))) .nil) .nil)))))))) .nil)) (by rw [show (#[(.pointer (some (⟨xB, 0, none⟩ : Addr))), (.int .i64 version), (.slice tokensA tokensN tokensC)] : Array Value).toList = [(.pointer (some (⟨xB, 0, none⟩ : Addr))), (.int .i64 version), (.slice tokensA tokensN tokensC)] from rfl, coadjutorref23_Index_Find.vc_eq]; exact h)
/-- function 43 -/
def coadjutorref23_Index_Evict.vc (xB : Nat) (w : World) (R : Value → World → Prop) : Prop :=
  ∃ vI : Int → Nat → World → Prop, (∃ vk_2 : Nat, vI 0 vk_2 w) ∧
  ∀ (jk : Nat → Value) (i : Int), ∀ (vk : Nat) (w1 : World), vI i vk w1 →
  ∃ (x9A : Option Addr), ∃ (x9N : Nat), ∃ (x9C : Nat), w1.cell? (⟨xB, 1, none⟩ : Addr) = some (.slice x9A x9N x9C) ∧
  (decide (i < ((x9N : Nat) : Int)) = true →
  ∃ vS : World → Prop, ∀ w2 : World, w2 = w1.drew → vS w2 ∧
  ∃ (x17 : Option Addr), (∀ w3, vS w3 → w3.cell? (⟨xB, 0, none⟩ : Addr) = some (.pointer x17)) ∧
  someV x17 fun p =>
  ∃ (x20A : Option Addr), ∃ (x20N : Nat), ∃ (x20C : Nat), (∀ w4, vS w4 → w4.cell? p = some (.slice x20A x20N x20C)) ∧
  ∃ (x24A : Option Addr), ∃ (x24N : Nat), ∃ (x24C : Nat), (∀ w5, vS w5 → w5.cell? (⟨xB, 1, none⟩ : Addr) = some (.slice x24A x24N x24C)) ∧
  (0 ≤ i ∧ i < ((x24N : Nat) : Int)) ∧ someV x24A fun p_1 =>
  ∃ (x28 : Int), (∀ w6, vS w6 → w6.cell? ((p_1.add (i.toNat * 3)).add 2) = some (.int .i64 x28)) ∧
  (0 ≤ x28 ∧ x28 < ((x20N : Nat) : Int)) ∧ someV x20A fun p_2 =>
  ∃ (x31 : Int), (∀ w7, vS w7 → w7.cell? ((p_2.add (x28.toNat * 3)).add 1) = some (.int .i64 x31)) ∧
  ((x31 == (1 : Int)) = true →
  Calls Try.prog 70 #[(.pointer (some (⟨xB, 0, none⟩ : Addr))), (.int .i64 i)] w2 (Ret fun v w8 => ∃ (x350 : Int), ∃ (x351A : Option Addr), ∃ (x351N : Nat), ∃ (x351C : Nat), ∃ (x352 : Int), v = (.agg #[(.int .i64 x350), (.slice x351A x351N x351C), (.int .i64 x352)]) ∧
  ∀ w9 : World, w9 = w8.alloc (.cells #[(.int .i64 0), (.slice none 0 0), (.int .i64 0)] 81 (0, 0)) →
  (((∃ u, w9.cell? (⟨w8.heap.size, 0, none⟩ : Addr) = some u) ∧ w9.frozen? (⟨w8.heap.size, 0, none⟩ : Addr) = false) ∧ ((∃ u, w9.cell? (⟨w8.heap.size, 1, none⟩ : Addr) = some u) ∧ w9.frozen? (⟨w8.heap.size, 1, none⟩ : Addr) = false) ∧ ((∃ u, w9.cell? (⟨w8.heap.size, 2, none⟩ : Addr) = some u) ∧ w9.frozen? (⟨w8.heap.size, 2, none⟩ : Addr) = false)) ∧ ∀ w10 : World, w10 = (((w9.setCell (⟨w8.heap.size, 0, none⟩ : Addr) (.int .i64 x350)).setCell (⟨w8.heap.size, 1, none⟩ : Addr) (.slice x351A x351N x351C)).setCell (⟨w8.heap.size, 2, none⟩ : Addr) (.int .i64 x352)) →
  ∃ vS_1 : World → Prop, ∀ w11 : World, w11 = w10.drew → vS_1 w11 ∧
  ∃ (x39 : Option Addr), (∀ w12, vS_1 w12 → w12.cell? (⟨xB, 0, none⟩ : Addr) = some (.pointer x39)) ∧
  ∃ (x41 : Int), (∀ w13, vS_1 w13 → w13.cell? (⟨w8.heap.size, 2, none⟩ : Addr) = some (.int .i64 x41)) ∧
  ∀ w14 : World, w14 = w11.alloc (.cells #[(.int .i64 x41)] 3 (0, 0)) →
  vS_1 w14 ∧
  Calls Try.prog 24 #[(.pointer x39), (.slice (some (⟨w11.heap.size, 0, none⟩ : Addr)) 1 1), (.int .i64 (-1))] w14 (Ret fun v_1 w15 => ∃ (x43 : Int), v_1 = (.int .i64 x43) ∧
  vS_1 w15 ∧
  R (.bool true) w15))) ∧
  ((x31 == (1 : Int)) = false →
  ∃ vk_1 : Nat, vk_1 < vk ∧ vI (IntKind.i64.wrap (i + 1)) vk_1 w2)) ∧
  (decide (i < ((x9N : Nat) : Int)) = false →
  R (.bool false) w1)
theorem coadjutorref23_Index_Evict.vc_eq (xB : Nat) (w : World) (R : Value → World → Prop) : fnV Try.prog Try.f43 (.lp [(2, none), (3, some (.int .i64)), (4, none), (5, none), (6, none), (7, none), (8, none), (9, none), (10, none), (11, none), (12, none), (13, none), (14, none), (15, none), (16, none), (17, none), (18, none), (19, none), (20, none), (21, none), (22, none), (23, none), (24, none), (25, none), (26, none), (27, none), (28, none), (29, none), (30, none), (31, none), (32, none), (33, none), (34, none), (35, none), (36, none), (37, none), (38, none), (39, none), (40, none), (41, none), (42, none), (43, none)] (.c (.tk 0 (.tk 1 (.tk 2 (.tk 3 (.tk 4 (.tk 5 (.tk 6 (.tk 7 (.tk 8 (.tk 9 (.tk 10 (.tk 11 (.tk 12 (.tk 13 (.tk 14 (.tk 15 (.tk 16 (.tk 17 (.tk 18 (.fin (.c (.tk 0 (.tk 1 (.tk 2 (.tk 3 (.tk 4 (.tk 5 (.alt 6 (.alt 7 (.fin .nil) .nil) .nil))))))) .nil))))))))))))))))))))) .nil)) [(.pointer (some (⟨xB, 0, none⟩ : Addr)))] w R = coadjutorref23_Index_Evict.vc xB w R := by kernel_rfl
theorem coadjutorref23_Index_Evict.calls (xB : Nat) {w : World} {R : Value → World → Prop} (h : coadjutorref23_Index_Evict.vc xB w R) : Calls Try.prog 43 #[(.pointer (some (⟨xB, 0, none⟩ : Addr)))] w (Ret R) :=
  calls_V fit Try.func43 (.lp [(2, none), (3, some (.int .i64)), (4, none), (5, none), (6, none), (7, none), (8, none), (9, none), (10, none), (11, none), (12, none), (13, none), (14, none), (15, none), (16, none), (17, none), (18, none), (19, none), (20, none), (21, none), (22, none), (23, none), (24, none), (25, none), (26, none), (27, none), (28, none), (29, none), (30, none), (31, none), (32, none), (33, none), (34, none), (35, none), (36, none), (37, none), (38, none), (39, none), (40, none), (41, none), (42, none), (43, none)] (.c (.tk 0 (.tk 1 (.tk 2 (.tk 3 (.tk 4 (.tk 5 (.tk 6 (.tk 7 (.tk 8 (.tk 9 (.tk 10 (.tk 11 (.tk 12 (.tk 13 (.tk 14 (.tk 15 (.tk 16 (.tk 17 (.tk 18 (.fin (.c (.tk 0 (.tk 1 (.tk 2 (.tk 3 (.tk 4 (.tk 5 (.alt 6 (.alt 7 (.fin .nil) .nil) .nil))))))) .nil))))))))))))))))))))) .nil)) (by rw [show (#[(.pointer (some (⟨xB, 0, none⟩ : Addr)))] : Array Value).toList = [(.pointer (some (⟨xB, 0, none⟩ : Addr)))] from rfl, coadjutorref23_Index_Evict.vc_eq]; exact h)
/-- function 44 -/
def coadjutorref23_Index_Forget.vc (xB : Nat) (version : Int) (w : World) (R : Value → World → Prop) : Prop :=
  ∃ (x11A : Option Addr), ∃ (x11N : Nat), ∃ (x11C : Nat), w.cell? (⟨xB, 1, none⟩ : Addr) = some (.slice x11A x11N x11C) ∧
  ∃ vI : Int → Int → Nat → World → Prop, (∃ vk_2 : Nat, vI 0 (IntKind.i64.wrap (((x11N : Nat) : Int) - 1)) vk_2 w) ∧
  ∀ (jk : Nat → Value) (n : Int) (i : Int), ∀ (vk : Nat) (w1 : World), vI n i vk w1 →
  (decide (i ≥ (0 : Int)) = true →
  ∃ (x21A : Option Addr), ∃ (x21N : Nat), ∃ (x21C : Nat), w1.cell? (⟨xB, 1, none⟩ : Addr) = some (.slice x21A x21N x21C) ∧
  (0 ≤ i ∧ i < ((x21N : Nat) : Int)) ∧ someV x21A fun p =>
  ∃ (x25 : Int), w1.cell? (p.add (i.toNat * 3)) = some (.int .i64 x25) ∧
  ((x25 == version) = true →
  Calls Try.prog 70 #[(.pointer (some (⟨xB, 0, none⟩ : Addr))), (.int .i64 i)] w1 (Ret fun v w2 => ∃ (x300 : Int), ∃ (x301A : Option Addr), ∃ (x301N : Nat), ∃ (x301C : Nat), ∃ (x302 : Int), v = (.agg #[(.int .i64 x300), (.slice x301A x301N x301C), (.int .i64 x302)]) ∧
  ∀ w3 : World, w3 = w2.alloc (.cells #[(.int .i64 0), (.slice none 0 0), (.int .i64 0)] 81 (0, 0)) →
  (((∃ u, w3.cell? (⟨w2.heap.size, 0, none⟩ : Addr) = some u) ∧ w3.frozen? (⟨w2.heap.size, 0, none⟩ : Addr) = false) ∧ ((∃ u, w3.cell? (⟨w2.heap.size, 1, none⟩ : Addr) = some u) ∧ w3.frozen? (⟨w2.heap.size, 1, none⟩ : Addr) = false) ∧ ((∃ u, w3.cell? (⟨w2.heap.size, 2, none⟩ : Addr) = some u) ∧ w3.frozen? (⟨w2.heap.size, 2, none⟩ : Addr) = false)) ∧ ∀ w4 : World, w4 = (((w3.setCell (⟨w2.heap.size, 0, none⟩ : Addr) (.int .i64 x300)).setCell (⟨w2.heap.size, 1, none⟩ : Addr) (.slice x301A x301N x301C)).setCell (⟨w2.heap.size, 2, none⟩ : Addr) (.int .i64 x302)) →
  ∃ vS : World → Prop, ∀ w5 : World, w5 = w4.drew → vS w5 ∧
  ∃ (x34 : Option Addr), (∀ w6, vS w6 → w6.cell? (⟨xB, 0, none⟩ : Addr) = some (.pointer x34)) ∧
  ∃ (x36 : Int), (∀ w7, vS w7 → w7.cell? (⟨w2.heap.size, 2, none⟩ : Addr) = some (.int .i64 x36)) ∧
  ∀ w8 : World, w8 = w5.alloc (.cells #[(.int .i64 x36)] 3 (0, 0)) →
  vS w8 ∧
  Calls Try.prog 24 #[(.pointer x34), (.slice (some (⟨w5.heap.size, 0, none⟩ : Addr)) 1 1), (.int .i64 (-1))] w8 (Ret fun v_1 w9 => ∃ (x38 : Int), v_1 = (.int .i64 x38) ∧
  vS w9 ∧
  ∃ vk_1 : Nat, vk_1 < vk ∧ vI (IntKind.i64.wrap (n + 1)) (IntKind.i64.wrap (i - 1)) vk_1 w9))) ∧
  ((x25 == version) = false →
  ∃ vk_1 : Nat, vk_1 < vk ∧ vI n (IntKind.i64.wrap (i - 1)) vk_1 w1)) ∧
  (decide (i ≥ (0 : Int)) = false →
  R (.int .i64 n) w1)
theorem coadjutorref23_Index_Forget.vc_eq (xB : Nat) (version : Int) (w : World) (R : Value → World → Prop) : fnV Try.prog Try.f44 (.lp [(5, some (.int .i64)), (6, some (.int .i64)), (7, none), (14, none), (15, none), (16, none), (17, none), (18, none), (19, none), (20, none), (21, none), (22, none), (23, none), (24, none), (25, none), (26, none), (27, none), (28, none), (29, none), (30, none), (31, none), (32, none), (33, none), (34, none), (35, none), (36, none), (37, none), (38, none), (39, none), (40, none)] (.c (.c (.tk 0 (.tk 1 (.tk 2 (.tk 3 (.tk 4 (.tk 5 (.alt 6 (.alt 7 (.fin .nil) .nil) .nil))))))) .nil) .nil)) [(.pointer (some (⟨xB, 0, none⟩ : Addr))), (.int .i64 version)] w R = coadjutorref23_Index_Forget.vc xB version w R := by kernel_rfl
theorem coadjutorref23_Index_Forget.calls (xB : Nat) (version : Int) {w : World} {R : Value → World → Prop} (h : coadjutorref23_Index_Forget.vc xB version w R) : Calls Try.prog 44 #[(.pointer (some (⟨xB, 0, none⟩ : Addr))), (.int .i64 version)] w (Ret R) :=
  calls_V fit Try.func44 (.lp [(5, some (.int .i64)), (6, some (.int .i64)), (7, none), (14, none), (15, none), (16, none), (17, none), (18, none), (19, none), (20, none), (21, none), (22, none), (23, none), (24, none), (25, none), (26, none), (27, none), (28, none), (29, none), (30, none), (31, none), (32, none), (33, none), (34, none), (35, none), (36, none), (37, none), (38, none), (39, none), (40, none)] (.c (.c (.tk 0 (.tk 1 (.tk 2 (.tk 3 (.tk 4 (.tk 5 (.alt 6 (.alt 7 (.fin .nil) .nil) .nil))))))) .nil) .nil)) (by rw [show (#[(.pointer (some (⟨xB, 0, none⟩ : Addr))), (.int .i64 version)] : Array Value).toList = [(.pointer (some (⟨xB, 0, none⟩ : Addr))), (.int .i64 version)] from rfl, coadjutorref23_Index_Forget.vc_eq]; exact h)
end Go.Proofs.Ytpcddfhfchempaa.Vc
