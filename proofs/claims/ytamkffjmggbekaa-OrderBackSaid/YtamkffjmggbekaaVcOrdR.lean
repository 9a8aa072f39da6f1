import Derived.Test.YtamkffjmggbekaaVc
import Derived.Test.YtamkffjmggbekaaH
import Derived.Test.YtamkffjmggbekaaProg
import Derived.KernelRfl
set_option linter.unusedVariables false
set_option maxRecDepth 100000
namespace Go.Proofs.Ytamkffjmggbekaa.Vc
open Go Go.Proofs Go.Proofs.Ytamkffjmggbekaa.V
/-- function 47 -/
def coadjutorref29_Has.vc (kind : Int) (w : World) (R : Value → World → Prop) : Prop :=
  ((kind == (1 : Int)) = true →
  R (.string (ByteArray.mk #[105, 110, 112, 100])) w) ∧
  ((kind == (1 : Int)) = false →
  ((kind == (2 : Int)) = true →
  (kind == (2 : Int)) = true ∧
  R (.string (ByteArray.mk #[105])) w) ∧
  ((kind == (2 : Int)) = false →
  ((kind == (3 : Int)) = true →
  R (.string (ByteArray.mk #[105])) w) ∧
  ((kind == (3 : Int)) = false →
  ((kind == (5 : Int)) = true →
  (kind == (5 : Int)) = true ∧
  R (.string (ByteArray.mk #[110])) w) ∧
  ((kind == (5 : Int)) = false →
  ((kind == (10 : Int)) = true →
  R (.string (ByteArray.mk #[110])) w) ∧
  ((kind == (10 : Int)) = false →
  ((kind == (6 : Int)) = true →
  R (.string (ByteArray.mk #[103])) w) ∧
  ((kind == (6 : Int)) = false →
  ((kind == (7 : Int)) = true →
  R (.string (ByteArray.mk #[116])) w) ∧
  ((kind == (7 : Int)) = false →
  ((kind == (8 : Int)) = true →
  R (.string (ByteArray.mk #[110, 116])) w) ∧
  ((kind == (8 : Int)) = false →
  R (.string (ByteArray.mk #[])) w))))))))
theorem coadjutorref29_Has.vc_eq (kind : Int) (w : World) (R : Value → World → Prop) : fnV Try.prog Try.f47 (.c .nil (.c (.y .nil) (.c .nil (.c (.y .nil) (.c .nil (.c .nil (.c .nil (.c .nil .nil)))))))) [(.int .i64 kind)] w R = coadjutorref29_Has.vc kind w R := by kernel_rfl
theorem coadjutorref29_Has.calls (kind : Int) {w : World} {R : Value → World → Prop} (h : coadjutorref29_Has.vc kind w R) : Calls Try.prog 47 #[(.int .i64 kind)] w (Ret R) :=
  calls_V fit Try.func47 (.c .nil (.c (.y .nil) (.c .nil (.c (.y .nil) (.c .nil (.c .nil (.c .nil (.c .nil .nil)))))))) (by rw [show (#[(.int .i64 kind)] : Array Value).toList = [(.int .i64 kind)] from rfl, coadjutorref29_Has.vc_eq]; exact h)
/-- function 43 -/
def coadjutorref29_Name.vc (kind : Int) (w : World) (R : Value → World → Prop) : Prop :=
  ∀ w1 : World, w1 = w.alloc (.cells #[(.string ByteArray.empty), (.string ByteArray.empty), (.string ByteArray.empty), (.string ByteArray.empty), (.string ByteArray.empty), (.string ByteArray.empty), (.string ByteArray.empty), (.string ByteArray.empty), (.string ByteArray.empty), (.string ByteArray.empty), (.string ByteArray.empty), (.string ByteArray.empty), (.string ByteArray.empty)] 135 (0, 0)) →
  (((∃ u, w1.cell? (⟨w.heap.size, 0, none⟩ : Addr) = some u) ∧ w1.frozen? (⟨w.heap.size, 0, none⟩ : Addr) = false) ∧ ((∃ u, w1.cell? (⟨w.heap.size, 1, none⟩ : Addr) = some u) ∧ w1.frozen? (⟨w.heap.size, 1, none⟩ : Addr) = false) ∧ ((∃ u, w1.cell? (⟨w.heap.size, 2, none⟩ : Addr) = some u) ∧ w1.frozen? (⟨w.heap.size, 2, none⟩ : Addr) = false) ∧ ((∃ u, w1.cell? (⟨w.heap.size, 3, none⟩ : Addr) = some u) ∧ w1.frozen? (⟨w.heap.size, 3, none⟩ : Addr) = false) ∧ ((∃ u, w1.cell? (⟨w.heap.size, 4, none⟩ : Addr) = some u) ∧ w1.frozen? (⟨w.heap.size, 4, none⟩ : Addr) = false) ∧ ((∃ u, w1.cell? (⟨w.heap.size, 5, none⟩ : Addr) = some u) ∧ w1.frozen? (⟨w.heap.size, 5, none⟩ : Addr) = false) ∧ ((∃ u, w1.cell? (⟨w.heap.size, 6, none⟩ : Addr) = some u) ∧ w1.frozen? (⟨w.heap.size, 6, none⟩ : Addr) = false) ∧ ((∃ u, w1.cell? (⟨w.heap.size, 7, none⟩ : Addr) = some u) ∧ w1.frozen? (⟨w.heap.size, 7, none⟩ : Addr) = false) ∧ ((∃ u, w1.cell? (⟨w.heap.size, 8, none⟩ : Addr) = some u) ∧ w1.frozen? (⟨w.heap.size, 8, none⟩ : Addr) = false) ∧ ((∃ u, w1.cell? (⟨w.heap.size, 9, none⟩ : Addr) = some u) ∧ w1.frozen? (⟨w.heap.size, 9, none⟩ : Addr) = false) ∧ ((∃ u, w1.cell? (⟨w.heap.size, 10, none⟩ : Addr) = some u) ∧ w1.frozen? (⟨w.heap.size, 10, none⟩ : Addr) = false) ∧ ((∃ u, w1.cell? (⟨w.heap.size, 11, none⟩ : Addr) = some u) ∧ w1.frozen? (⟨w.heap.size, 11, none⟩ : Addr) = false) ∧ ((∃ u, w1.cell? (⟨w.heap.size, 12, none⟩ : Addr) = some u) ∧ w1.frozen? (⟨w.heap.size, 12, none⟩ : Addr) = false)) ∧ ∀ w2 : World, w2 = (((((((((((((w1.setCell (⟨w.heap.size, 0, none⟩ : Addr) (.string (ByteArray.mk #[115, 117, 98, 109, 105, 116]))).setCell (⟨w.heap.size, 1, none⟩ : Addr) (.string (ByteArray.mk #[99, 97, 110, 99, 101, 108]))).setCell (⟨w.heap.size, 2, none⟩ : Addr) (.string (ByteArray.mk #[112, 111, 108, 108]))).setCell (⟨w.heap.size, 3, none⟩ : Addr) (.string (ByteArray.mk #[97, 100, 109, 105, 116]))).setCell (⟨w.heap.size, 4, none⟩ : Addr) (.string (ByteArray.mk #[112, 105, 99, 107]))).setCell (⟨w.heap.size, 5, none⟩ : Addr) (.string (ByteArray.mk #[110, 111, 116, 101]))).setCell (⟨w.heap.size, 6, none⟩ : Addr) (.string (ByteArray.mk #[98, 101, 103, 105, 110]))).setCell (⟨w.heap.size, 7, none⟩ : Addr) (.string (ByteArray.mk #[99, 104, 117, 110, 107]))).setCell (⟨w.heap.size, 8, none⟩ : Addr) (.string (ByteArray.mk #[115, 101, 97, 108]))).setCell (⟨w.heap.size, 9, none⟩ : Addr) (.string (ByteArray.mk #[116, 114, 121]))).setCell (⟨w.heap.size, 10, none⟩ : Addr) (.string (ByteArray.mk #[112, 114, 111, 109, 111, 116, 101]))).setCell (⟨w.heap.size, 11, none⟩ : Addr) (.string (ByteArray.mk #[97, 98, 111, 114, 116]))).setCell (⟨w.heap.size, 12, none⟩ : Addr) (.string (ByteArray.mk #[115, 116, 97, 116, 117, 115]))) →
  (decide (kind < (1 : Int)) = true →
  R (.string (ByteArray.mk #[])) w2) ∧
  (decide (kind < (1 : Int)) = false →
  (decide (kind > (13 : Int)) = true →
  R (.string (ByteArray.mk #[])) w2) ∧
  (decide (kind > (13 : Int)) = false →
  (0 ≤ (IntKind.i64.wrap (kind - 1)) ∧ (IntKind.i64.wrap (kind - 1)) < (13 : Int)) ∧
  ∃ (x14 : ByteArray), w2.cell? ((⟨w.heap.size, 0, none⟩ : Addr).add ((IntKind.i64.wrap (kind - 1)).toNat * 1)) = some (.string x14) ∧
  R (.string x14) w2))
theorem coadjutorref29_Name.vc_eq (kind : Int) (w : World) (R : Value → World → Prop) : fnV Try.prog Try.f43 (.at_ 2 2 (.k .nil) (.c .nil .nil)) [(.int .i64 kind)] w R = coadjutorref29_Name.vc kind w R := by kernel_rfl
theorem coadjutorref29_Name.calls (kind : Int) {w : World} {R : Value → World → Prop} (h : coadjutorref29_Name.vc kind w R) : Calls Try.prog 43 #[(.int .i64 kind)] w (Ret R) :=
  calls_V fit Try.func43 (.at_ 2 2 (.k .nil) (.c .nil .nil)) (by rw [show (#[(.int .i64 kind)] : Array Value).toList = [(.int .i64 kind)] from rfl, coadjutorref29_Name.vc_eq]; exact h)
/-- function 60 -/
def coadjutorref29_number.vc (n : Int) (w : World) (R : Value → World → Prop) : Prop :=
  (decide (n ≥ (-2147483648 : Int)) = true →
  R (.bool (decide (n ≤ (2147483647 : Int)))) w) ∧
  (decide (n ≥ (-2147483648 : Int)) = false →
  R (.bool false) w)
theorem coadjutorref29_number.vc_eq (n : Int) (w : World) (R : Value → World → Prop) : fnV Try.prog Try.f60 (.at_ 1 2 .nil .nil) [(.int .i64 n)] w R = coadjutorref29_number.vc n w R := by kernel_rfl
theorem coadjutorref29_number.calls (n : Int) {w : World} {R : Value → World → Prop} (h : coadjutorref29_number.vc n w R) : Calls Try.prog 60 #[(.int .i64 n)] w (Ret R) :=
  calls_V fit Try.func60 (.at_ 1 2 .nil .nil) (by rw [show (#[(.int .i64 n)] : Array Value).toList = [(.int .i64 n)] from rfl, coadjutorref29_number.vc_eq]; exact h)
/-- function 62 -/
def coadjutorref29_list.vc (lA : Option Addr) (lN : Nat) (lC : Nat) (is : Bool) (w : World) (R : Value → World → Prop) : Prop :=
  ∃ vI : Int → Nat → World → Prop, (∃ vk_2 : Nat, vI 0 vk_2 w) ∧
  ∀ (jk : Nat → Value) (i : Int), ∀ (vk : Nat) (w1 : World), vI i vk w1 →
  (decide (i < ((lN : Nat) : Int)) = true →
  (0 ≤ i ∧ i < ((lN : Nat) : Int)) ∧ someV lA fun p =>
  ∃ (x15 : Int), w1.cell? (p.add (i.toNat * 1)) = some (.int .i64 x15) ∧
  Calls Try.prog 60 #[(.int .i64 x15)] w1 (Ret fun v w2 => ∃ (x16 : Bool), v = (.bool x16) ∧
  ((!x16) = true →
  R (.bool false) w2) ∧
  ((!x16) = false →
  ∃ vk_1 : Nat, vk_1 < vk ∧ vI (IntKind.i64.wrap (i + 1)) vk_1 w2))) ∧
  (decide (i < ((lN : Nat) : Int)) = false →
  (decide (((lN : Nat) : Int) ≤ (32 : Int)) = true →
  (is = true →
  R (.bool true) w1) ∧
  (is = false →
  R (.bool (((lN : Nat) : Int) == (0 : Int))) w1)) ∧
  (decide (((lN : Nat) : Int) ≤ (32 : Int)) = false →
  R (.bool false) w1))
theorem coadjutorref29_list.vc_eq (lA : Option Addr) (lN : Nat) (lC : Nat) (is : Bool) (w : World) (R : Value → World → Prop) : fnV Try.prog Try.f62 (.lp [(4, none), (5, some (.int .i64)), (6, none), (7, none), (8, none), (9, none), (10, none), (11, none), (12, none), (13, none), (14, none), (15, none), (16, none), (17, none)] (.c (.c .nil .nil) (.at_ 6 3 (.at_ 6 5 .nil .nil) .nil))) [(.slice lA lN lC), (.bool is)] w R = coadjutorref29_list.vc lA lN lC is w R := by kernel_rfl
theorem coadjutorref29_list.calls (lA : Option Addr) (lN : Nat) (lC : Nat) (is : Bool) {w : World} {R : Value → World → Prop} (h : coadjutorref29_list.vc lA lN lC is w R) : Calls Try.prog 62 #[(.slice lA lN lC), (.bool is)] w (Ret R) :=
  calls_V fit Try.func62 (.lp [(4, none), (5, some (.int .i64)), (6, none), (7, none), (8, none), (9, none), (10, none), (11, none), (12, none), (13, none), (14, none), (15, none), (16, none), (17, none)] (.c (.c .nil .nil) (.at_ 6 3 (.at_ 6 5 .nil .nil) .nil))) (by rw [show (#[(.slice lA lN lC), (.bool is)] : Array Value).toList = [(.slice lA lN lC), (.bool is)] from rfl, coadjutorref29_list.vc_eq]; exact h)
/-- function 61 -/
def coadjutorref29_has.vc (kind : Int) (x : Int) (w : World) (R : Value → World → Prop) : Prop :=
  Calls Try.prog 47 #[(.int .i64 kind)] w (Ret fun v w1 => ∃ (x8 : ByteArray), v = (.string x8) ∧
  ∃ vI : Int → Nat → World → Prop, (∃ vk_2 : Nat, vI 0 vk_2 w1) ∧
  ∀ (jk : Nat → Value) (i : Int), ∀ (vk : Nat) (w2 : World), vI i vk w2 →
  (decide (i < ((x8.size : Nat) : Int)) = true →
  (0 ≤ i ∧ i < ((x8.size : Nat) : Int)) ∧
  (((bt x8 i) == x) = true →
  R (.bool true) w2) ∧
  (((bt x8 i) == x) = false →
  ∃ vk_1 : Nat, vk_1 < vk ∧ vI (IntKind.i64.wrap (i + 1)) vk_1 w2)) ∧
  (decide (i < ((x8.size : Nat) : Int)) = false →
  R (.bool false) w2))
theorem coadjutorref29_has.vc_eq (kind : Int) (x : Int) (w : World) (R : Value → World → Prop) : fnV Try.prog Try.f61 (.lp [(4, none), (6, some (.int .i64)), (9, none), (10, none), (11, none), (12, none), (13, none), (14, none), (15, none), (16, none), (17, none), (18, none), (19, none)] (.c (.c .nil .nil) .nil)) [(.int .i64 kind), (.int .u8 x)] w R = coadjutorref29_has.vc kind x w R := by kernel_rfl
theorem coadjutorref29_has.calls (kind : Int) (x : Int) {w : World} {R : Value → World → Prop} (h : coadjutorref29_has.vc kind x w R) : Calls Try.prog 61 #[(.int .i64 kind), (.int .u8 x)] w (Ret R) :=
  calls_V fit Try.func61 (.lp [(4, none), (6, some (.int .i64)), (9, none), (10, none), (11, none), (12, none), (13, none), (14, none), (15, none), (16, none), (17, none), (18, none), (19, none)] (.c (.c .nil .nil) .nil)) (by rw [show (#[(.int .i64 kind), (.int .u8 x)] : Array Value).toList = [(.int .i64 kind), (.int .u8 x)] from rfl, coadjutorref29_has.vc_eq]; exact h)
/-- function 33 -/
def coadjutorref29_Good.vc (c0 : Int) (c1 : Int) (c2 : Int) (c3 : Bool) (c4A : Option Addr) (c4N : Nat) (c4C : Nat) (c5A : Option Addr) (c5N : Nat) (c5C : Nat) (c6 : ByteArray) (w : World) (R : Value → World → Prop) : Prop :=
  ∀ w1 : World, w1 = w.alloc (.cells #[(.int .i64 c0), (.int .i64 c1), (.int .i64 c2), (.bool c3), (.slice c4A c4N c4C), (.slice c5A c5N c5C), (.string c6)] 73 (0, 0)) →
  ∃ (x5 : Int), w1.cell? (⟨w.heap.size, 0, none⟩ : Addr) = some (.int .i64 x5) ∧
  Calls Try.prog 43 #[(.int .i64 x5)] w1 (Ret fun v w2 => ∃ (x7 : ByteArray), v = (.string x7) ∧
  ((x7.toList == (ByteArray.mk #[]).toList) = true →
  R (.bool false) w2) ∧
  ((x7.toList == (ByteArray.mk #[]).toList) = false →
  ∃ (x11 : Int), w2.cell? (⟨w.heap.size, 1, none⟩ : Addr) = some (.int .i64 x11) ∧
  Calls Try.prog 60 #[(.int .i64 x11)] w2 (Ret fun v_1 w3 => ∃ (x12 : Bool), v_1 = (.bool x12) ∧
  ((!x12) = true →
  R (.bool false) w3) ∧
  ((!x12) = false →
  ∃ (x17 : Int), w3.cell? (⟨w.heap.size, 2, none⟩ : Addr) = some (.int .i64 x17) ∧
  Calls Try.prog 60 #[(.int .i64 x17)] w3 (Ret fun v_2 w4 => ∃ (x18 : Bool), v_2 = (.bool x18) ∧
  ((!x18) = true →
  R (.bool false) w4) ∧
  ((!x18) = false →
  ∃ (x23 : Int), w4.cell? (⟨w.heap.size, 1, none⟩ : Addr) = some (.int .i64 x23) ∧
  ((x23 != (0 : Int)) = true →
  Calls Try.prog 61 #[(.int .i64 x5), (.int .u8 105)] w4 (Ret fun v_3 w5 => ∃ (x27 : Bool), v_3 = (.bool x27) ∧
  ((!x27) = true →
  R (.bool false) w5) ∧
  ((!x27) = false →
  ∃ (x33 : Int), w5.cell? (⟨w.heap.size, 2, none⟩ : Addr) = some (.int .i64 x33) ∧
  ((x33 != (0 : Int)) = true →
  Calls Try.prog 61 #[(.int .i64 x5), (.int .u8 110)] w5 (Ret fun v_4 w6 => ∃ (x37 : Bool), v_4 = (.bool x37) ∧
  ((!x37) = true →
  R (.bool false) w6) ∧
  ((!x37) = false →
  ∃ (x43 : Bool), w6.cell? (⟨w.heap.size, 3, none⟩ : Addr) = some (.bool x43) ∧
  (x43 = true →
  Calls Try.prog 61 #[(.int .i64 x5), (.int .u8 103)] w6 (Ret fun v_5 w7 => ∃ (x46 : Bool), v_5 = (.bool x46) ∧
  ((!x46) = true →
  R (.bool false) w7) ∧
  ((!x46) = false →
  ∃ vS : World → Prop, ∀ w8 : World, w8 = w7.drew → vS w8 ∧
  ∃ (x51A : Option Addr), ∃ (x51N : Nat), ∃ (x51C : Nat), (∀ w9, vS w9 → w9.cell? (⟨w.heap.size, 4, none⟩ : Addr) = some (.slice x51A x51N x51C)) ∧
  Calls Try.prog 61 #[(.int .i64 x5), (.int .u8 112)] w8 (Ret fun v_6 w10 => ∃ (x53 : Bool), v_6 = (.bool x53) ∧
  vS w10 ∧
  Calls Try.prog 62 #[(.slice x51A x51N x51C), (.bool x53)] w10 (Ret fun v_7 w11 => ∃ (x54 : Bool), v_7 = (.bool x54) ∧
  vS w11 ∧
  (x54 = true →
  ∃ (x57A : Option Addr), ∃ (x57N : Nat), ∃ (x57C : Nat), (∀ w12, vS w12 → w12.cell? (⟨w.heap.size, 5, none⟩ : Addr) = some (.slice x57A x57N x57C)) ∧
  Calls Try.prog 61 #[(.int .i64 x5), (.int .u8 100)] w11 (Ret fun v_8 w13 => ∃ (x59 : Bool), v_8 = (.bool x59) ∧
  vS w13 ∧
  Calls Try.prog 62 #[(.slice x57A x57N x57C), (.bool x59)] w13 (Ret fun v_9 w14 => ∃ (x60 : Bool), v_9 = (.bool x60) ∧
  vS w14 ∧
  (x60 = true →
  ∃ (x64 : ByteArray), w14.cell? (⟨w.heap.size, 6, none⟩ : Addr) = some (.string x64) ∧
  vS w14 ∧
  (decide (((x64.size : Nat) : Int) ≤ (1024 : Int)) = true →
  ∃ (x70 : ByteArray), w14.cell? (⟨w.heap.size, 6, none⟩ : Addr) = some (.string x70) ∧
  vS w14 ∧
  ((x70.toList == (ByteArray.mk #[]).toList) = true →
  R (.bool true) w14) ∧
  ((x70.toList == (ByteArray.mk #[]).toList) = false →
  Calls Try.prog 61 #[(.int .i64 x5), (.int .u8 116)] w14 (Ret fun v_10 w15 => ∃ (x74 : Bool), v_10 = (.bool x74) ∧
  vS w15 ∧
  R (.bool x74) w15))) ∧
  (decide (((x64.size : Nat) : Int) ≤ (1024 : Int)) = false →
  R (.bool false) w14)) ∧
  (x60 = false →
  R (.bool false) w14)))) ∧
  (x54 = false →
  R (.bool false) w11)))))) ∧
  (x43 = false →
  ∃ vS_1 : World → Prop, ∀ w16 : World, w16 = w6.drew → vS_1 w16 ∧
  ∃ (x51A_1 : Option Addr), ∃ (x51N_1 : Nat), ∃ (x51C_1 : Nat), (∀ w17, vS_1 w17 → w17.cell? (⟨w.heap.size, 4, none⟩ : Addr) = some (.slice x51A_1 x51N_1 x51C_1)) ∧
  Calls Try.prog 61 #[(.int .i64 x5), (.int .u8 112)] w16 (Ret fun v_11 w18 => ∃ (x53_1 : Bool), v_11 = (.bool x53_1) ∧
  vS_1 w18 ∧
  Calls Try.prog 62 #[(.slice x51A_1 x51N_1 x51C_1), (.bool x53_1)] w18 (Ret fun v_12 w19 => ∃ (x54_1 : Bool), v_12 = (.bool x54_1) ∧
  vS_1 w19 ∧
  (x54_1 = true →
  ∃ (x57A_1 : Option Addr), ∃ (x57N_1 : Nat), ∃ (x57C_1 : Nat), (∀ w20, vS_1 w20 → w20.cell? (⟨w.heap.size, 5, none⟩ : Addr) = some (.slice x57A_1 x57N_1 x57C_1)) ∧
  Calls Try.prog 61 #[(.int .i64 x5), (.int .u8 100)] w19 (Ret fun v_13 w21 => ∃ (x59_1 : Bool), v_13 = (.bool x59_1) ∧
  vS_1 w21 ∧
  Calls Try.prog 62 #[(.slice x57A_1 x57N_1 x57C_1), (.bool x59_1)] w21 (Ret fun v_14 w22 => ∃ (x60_1 : Bool), v_14 = (.bool x60_1) ∧
  vS_1 w22 ∧
  (x60_1 = true →
  ∃ (x64_1 : ByteArray), w22.cell? (⟨w.heap.size, 6, none⟩ : Addr) = some (.string x64_1) ∧
  vS_1 w22 ∧
  (decide (((x64_1.size : Nat) : Int) ≤ (1024 : Int)) = true →
  ∃ (x70_1 : ByteArray), w22.cell? (⟨w.heap.size, 6, none⟩ : Addr) = some (.string x70_1) ∧
  vS_1 w22 ∧
  ((x70_1.toList == (ByteArray.mk #[]).toList) = true →
  R (.bool true) w22) ∧
  ((x70_1.toList == (ByteArray.mk #[]).toList) = false →
  Calls Try.prog 61 #[(.int .i64 x5), (.int .u8 116)] w22 (Ret fun v_15 w23 => ∃ (x74_1 : Bool), v_15 = (.bool x74_1) ∧
  vS_1 w23 ∧
  R (.bool x74_1) w23))) ∧
  (decide (((x64_1.size : Nat) : Int) ≤ (1024 : Int)) = false →
  R (.bool false) w22)) ∧
  (x60_1 = false →
  R (.bool false) w22)))) ∧
  (x54_1 = false →
  R (.bool false) w19))))))) ∧
  ((x33 != (0 : Int)) = false →
  ∃ (x43_1 : Bool), w5.cell? (⟨w.heap.size, 3, none⟩ : Addr) = some (.bool x43_1) ∧
  (x43_1 = true →
  Calls Try.prog 61 #[(.int .i64 x5), (.int .u8 103)] w5 (Ret fun v_16 w24 => ∃ (x46_1 : Bool), v_16 = (.bool x46_1) ∧
  ((!x46_1) = true →
  R (.bool false) w24) ∧
  ((!x46_1) = false →
  ∃ vS_2 : World → Prop, ∀ w25 : World, w25 = w24.drew → vS_2 w25 ∧
  ∃ (x51A_2 : Option Addr), ∃ (x51N_2 : Nat), ∃ (x51C_2 : Nat), (∀ w26, vS_2 w26 → w26.cell? (⟨w.heap.size, 4, none⟩ : Addr) = some (.slice x51A_2 x51N_2 x51C_2)) ∧
  Calls Try.prog 61 #[(.int .i64 x5), (.int .u8 112)] w25 (Ret fun v_17 w27 => ∃ (x53_2 : Bool), v_17 = (.bool x53_2) ∧
  vS_2 w27 ∧
  Calls Try.prog 62 #[(.slice x51A_2 x51N_2 x51C_2), (.bool x53_2)] w27 (Ret fun v_18 w28 => ∃ (x54_2 : Bool), v_18 = (.bool x54_2) ∧
  vS_2 w28 ∧
  (x54_2 = true →
  ∃ (x57A_2 : Option Addr), ∃ (x57N_2 : Nat), ∃ (x57C_2 : Nat), (∀ w29, vS_2 w29 → w29.cell? (⟨w.heap.size, 5, none⟩ : Addr) = some (.slice x57A_2 x57N_2 x57C_2)) ∧
  Calls Try.prog 61 #[(.int .i64 x5), (.int .u8 100)] w28 (Ret fun v_19 w30 => ∃ (x59_2 : Bool), v_19 = (.bool x59_2) ∧
  vS_2 w30 ∧
  Calls Try.prog 62 #[(.slice x57A_2 x57N_2 x57C_2), (.bool x59_2)] w30 (Ret fun v_20 w31 => ∃ (x60_2 : Bool), v_20 = (.bool x60_2) ∧
  vS_2 w31 ∧
  (x60_2 = true →
  ∃ (x64_2 : ByteArray), w31.cell? (⟨w.heap.size, 6, none⟩ : Addr) = some (.string x64_2) ∧
  vS_2 w31 ∧
  (decide (((x64_2.size : Nat) : Int) ≤ (1024 : Int)) = true →
  ∃ (x70_2 : ByteArray), w31.cell? (⟨w.heap.size, 6, none⟩ : Addr) = some (.string x70_2) ∧
  vS_2 w31 ∧
  ((x70_2.toList == (ByteArray.mk #[]).toList) = true →
  R (.bool true) w31) ∧
  ((x70_2.toList == (ByteArray.mk #[]).toList) = false →
  Calls Try.prog 61 #[(.int .i64 x5), (.int .u8 116)] w31 (Ret fun v_21 w32 => ∃ (x74_2 : Bool), v_21 = (.bool x74_2) ∧
  vS_2 w32 ∧
  R (.bool x74_2) w32))) ∧
  (decide (((x64_2.size : Nat) : Int) ≤ (1024 : Int)) = false →
  R (.bool false) w31)) ∧
  (x60_2 = false →
  R (.bool false) w31)))) ∧
  (x54_2 = false →
  R (.bool false) w28)))))) ∧
  (x43_1 = false →
  ∃ vS_3 : World → Prop, ∀ w33 : World, w33 = w5.drew → vS_3 w33 ∧
  ∃ (x51A_3 : Option Addr), ∃ (x51N_3 : Nat), ∃ (x51C_3 : Nat), (∀ w34, vS_3 w34 → w34.cell? (⟨w.heap.size, 4, none⟩ : Addr) = some (.slice x51A_3 x51N_3 x51C_3)) ∧
  Calls Try.prog 61 #[(.int .i64 x5), (.int .u8 112)] w33 (Ret fun v_22 w35 => ∃ (x53_3 : Bool), v_22 = (.bool x53_3) ∧
  vS_3 w35 ∧
  Calls Try.prog 62 #[(.slice x51A_3 x51N_3 x51C_3), (.bool x53_3)] w35 (Ret fun v_23 w36 => ∃ (x54_3 : Bool), v_23 = (.bool x54_3) ∧
  vS_3 w36 ∧
  (x54_3 = true →
  ∃ (x57A_3 : Option Addr), ∃ (x57N_3 : Nat), ∃ (x57C_3 : Nat), (∀ w37, vS_3 w37 → w37.cell? (⟨w.heap.size, 5, none⟩ : Addr) = some (.slice x57A_3 x57N_3 x57C_3)) ∧
  Calls Try.prog 61 #[(.int .i64 x5), (.int .u8 100)] w36 (Ret fun v_24 w38 => ∃ (x59_3 : Bool), v_24 = (.bool x59_3) ∧
  vS_3 w38 ∧
  Calls Try.prog 62 #[(.slice x57A_3 x57N_3 x57C_3), (.bool x59_3)] w38 (Ret fun v_25 w39 => ∃ (x60_3 : Bool), v_25 = (.bool x60_3) ∧
  vS_3 w39 ∧
  (x60_3 = true →
  ∃ (x64_3 : ByteArray), w39.cell? (⟨w.heap.size, 6, none⟩ : Addr) = some (.string x64_3) ∧
  vS_3 w39 ∧
  (decide (((x64_3.size : Nat) : Int) ≤ (1024 : Int)) = true →
  ∃ (x70_3 : ByteArray), w39.cell? (⟨w.heap.size, 6, none⟩ : Addr) = some (.string x70_3) ∧
  vS_3 w39 ∧
  ((x70_3.toList == (ByteArray.mk #[]).toList) = true →
  R (.bool true) w39) ∧
  ((x70_3.toList == (ByteArray.mk #[]).toList) = false →
  Calls Try.prog 61 #[(.int .i64 x5), (.int .u8 116)] w39 (Ret fun v_26 w40 => ∃ (x74_3 : Bool), v_26 = (.bool x74_3) ∧
  vS_3 w40 ∧
  R (.bool x74_3) w40))) ∧
  (decide (((x64_3.size : Nat) : Int) ≤ (1024 : Int)) = false →
  R (.bool false) w39)) ∧
  (x60_3 = false →
  R (.bool false) w39)))) ∧
  (x54_3 = false →
  R (.bool false) w36)))))))) ∧
  ((x23 != (0 : Int)) = false →
  ∃ (x33_1 : Int), w4.cell? (⟨w.heap.size, 2, none⟩ : Addr) = some (.int .i64 x33_1) ∧
  ((x33_1 != (0 : Int)) = true →
  Calls Try.prog 61 #[(.int .i64 x5), (.int .u8 110)] w4 (Ret fun v_27 w41 => ∃ (x37_1 : Bool), v_27 = (.bool x37_1) ∧
  ((!x37_1) = true →
  R (.bool false) w41) ∧
  ((!x37_1) = false →
  ∃ (x43_2 : Bool), w41.cell? (⟨w.heap.size, 3, none⟩ : Addr) = some (.bool x43_2) ∧
  (x43_2 = true →
  Calls Try.prog 61 #[(.int .i64 x5), (.int .u8 103)] w41 (Ret fun v_28 w42 => ∃ (x46_2 : Bool), v_28 = (.bool x46_2) ∧
  ((!x46_2) = true →
  R (.bool false) w42) ∧
  ((!x46_2) = false →
  ∃ vS_4 : World → Prop, ∀ w43 : World, w43 = w42.drew → vS_4 w43 ∧
  ∃ (x51A_4 : Option Addr), ∃ (x51N_4 : Nat), ∃ (x51C_4 : Nat), (∀ w44, vS_4 w44 → w44.cell? (⟨w.heap.size, 4, none⟩ : Addr) = some (.slice x51A_4 x51N_4 x51C_4)) ∧
  Calls Try.prog 61 #[(.int .i64 x5), (.int .u8 112)] w43 (Ret fun v_29 w45 => ∃ (x53_4 : Bool), v_29 = (.bool x53_4) ∧
  vS_4 w45 ∧
  Calls Try.prog 62 #[(.slice x51A_4 x51N_4 x51C_4), (.bool x53_4)] w45 (Ret fun v_30 w46 => ∃ (x54_4 : Bool), v_30 = (.bool x54_4) ∧
  vS_4 w46 ∧
  (x54_4 = true →
  ∃ (x57A_4 : Option Addr), ∃ (x57N_4 : Nat), ∃ (x57C_4 : Nat), (∀ w47, vS_4 w47 → w47.cell? (⟨w.heap.size, 5, none⟩ : Addr) = some (.slice x57A_4 x57N_4 x57C_4)) ∧
  Calls Try.prog 61 #[(.int .i64 x5), (.int .u8 100)] w46 (Ret fun v_31 w48 => ∃ (x59_4 : Bool), v_31 = (.bool x59_4) ∧
  vS_4 w48 ∧
  Calls Try.prog 62 #[(.slice x57A_4 x57N_4 x57C_4), (.bool x59_4)] w48 (Ret fun v_32 w49 => ∃ (x60_4 : Bool), v_32 = (.bool x60_4) ∧
  vS_4 w49 ∧
  (x60_4 = true →
  ∃ (x64_4 : ByteArray), w49.cell? (⟨w.heap.size, 6, none⟩ : Addr) = some (.string x64_4) ∧
  vS_4 w49 ∧
  (decide (((x64_4.size : Nat) : Int) ≤ (1024 : Int)) = true →
  ∃ (x70_4 : ByteArray), w49.cell? (⟨w.heap.size, 6, none⟩ : Addr) = some (.string x70_4) ∧
  vS_4 w49 ∧
  ((x70_4.toList == (ByteArray.mk #[]).toList) = true →
  R (.bool true) w49) ∧
  ((x70_4.toList == (ByteArray.mk #[]).toList) = false →
  Calls Try.prog 61 #[(.int .i64 x5), (.int .u8 116)] w49 (Ret fun v_33 w50 => ∃ (x74_4 : Bool), v_33 = (.bool x74_4) ∧
  vS_4 w50 ∧
  R (.bool x74_4) w50))) ∧
  (decide (((x64_4.size : Nat) : Int) ≤ (1024 : Int)) = false →
  R (.bool false) w49)) ∧
  (x60_4 = false →
  R (.bool false) w49)))) ∧
  (x54_4 = false →
  R (.bool false) w46)))))) ∧
  (x43_2 = false →
  ∃ vS_5 : World → Prop, ∀ w51 : World, w51 = w41.drew → vS_5 w51 ∧
  ∃ (x51A_5 : Option Addr), ∃ (x51N_5 : Nat), ∃ (x51C_5 : Nat), (∀ w52, vS_5 w52 → w52.cell? (⟨w.heap.size, 4, none⟩ : Addr) = some (.slice x51A_5 x51N_5 x51C_5)) ∧
  Calls Try.prog 61 #[(.int .i64 x5), (.int .u8 112)] w51 (Ret fun v_34 w53 => ∃ (x53_5 : Bool), v_34 = (.bool x53_5) ∧
  vS_5 w53 ∧
  Calls Try.prog 62 #[(.slice x51A_5 x51N_5 x51C_5), (.bool x53_5)] w53 (Ret fun v_35 w54 => ∃ (x54_5 : Bool), v_35 = (.bool x54_5) ∧
  vS_5 w54 ∧
  (x54_5 = true →
  ∃ (x57A_5 : Option Addr), ∃ (x57N_5 : Nat), ∃ (x57C_5 : Nat), (∀ w55, vS_5 w55 → w55.cell? (⟨w.heap.size, 5, none⟩ : Addr) = some (.slice x57A_5 x57N_5 x57C_5)) ∧
  Calls Try.prog 61 #[(.int .i64 x5), (.int .u8 100)] w54 (Ret fun v_36 w56 => ∃ (x59_5 : Bool), v_36 = (.bool x59_5) ∧
  vS_5 w56 ∧
  Calls Try.prog 62 #[(.slice x57A_5 x57N_5 x57C_5), (.bool x59_5)] w56 (Ret fun v_37 w57 => ∃ (x60_5 : Bool), v_37 = (.bool x60_5) ∧
  vS_5 w57 ∧
  (x60_5 = true →
  ∃ (x64_5 : ByteArray), w57.cell? (⟨w.heap.size, 6, none⟩ : Addr) = some (.string x64_5) ∧
  vS_5 w57 ∧
  (decide (((x64_5.size : Nat) : Int) ≤ (1024 : Int)) = true →
  ∃ (x70_5 : ByteArray), w57.cell? (⟨w.heap.size, 6, none⟩ : Addr) = some (.string x70_5) ∧
  vS_5 w57 ∧
  ((x70_5.toList == (ByteArray.mk #[]).toList) = true →
  R (.bool true) w57) ∧
  ((x70_5.toList == (ByteArray.mk #[]).toList) = false →
  Calls Try.prog 61 #[(.int .i64 x5), (.int .u8 116)] w57 (Ret fun v_38 w58 => ∃ (x74_5 : Bool), v_38 = (.bool x74_5) ∧
  vS_5 w58 ∧
  R (.bool x74_5) w58))) ∧
  (decide (((x64_5.size : Nat) : Int) ≤ (1024 : Int)) = false →
  R (.bool false) w57)) ∧
  (x60_5 = false →
  R (.bool false) w57)))) ∧
  (x54_5 = false →
  R (.bool false) w54))))))) ∧
  ((x33_1 != (0 : Int)) = false →
  ∃ (x43_3 : Bool), w4.cell? (⟨w.heap.size, 3, none⟩ : Addr) = some (.bool x43_3) ∧
  (x43_3 = true →
  Calls Try.prog 61 #[(.int .i64 x5), (.int .u8 103)] w4 (Ret fun v_39 w59 => ∃ (x46_3 : Bool), v_39 = (.bool x46_3) ∧
  ((!x46_3) = true →
  R (.bool false) w59) ∧
  ((!x46_3) = false →
  ∃ vS_6 : World → Prop, ∀ w60 : World, w60 = w59.drew → vS_6 w60 ∧
  ∃ (x51A_6 : Option Addr), ∃ (x51N_6 : Nat), ∃ (x51C_6 : Nat), (∀ w61, vS_6 w61 → w61.cell? (⟨w.heap.size, 4, none⟩ : Addr) = some (.slice x51A_6 x51N_6 x51C_6)) ∧
  Calls Try.prog 61 #[(.int .i64 x5), (.int .u8 112)] w60 (Ret fun v_40 w62 => ∃ (x53_6 : Bool), v_40 = (.bool x53_6) ∧
  vS_6 w62 ∧
  Calls Try.prog 62 #[(.slice x51A_6 x51N_6 x51C_6), (.bool x53_6)] w62 (Ret fun v_41 w63 => ∃ (x54_6 : Bool), v_41 = (.bool x54_6) ∧
  vS_6 w63 ∧
  (x54_6 = true →
  ∃ (x57A_6 : Option Addr), ∃ (x57N_6 : Nat), ∃ (x57C_6 : Nat), (∀ w64, vS_6 w64 → w64.cell? (⟨w.heap.size, 5, none⟩ : Addr) = some (.slice x57A_6 x57N_6 x57C_6)) ∧
  Calls Try.prog 61 #[(.int .i64 x5), (.int .u8 100)] w63 (Ret fun v_42 w65 => ∃ (x59_6 : Bool), v_42 = (.bool x59_6) ∧
  vS_6 w65 ∧
  Calls Try.prog 62 #[(.slice x57A_6 x57N_6 x57C_6), (.bool x59_6)] w65 (Ret fun v_43 w66 => ∃ (x60_6 : Bool), v_43 = (.bool x60_6) ∧
  vS_6 w66 ∧
  (x60_6 = true →
  ∃ (x64_6 : ByteArray), w66.cell? (⟨w.heap.size, 6, none⟩ : Addr) = some (.string x64_6) ∧
  vS_6 w66 ∧
  (decide (((x64_6.size : Nat) : Int) ≤ (1024 : Int)) = true →
  ∃ (x70_6 : ByteArray), w66.cell? (⟨w.heap.size, 6, none⟩ : Addr) = some (.string x70_6) ∧
  vS_6 w66 ∧
  ((x70_6.toList == (ByteArray.mk #[]).toList) = true →
  R (.bool true) w66) ∧
  ((x70_6.toList == (ByteArray.mk #[]).toList) = false →
  Calls Try.prog 61 #[(.int .i64 x5), (.int .u8 116)] w66 (Ret fun v_44 w67 => ∃ (x74_6 : Bool), v_44 = (.bool x74_6) ∧
  vS_6 w67 ∧
  R (.bool x74_6) w67))) ∧
  (decide (((x64_6.size : Nat) : Int) ≤ (1024 : Int)) = false →
  R (.bool false) w66)) ∧
  (x60_6 = false →
  R (.bool false) w66)))) ∧
  (x54_6 = false →
  R (.bool false) w63)))))) ∧
  (x43_3 = false →
  ∃ vS_7 : World → Prop, ∀ w68 : World, w68 = w4.drew → vS_7 w68 ∧
  ∃ (x51A_7 : Option Addr), ∃ (x51N_7 : Nat), ∃ (x51C_7 : Nat), (∀ w69, vS_7 w69 → w69.cell? (⟨w.heap.size, 4, none⟩ : Addr) = some (.slice x51A_7 x51N_7 x51C_7)) ∧
  Calls Try.prog 61 #[(.int .i64 x5), (.int .u8 112)] w68 (Ret fun v_45 w70 => ∃ (x53_7 : Bool), v_45 = (.bool x53_7) ∧
  vS_7 w70 ∧
  Calls Try.prog 62 #[(.slice x51A_7 x51N_7 x51C_7), (.bool x53_7)] w70 (Ret fun v_46 w71 => ∃ (x54_7 : Bool), v_46 = (.bool x54_7) ∧
  vS_7 w71 ∧
  (x54_7 = true →
  ∃ (x57A_7 : Option Addr), ∃ (x57N_7 : Nat), ∃ (x57C_7 : Nat), (∀ w72, vS_7 w72 → w72.cell? (⟨w.heap.size, 5, none⟩ : Addr) = some (.slice x57A_7 x57N_7 x57C_7)) ∧
  Calls Try.prog 61 #[(.int .i64 x5), (.int .u8 100)] w71 (Ret fun v_47 w73 => ∃ (x59_7 : Bool), v_47 = (.bool x59_7) ∧
  vS_7 w73 ∧
  Calls Try.prog 62 #[(.slice x57A_7 x57N_7 x57C_7), (.bool x59_7)] w73 (Ret fun v_48 w74 => ∃ (x60_7 : Bool), v_48 = (.bool x60_7) ∧
  vS_7 w74 ∧
  (x60_7 = true →
  ∃ (x64_7 : ByteArray), w74.cell? (⟨w.heap.size, 6, none⟩ : Addr) = some (.string x64_7) ∧
  vS_7 w74 ∧
  (decide (((x64_7.size : Nat) : Int) ≤ (1024 : Int)) = true →
  ∃ (x70_7 : ByteArray), w74.cell? (⟨w.heap.size, 6, none⟩ : Addr) = some (.string x70_7) ∧
  vS_7 w74 ∧
  ((x70_7.toList == (ByteArray.mk #[]).toList) = true →
  R (.bool true) w74) ∧
  ((x70_7.toList == (ByteArray.mk #[]).toList) = false →
  Calls Try.prog 61 #[(.int .i64 x5), (.int .u8 116)] w74 (Ret fun v_49 w75 => ∃ (x74_7 : Bool), v_49 = (.bool x74_7) ∧
  vS_7 w75 ∧
  R (.bool x74_7) w75))) ∧
  (decide (((x64_7.size : Nat) : Int) ≤ (1024 : Int)) = false →
  R (.bool false) w74)) ∧
  (x60_7 = false →
  R (.bool false) w74)))) ∧
  (x54_7 = false →
  R (.bool false) w71))))))))))))
theorem coadjutorref29_Good.vc_eq (c0 : Int) (c1 : Int) (c2 : Int) (c3 : Bool) (c4A : Option Addr) (c4N : Nat) (c4C : Nat) (c5A : Option Addr) (c5N : Nat) (c5C : Nat) (c6 : ByteArray) (w : World) (R : Value → World → Prop) : fnV Try.prog Try.f33 (.at_ 2 3 (.k .nil) (.at_ 2 9 (.k .nil) (.at_ 2 15 (.k .nil) (.at_ 2 19 (.at_ 2 25 (.k .nil) (.at_ 2 29 (.at_ 2 35 (.k .nil) (.at_ 2 38 (.c .nil (.tk 0 (.tk 1 (.tk 2 (.alt 3 (.alt 4 (.tks 5 (.tk 6 (.tk 7 (.tk 8 (.alt 9 (.alt 10 (.tk 11 (.tks 12 (.tk 13 (.alt 14 (.tk 15 (.tk 16 (.tk 17 (.tks 18 (.tk 19 (.alt 20 (.tk 21 (.tks 22 (.tk 23 (.tk 24 (.tk 25 (.tk 26 (.tk 27 (.fin .nil)))))) (.tk 23 (.alt 24 (.tk 25 (.tk 26 (.tk 27 (.fin .nil)))) .nil)))) .nil)) (.tk 19 (.tk 20 (.tk 21 (.tk 22 (.tk 23 (.tk 24 (.tk 25 (.tk 26 (.tk 27 (.fin .nil)))))))))))))) .nil)) (.tk 13 (.tk 14 (.tk 15 (.tk 16 (.tk 17 (.tk 18 (.tk 19 (.tk 20 (.tk 21 (.tk 22 (.tk 23 (.tk 24 (.tk 25 (.tk 26 (.tk 27 (.fin .nil)))))))))))))))))) .nil) .nil)))) (.tk 6 (.tk 7 (.tk 8 (.tk 9 (.tk 10 (.tk 11 (.tk 12 (.tk 13 (.tk 14 (.tk 15 (.tk 16 (.tk 17 (.tk 18 (.tk 19 (.tk 20 (.tk 21 (.tk 22 (.tk 23 (.tk 24 (.tk 25 (.tk 26 (.tk 27 (.fin .nil)))))))))))))))))))))))) .nil) .nil))))) (.k (.tk 0 (.tk 1 (.tk 2 (.alt 3 (.alt 4 (.tks 5 (.tk 6 (.tk 7 (.tk 8 (.alt 9 (.alt 10 (.tk 11 (.tks 12 (.tk 13 (.alt 14 (.tk 15 (.tk 16 (.tk 17 (.tks 18 (.tk 19 (.alt 20 (.tk 21 (.tks 22 (.tk 23 (.tk 24 (.tk 25 (.tk 26 (.tk 27 (.fin .nil)))))) (.tk 23 (.alt 24 (.tk 25 (.tk 26 (.tk 27 (.fin .nil)))) .nil)))) .nil)) (.tk 19 (.tk 20 (.tk 21 (.tk 22 (.tk 23 (.tk 24 (.tk 25 (.tk 26 (.tk 27 (.fin .nil)))))))))))))) .nil)) (.tk 13 (.tk 14 (.tk 15 (.tk 16 (.tk 17 (.tk 18 (.tk 19 (.tk 20 (.tk 21 (.tk 22 (.tk 23 (.tk 24 (.tk 25 (.tk 26 (.tk 27 (.fin .nil)))))))))))))))))) .nil) .nil)))) (.tk 6 (.tk 7 (.tk 8 (.tk 9 (.tk 10 (.tk 11 (.tk 12 (.tk 13 (.tk 14 (.tk 15 (.tk 16 (.tk 17 (.tk 18 (.tk 19 (.tk 20 (.tk 21 (.tk 22 (.tk 23 (.tk 24 (.tk 25 (.tk 26 (.tk 27 (.fin .nil)))))))))))))))))))))))) .nil) .nil))))))) (.at_ 2 38 (.c .nil (.tk 0 (.tk 1 (.tk 2 (.alt 3 (.alt 4 (.tks 5 (.tk 6 (.tk 7 (.tk 8 (.alt 9 (.alt 10 (.tk 11 (.tks 12 (.tk 13 (.alt 14 (.tk 15 (.tk 16 (.tk 17 (.tks 18 (.tk 19 (.alt 20 (.tk 21 (.tks 22 (.tk 23 (.tk 24 (.tk 25 (.tk 26 (.tk 27 (.fin .nil)))))) (.tk 23 (.alt 24 (.tk 25 (.tk 26 (.tk 27 (.fin .nil)))) .nil)))) .nil)) (.tk 19 (.tk 20 (.tk 21 (.tk 22 (.tk 23 (.tk 24 (.tk 25 (.tk 26 (.tk 27 (.fin .nil)))))))))))))) .nil)) (.tk 13 (.tk 14 (.tk 15 (.tk 16 (.tk 17 (.tk 18 (.tk 19 (.tk 20 (.tk 21 (.tk 22 (.tk 23 (.tk 24 (.tk 25 (.tk 26 (.tk 27 (.fin .nil)))))))))))))))))) .nil) .nil)))) (.tk 6 (.tk 7 (.tk 8 (.tk 9 (.tk 10 (.tk 11 (.tk 12 (.tk 13 (.tk 14 (.tk 15 (.tk 16 (.tk 17 (.tk 18 (.tk 19 (.tk 20 (.tk 21 (.tk 22 (.tk 23 (.tk 24 (.tk 25 (.tk 26 (.tk 27 (.fin .nil)))))))))))))))))))))))) .nil) .nil))))) (.k (.tk 0 (.tk 1 (.tk 2 (.alt 3 (.alt 4 (.tks 5 (.tk 6 (.tk 7 (.tk 8 (.alt 9 (.alt 10 (.tk 11 (.tks 12 (.tk 13 (.alt 14 (.tk 15 (.tk 16 (.tk 17 (.tks 18 (.tk 19 (.alt 20 (.tk 21 (.tks 22 (.tk 23 (.tk 24 (.tk 25 (.tk 26 (.tk 27 (.fin .nil)))))) (.tk 23 (.alt 24 (.tk 25 (.tk 26 (.tk 27 (.fin .nil)))) .nil)))) .nil)) (.tk 19 (.tk 20 (.tk 21 (.tk 22 (.tk 23 (.tk 24 (.tk 25 (.tk 26 (.tk 27 (.fin .nil)))))))))))))) .nil)) (.tk 13 (.tk 14 (.tk 15 (.tk 16 (.tk 17 (.tk 18 (.tk 19 (.tk 20 (.tk 21 (.tk 22 (.tk 23 (.tk 24 (.tk 25 (.tk 26 (.tk 27 (.fin .nil)))))))))))))))))) .nil) .nil)))) (.tk 6 (.tk 7 (.tk 8 (.tk 9 (.tk 10 (.tk 11 (.tk 12 (.tk 13 (.tk 14 (.tk 15 (.tk 16 (.tk 17 (.tk 18 (.tk 19 (.tk 20 (.tk 21 (.tk 22 (.tk 23 (.tk 24 (.tk 25 (.tk 26 (.tk 27 (.fin .nil)))))))))))))))))))))))) .nil) .nil)))))))) (.at_ 2 29 (.at_ 2 35 (.k .nil) (.at_ 2 38 (.c .nil (.tk 0 (.tk 1 (.tk 2 (.alt 3 (.alt 4 (.tks 5 (.tk 6 (.tk 7 (.tk 8 (.alt 9 (.alt 10 (.tk 11 (.tks 12 (.tk 13 (.alt 14 (.tk 15 (.tk 16 (.tk 17 (.tks 18 (.tk 19 (.alt 20 (.tk 21 (.tks 22 (.tk 23 (.tk 24 (.tk 25 (.tk 26 (.tk 27 (.fin .nil)))))) (.tk 23 (.alt 24 (.tk 25 (.tk 26 (.tk 27 (.fin .nil)))) .nil)))) .nil)) (.tk 19 (.tk 20 (.tk 21 (.tk 22 (.tk 23 (.tk 24 (.tk 25 (.tk 26 (.tk 27 (.fin .nil)))))))))))))) .nil)) (.tk 13 (.tk 14 (.tk 15 (.tk 16 (.tk 17 (.tk 18 (.tk 19 (.tk 20 (.tk 21 (.tk 22 (.tk 23 (.tk 24 (.tk 25 (.tk 26 (.tk 27 (.fin .nil)))))))))))))))))) .nil) .nil)))) (.tk 6 (.tk 7 (.tk 8 (.tk 9 (.tk 10 (.tk 11 (.tk 12 (.tk 13 (.tk 14 (.tk 15 (.tk 16 (.tk 17 (.tk 18 (.tk 19 (.tk 20 (.tk 21 (.tk 22 (.tk 23 (.tk 24 (.tk 25 (.tk 26 (.tk 27 (.fin .nil)))))))))))))))))))))))) .nil) .nil))))) (.k (.tk 0 (.tk 1 (.tk 2 (.alt 3 (.alt 4 (.tks 5 (.tk 6 (.tk 7 (.tk 8 (.alt 9 (.alt 10 (.tk 11 (.tks 12 (.tk 13 (.alt 14 (.tk 15 (.tk 16 (.tk 17 (.tks 18 (.tk 19 (.alt 20 (.tk 21 (.tks 22 (.tk 23 (.tk 24 (.tk 25 (.tk 26 (.tk 27 (.fin .nil)))))) (.tk 23 (.alt 24 (.tk 25 (.tk 26 (.tk 27 (.fin .nil)))) .nil)))) .nil)) (.tk 19 (.tk 20 (.tk 21 (.tk 22 (.tk 23 (.tk 24 (.tk 25 (.tk 26 (.tk 27 (.fin .nil)))))))))))))) .nil)) (.tk 13 (.tk 14 (.tk 15 (.tk 16 (.tk 17 (.tk 18 (.tk 19 (.tk 20 (.tk 21 (.tk 22 (.tk 23 (.tk 24 (.tk 25 (.tk 26 (.tk 27 (.fin .nil)))))))))))))))))) .nil) .nil)))) (.tk 6 (.tk 7 (.tk 8 (.tk 9 (.tk 10 (.tk 11 (.tk 12 (.tk 13 (.tk 14 (.tk 15 (.tk 16 (.tk 17 (.tk 18 (.tk 19 (.tk 20 (.tk 21 (.tk 22 (.tk 23 (.tk 24 (.tk 25 (.tk 26 (.tk 27 (.fin .nil)))))))))))))))))))))))) .nil) .nil))))))) (.at_ 2 38 (.c .nil (.tk 0 (.tk 1 (.tk 2 (.alt 3 (.alt 4 (.tks 5 (.tk 6 (.tk 7 (.tk 8 (.alt 9 (.alt 10 (.tk 11 (.tks 12 (.tk 13 (.alt 14 (.tk 15 (.tk 16 (.tk 17 (.tks 18 (.tk 19 (.alt 20 (.tk 21 (.tks 22 (.tk 23 (.tk 24 (.tk 25 (.tk 26 (.tk 27 (.fin .nil)))))) (.tk 23 (.alt 24 (.tk 25 (.tk 26 (.tk 27 (.fin .nil)))) .nil)))) .nil)) (.tk 19 (.tk 20 (.tk 21 (.tk 22 (.tk 23 (.tk 24 (.tk 25 (.tk 26 (.tk 27 (.fin .nil)))))))))))))) .nil)) (.tk 13 (.tk 14 (.tk 15 (.tk 16 (.tk 17 (.tk 18 (.tk 19 (.tk 20 (.tk 21 (.tk 22 (.tk 23 (.tk 24 (.tk 25 (.tk 26 (.tk 27 (.fin .nil)))))))))))))))))) .nil) .nil)))) (.tk 6 (.tk 7 (.tk 8 (.tk 9 (.tk 10 (.tk 11 (.tk 12 (.tk 13 (.tk 14 (.tk 15 (.tk 16 (.tk 17 (.tk 18 (.tk 19 (.tk 20 (.tk 21 (.tk 22 (.tk 23 (.tk 24 (.tk 25 (.tk 26 (.tk 27 (.fin .nil)))))))))))))))))))))))) .nil) .nil))))) (.k (.tk 0 (.tk 1 (.tk 2 (.alt 3 (.alt 4 (.tks 5 (.tk 6 (.tk 7 (.tk 8 (.alt 9 (.alt 10 (.tk 11 (.tks 12 (.tk 13 (.alt 14 (.tk 15 (.tk 16 (.tk 17 (.tks 18 (.tk 19 (.alt 20 (.tk 21 (.tks 22 (.tk 23 (.tk 24 (.tk 25 (.tk 26 (.tk 27 (.fin .nil)))))) (.tk 23 (.alt 24 (.tk 25 (.tk 26 (.tk 27 (.fin .nil)))) .nil)))) .nil)) (.tk 19 (.tk 20 (.tk 21 (.tk 22 (.tk 23 (.tk 24 (.tk 25 (.tk 26 (.tk 27 (.fin .nil)))))))))))))) .nil)) (.tk 13 (.tk 14 (.tk 15 (.tk 16 (.tk 17 (.tk 18 (.tk 19 (.tk 20 (.tk 21 (.tk 22 (.tk 23 (.tk 24 (.tk 25 (.tk 26 (.tk 27 (.fin .nil)))))))))))))))))) .nil) .nil)))) (.tk 6 (.tk 7 (.tk 8 (.tk 9 (.tk 10 (.tk 11 (.tk 12 (.tk 13 (.tk 14 (.tk 15 (.tk 16 (.tk 17 (.tk 18 (.tk 19 (.tk 20 (.tk 21 (.tk 22 (.tk 23 (.tk 24 (.tk 25 (.tk 26 (.tk 27 (.fin .nil)))))))))))))))))))))))) .nil) .nil))))))))))) [(.agg #[(.int .i64 c0), (.int .i64 c1), (.int .i64 c2), (.bool c3), (.slice c4A c4N c4C), (.slice c5A c5N c5C), (.string c6)])] w R = coadjutorref29_Good.vc c0 c1 c2 c3 c4A c4N c4C c5A c5N c5C c6 w R := by kernel_rfl
theorem coadjutorref29_Good.calls (c0 : Int) (c1 : Int) (c2 : Int) (c3 : Bool) (c4A : Option Addr) (c4N : Nat) (c4C : Nat) (c5A : Option Addr) (c5N : Nat) (c5C : Nat) (c6 : ByteArray) {w : World} {R : Value → World → Prop} (h : coadjutorref29_Good.vc c0 c1 c2 c3 c4A c4N c4C c5A c5N c5C c6 w R) : Calls Try.prog 33 #[(.agg #[(.int .i64 c0), (.int .i64 c1), (.int .i64 c2), (.bool c3), (.slice c4A c4N c4C), (.slice c5A c5N c5C), (.string c6)])] w (Ret R) :=
  calls_V fit Try.func33 (.at_ 2 3 (.k .nil) (.at_ 2 9 (.k .nil) (.at_ 2 15 (.k .nil) (.at_ 2 19 (.at_ 2 25 (.k .nil) (.at_ 2 29 (.at_ 2 35 (.k .nil) (.at_ 2 38 (.c .nil (.tk 0 (.tk 1 (.tk 2 (.alt 3 (.alt 4 (.tks 5 (.tk 6 (.tk 7 (.tk 8 (.alt 9 (.alt 10 (.tk 11 (.tks 12 (.tk 13 (.alt 14 (.tk 15 (.tk 16 (.tk 17 (.tks 18 (.tk 19 (.alt 20 (.tk 21 (.tks 22 (.tk 23 (.tk 24 (.tk 25 (.tk 26 (.tk 27 (.fin .nil)))))) (.tk 23 (.alt 24 (.tk 25 (.tk 26 (.tk 27 (.fin .nil)))) .nil)))) .nil)) (.tk 19 (.tk 20 (.tk 21 (.tk 22 (.tk 23 (.tk 24 (.tk 25 (.tk 26 (.tk 27 (.fin .nil)))))))))))))) .nil)) (.tk 13 (.tk 14 (.tk 15 (.tk 16 (.tk 17 (.tk 18 (.tk 19 (.tk 20 (.tk 21 (.tk 22 (.tk 23 (.tk 24 (.tk 25 (.tk 26 (.tk 27 (.fin .nil)))))))))))))))))) .nil) .nil)))) (.tk 6 (.tk 7 (.tk 8 (.tk 9 (.tk 10 (.tk 11 (.tk 12 (.tk 13 (.tk 14 (.tk 15 (.tk 16 (.tk 17 (.tk 18 (.tk 19 (.tk 20 (.tk 21 (.tk 22 (.tk 23 (.tk 24 (.tk 25 (.tk 26 (.tk 27 (.fin .nil)))))))))))))))))))))))) .nil) .nil))))) (.k (.tk 0 (.tk 1 (.tk 2 (.alt 3 (.alt 4 (.tks 5 (.tk 6 (.tk 7 (.tk 8 (.alt 9 (.alt 10 (.tk 11 (.tks 12 (.tk 13 (.alt 14 (.tk 15 (.tk 16 (.tk 17 (.tks 18 (.tk 19 (.alt 20 (.tk 21 (.tks 22 (.tk 23 (.tk 24 (.tk 25 (.tk 26 (.tk 27 (.fin .nil)))))) (.tk 23 (.alt 24 (.tk 25 (.tk 26 (.tk 27 (.fin .nil)))) .nil)))) .nil)) (.tk 19 (.tk 20 (.tk 21 (.tk 22 (.tk 23 (.tk 24 (.tk 25 (.tk 26 (.tk 27 (.fin .nil)))))))))))))) .nil)) (.tk 13 (.tk 14 (.tk 15 (.tk 16 (.tk 17 (.tk 18 (.tk 19 (.tk 20 (.tk 21 (.tk 22 (.tk 23 (.tk 24 (.tk 25 (.tk 26 (.tk 27 (.fin .nil)))))))))))))))))) .nil) .nil)))) (.tk 6 (.tk 7 (.tk 8 (.tk 9 (.tk 10 (.tk 11 (.tk 12 (.tk 13 (.tk 14 (.tk 15 (.tk 16 (.tk 17 (.tk 18 (.tk 19 (.tk 20 (.tk 21 (.tk 22 (.tk 23 (.tk 24 (.tk 25 (.tk 26 (.tk 27 (.fin .nil)))))))))))))))))))))))) .nil) .nil))))))) (.at_ 2 38 (.c .nil (.tk 0 (.tk 1 (.tk 2 (.alt 3 (.alt 4 (.tks 5 (.tk 6 (.tk 7 (.tk 8 (.alt 9 (.alt 10 (.tk 11 (.tks 12 (.tk 13 (.alt 14 (.tk 15 (.tk 16 (.tk 17 (.tks 18 (.tk 19 (.alt 20 (.tk 21 (.tks 22 (.tk 23 (.tk 24 (.tk 25 (.tk 26 (.tk 27 (.fin .nil)))))) (.tk 23 (.alt 24 (.tk 25 (.tk 26 (.tk 27 (.fin .nil)))) .nil)))) .nil)) (.tk 19 (.tk 20 (.tk 21 (.tk 22 (.tk 23 (.tk 24 (.tk 25 (.tk 26 (.tk 27 (.fin .nil)))))))))))))) .nil)) (.tk 13 (.tk 14 (.tk 15 (.tk 16 (.tk 17 (.tk 18 (.tk 19 (.tk 20 (.tk 21 (.tk 22 (.tk 23 (.tk 24 (.tk 25 (.tk 26 (.tk 27 (.fin .nil)))))))))))))))))) .nil) .nil)))) (.tk 6 (.tk 7 (.tk 8 (.tk 9 (.tk 10 (.tk 11 (.tk 12 (.tk 13 (.tk 14 (.tk 15 (.tk 16 (.tk 17 (.tk 18 (.tk 19 (.tk 20 (.tk 21 (.tk 22 (.tk 23 (.tk 24 (.tk 25 (.tk 26 (.tk 27 (.fin .nil)))))))))))))))))))))))) .nil) .nil))))) (.k (.tk 0 (.tk 1 (.tk 2 (.alt 3 (.alt 4 (.tks 5 (.tk 6 (.tk 7 (.tk 8 (.alt 9 (.alt 10 (.tk 11 (.tks 12 (.tk 13 (.alt 14 (.tk 15 (.tk 16 (.tk 17 (.tks 18 (.tk 19 (.alt 20 (.tk 21 (.tks 22 (.tk 23 (.tk 24 (.tk 25 (.tk 26 (.tk 27 (.fin .nil)))))) (.tk 23 (.alt 24 (.tk 25 (.tk 26 (.tk 27 (.fin .nil)))) .nil)))) .nil)) (.tk 19 (.tk 20 (.tk 21 (.tk 22 (.tk 23 (.tk 24 (.tk 25 (.tk 26 (.tk 27 (.fin .nil)))))))))))))) .nil)) (.tk 13 (.tk 14 (.tk 15 (.tk 16 (.tk 17 (.tk 18 (.tk 19 (.tk 20 (.tk 21 (.tk 22 (.tk 23 (.tk 24 (.tk 25 (.tk 26 (.tk 27 (.fin .nil)))))))))))))))))) .nil) .nil)))) (.tk 6 (.tk 7 (.tk 8 (.tk 9 (.tk 10 (.tk 11 (.tk 12 (.tk 13 (.tk 14 (.tk 15 (.tk 16 (.tk 17 (.tk 18 (.tk 19 (.tk 20 (.tk 21 (.tk 22 (.tk 23 (.tk 24 (.tk 25 (.tk 26 (.tk 27 (.fin .nil)))))))))))))))))))))))) .nil) .nil)))))))) (.at_ 2 29 (.at_ 2 35 (.k .nil) (.at_ 2 38 (.c .nil (.tk 0 (.tk 1 (.tk 2 (.alt 3 (.alt 4 (.tks 5 (.tk 6 (.tk 7 (.tk 8 (.alt 9 (.alt 10 (.tk 11 (.tks 12 (.tk 13 (.alt 14 (.tk 15 (.tk 16 (.tk 17 (.tks 18 (.tk 19 (.alt 20 (.tk 21 (.tks 22 (.tk 23 (.tk 24 (.tk 25 (.tk 26 (.tk 27 (.fin .nil)))))) (.tk 23 (.alt 24 (.tk 25 (.tk 26 (.tk 27 (.fin .nil)))) .nil)))) .nil)) (.tk 19 (.tk 20 (.tk 21 (.tk 22 (.tk 23 (.tk 24 (.tk 25 (.tk 26 (.tk 27 (.fin .nil)))))))))))))) .nil)) (.tk 13 (.tk 14 (.tk 15 (.tk 16 (.tk 17 (.tk 18 (.tk 19 (.tk 20 (.tk 21 (.tk 22 (.tk 23 (.tk 24 (.tk 25 (.tk 26 (.tk 27 (.fin .nil)))))))))))))))))) .nil) .nil)))) (.tk 6 (.tk 7 (.tk 8 (.tk 9 (.tk 10 (.tk 11 (.tk 12 (.tk 13 (.tk 14 (.tk 15 (.tk 16 (.tk 17 (.tk 18 (.tk 19 (.tk 20 (.tk 21 (.tk 22 (.tk 23 (.tk 24 (.tk 25 (.tk 26 (.tk 27 (.fin .nil)))))))))))))))))))))))) .nil) .nil))))) (.k (.tk 0 (.tk 1 (.tk 2 (.alt 3 (.alt 4 (.tks 5 (.tk 6 (.tk 7 (.tk 8 (.alt 9 (.alt 10 (.tk 11 (.tks 12 (.tk 13 (.alt 14 (.tk 15 (.tk 16 (.tk 17 (.tks 18 (.tk 19 (.alt 20 (.tk 21 (.tks 22 (.tk 23 (.tk 24 (.tk 25 (.tk 26 (.tk 27 (.fin .nil)))))) (.tk 23 (.alt 24 (.tk 25 (.tk 26 (.tk 27 (.fin .nil)))) .nil)))) .nil)) (.tk 19 (.tk 20 (.tk 21 (.tk 22 (.tk 23 (.tk 24 (.tk 25 (.tk 26 (.tk 27 (.fin .nil)))))))))))))) .nil)) (.tk 13 (.tk 14 (.tk 15 (.tk 16 (.tk 17 (.tk 18 (.tk 19 (.tk 20 (.tk 21 (.tk 22 (.tk 23 (.tk 24 (.tk 25 (.tk 26 (.tk 27 (.fin .nil)))))))))))))))))) .nil) .nil)))) (.tk 6 (.tk 7 (.tk 8 (.tk 9 (.tk 10 (.tk 11 (.tk 12 (.tk 13 (.tk 14 (.tk 15 (.tk 16 (.tk 17 (.tk 18 (.tk 19 (.tk 20 (.tk 21 (.tk 22 (.tk 23 (.tk 24 (.tk 25 (.tk 26 (.tk 27 (.fin .nil)))))))))))))))))))))))) .nil) .nil))))))) (.at_ 2 38 (.c .nil (.tk 0 (.tk 1 (.tk 2 (.alt 3 (.alt 4 (.tks 5 (.tk 6 (.tk 7 (.tk 8 (.alt 9 (.alt 10 (.tk 11 (.tks 12 (.tk 13 (.alt 14 (.tk 15 (.tk 16 (.tk 17 (.tks 18 (.tk 19 (.alt 20 (.tk 21 (.tks 22 (.tk 23 (.tk 24 (.tk 25 (.tk 26 (.tk 27 (.fin .nil)))))) (.tk 23 (.alt 24 (.tk 25 (.tk 26 (.tk 27 (.fin .nil)))) .nil)))) .nil)) (.tk 19 (.tk 20 (.tk 21 (.tk 22 (.tk 23 (.tk 24 (.tk 25 (.tk 26 (.tk 27 (.fin .nil)))))))))))))) .nil)) (.tk 13 (.tk 14 (.tk 15 (.tk 16 (.tk 17 (.tk 18 (.tk 19 (.tk 20 (.tk 21 (.tk 22 (.tk 23 (.tk 24 (.tk 25 (.tk 26 (.tk 27 (.fin .nil)))))))))))))))))) .nil) .nil)))) (.tk 6 (.tk 7 (.tk 8 (.tk 9 (.tk 10 (.tk 11 (.tk 12 (.tk 13 (.tk 14 (.tk 15 (.tk 16 (.tk 17 (.tk 18 (.tk 19 (.tk 20 (.tk 21 (.tk 22 (.tk 23 (.tk 24 (.tk 25 (.tk 26 (.tk 27 (.fin .nil)))))))))))))))))))))))) .nil) .nil))))) (.k (.tk 0 (.tk 1 (.tk 2 (.alt 3 (.alt 4 (.tks 5 (.tk 6 (.tk 7 (.tk 8 (.alt 9 (.alt 10 (.tk 11 (.tks 12 (.tk 13 (.alt 14 (.tk 15 (.tk 16 (.tk 17 (.tks 18 (.tk 19 (.alt 20 (.tk 21 (.tks 22 (.tk 23 (.tk 24 (.tk 25 (.tk 26 (.tk 27 (.fin .nil)))))) (.tk 23 (.alt 24 (.tk 25 (.tk 26 (.tk 27 (.fin .nil)))) .nil)))) .nil)) (.tk 19 (.tk 20 (.tk 21 (.tk 22 (.tk 23 (.tk 24 (.tk 25 (.tk 26 (.tk 27 (.fin .nil)))))))))))))) .nil)) (.tk 13 (.tk 14 (.tk 15 (.tk 16 (.tk 17 (.tk 18 (.tk 19 (.tk 20 (.tk 21 (.tk 22 (.tk 23 (.tk 24 (.tk 25 (.tk 26 (.tk 27 (.fin .nil)))))))))))))))))) .nil) .nil)))) (.tk 6 (.tk 7 (.tk 8 (.tk 9 (.tk 10 (.tk 11 (.tk 12 (.tk 13 (.tk 14 (.tk 15 (.tk 16 (.tk 17 (.tk 18 (.tk 19 (.tk 20 (.tk 21 (.tk 22 (.tk 23 (.tk 24 (.tk 25 (.tk 26 (.tk 27 (.fin .nil)))))))))))))))))))))))) .nil) .nil))))))))))) (by rw [show (#[(.agg #[(.int .i64 c0), (.int .i64 c1), (.int .i64 c2), (.bool c3), (.slice c4A c4N c4C), (.slice c5A c5N c5C), (.string c6)])] : Array Value).toList = [(.agg #[(.int .i64 c0), (.int .i64 c1), (.int .i64 c2), (.bool c3), (.slice c4A c4N c4C), (.slice c5A c5N c5C), (.string c6)])] from rfl, coadjutorref29_Good.vc_eq]; exact h)
/-- function 80 -/
def coadjutorref29_num.vc (n : Int) (w : World) (R : Value → World → Prop) : Prop :=
  Calls Try.prog 66 #[(.int .i64 (IntKind.i64.wrap (n + 2147483648)))] w (Ret fun v w1 => ∃ (x8_0 : ByteArray), ∃ (x8_1 : Bool), v = (.tuple #[(.string x8_0), (.bool x8_1)]) ∧
  R (.string x8_0) w1)
theorem coadjutorref29_num.vc_eq (n : Int) (w : World) (R : Value → World → Prop) : fnV Try.prog Try.f80 .nil [(.int .i64 n)] w R = coadjutorref29_num.vc n w R := by kernel_rfl
theorem coadjutorref29_num.calls (n : Int) {w : World} {R : Value → World → Prop} (h : coadjutorref29_num.vc n w R) : Calls Try.prog 80 #[(.int .i64 n)] w (Ret R) :=
  calls_V fit Try.func80 .nil (by rw [show (#[(.int .i64 n)] : Array Value).toList = [(.int .i64 n)] from rfl, coadjutorref29_num.vc_eq]; exact h)
/-- function 81 -/
def coadjutorref29_row.vc (lA : Option Addr) (lN : Nat) (lC : Nat) (w : World) (R : Value → World → Prop) : Prop :=
  Calls Try.prog 66 #[(.int .i64 ((lN : Nat) : Int))] w (Ret fun v w1 => ∃ (x9_0 : ByteArray), ∃ (x9_1 : Bool), v = (.tuple #[(.string x9_0), (.bool x9_1)]) ∧
  ∃ vI : ByteArray → Int → Nat → World → Prop, (∃ vk_2 : Nat, vI x9_0 0 vk_2 w1) ∧
  ∀ (jk : Nat → Value) (s : ByteArray) (i : Int), ∀ (vk : Nat) (w2 : World), vI s i vk w2 →
  (decide (i < ((lN : Nat) : Int)) = true →
  (0 ≤ i ∧ i < ((lN : Nat) : Int)) ∧ someV lA fun p =>
  ∃ (x22 : Int), w2.cell? (p.add (i.toNat * 1)) = some (.int .i64 x22) ∧
  Calls Try.prog 80 #[(.int .i64 x22)] w2 (Ret fun v_1 w3 => ∃ (x23 : ByteArray), v_1 = (.string x23) ∧
  ((s.size + x23.size : Nat) : Int) ≤ 9223372036854775807 ∧
  ∃ vk_1 : Nat, vk_1 < vk ∧ vI (s ++ x23) (IntKind.i64.wrap (i + 1)) vk_1 w3)) ∧
  (decide (i < ((lN : Nat) : Int)) = false →
  R (.string s) w2))
theorem coadjutorref29_row.vc_eq (lA : Option Addr) (lN : Nat) (lC : Nat) (w : World) (R : Value → World → Prop) : fnV Try.prog Try.f81 (.lp [(3, some (.str)), (5, some (.int .i64)), (12, none), (13, none), (14, none), (15, none), (16, none), (17, none), (18, none), (19, none), (20, none), (21, none), (22, none), (23, none), (24, none)] (.c .nil .nil)) [(.slice lA lN lC)] w R = coadjutorref29_row.vc lA lN lC w R := by kernel_rfl
theorem coadjutorref29_row.calls (lA : Option Addr) (lN : Nat) (lC : Nat) {w : World} {R : Value → World → Prop} (h : coadjutorref29_row.vc lA lN lC w R) : Calls Try.prog 81 #[(.slice lA lN lC)] w (Ret R) :=
  calls_V fit Try.func81 (.lp [(3, some (.str)), (5, some (.int .i64)), (12, none), (13, none), (14, none), (15, none), (16, none), (17, none), (18, none), (19, none), (20, none), (21, none), (22, none), (23, none), (24, none)] (.c .nil .nil)) (by rw [show (#[(.slice lA lN lC)] : Array Value).toList = [(.slice lA lN lC)] from rfl, coadjutorref29_row.vc_eq]; exact h)
/-- function 45 -/
def coadjutorref29_Bytes.vc (c0 : Int) (c1 : Int) (c2 : Int) (c3 : Bool) (c4A : Option Addr) (c4N : Nat) (c4C : Nat) (c5A : Option Addr) (c5N : Nat) (c5C : Nat) (c6 : ByteArray) (w : World) (R : Value → World → Prop) : Prop :=
  ∀ w1 : World, w1 = w.alloc (.cells #[(.int .i64 c0), (.int .i64 c1), (.int .i64 c2), (.bool c3), (.slice c4A c4N c4C), (.slice c5A c5N c5C), (.string c6)] 73 (0, 0)) →
  ∃ (x7 : Int), w1.cell? (⟨w.heap.size, 0, none⟩ : Addr) = some (.int .i64 x7) ∧
  ∀ w2 : World, w2 = w1.alloc (.cells #[(.int .u8 (IntKind.u8.wrap x7))] 5 (0, 0)) →
  ∃ (x10 : ByteArray), ∃ w3 : World, (convert 99 9 (.slice (some (⟨w1.heap.size, 0, none⟩ : Addr)) 1 1)).run Try.prog w2 = .ok (.string x10) w3 ∧
  ∃ (x12 : Int), w3.cell? (⟨w.heap.size, 0, none⟩ : Addr) = some (.int .i64 x12) ∧
  Calls Try.prog 47 #[(.int .i64 x12)] w3 (Ret fun v w4 => ∃ (x13 : ByteArray), v = (.string x13) ∧
  ∃ vI : ByteArray → Int → Nat → World → Prop, (∃ vk_2 : Nat, vI x10 0 vk_2 w4) ∧
  ∀ (jk : Nat → Value) (s : ByteArray) (i : Int), ∀ (vk : Nat) (w5 : World), vI s i vk w5 →
  (decide (i < ((x13.size : Nat) : Int)) = true →
  ∃ J : ByteArray → World → Prop, ((0 ≤ i ∧ i < ((x13.size : Nat) : Int)) ∧
  (((bt x13 i) == (105 : Int)) = true →
  ∃ (x32 : Int), w5.cell? (⟨w.heap.size, 1, none⟩ : Addr) = some (.int .i64 x32) ∧
  Calls Try.prog 80 #[(.int .i64 x32)] w5 (Ret fun v_1 w6 => ∃ (x33 : ByteArray), v_1 = (.string x33) ∧
  ((s.size + x33.size : Nat) : Int) ≤ 9223372036854775807 ∧
  J (s ++ x33) w6)) ∧
  (((bt x13 i) == (105 : Int)) = false →
  (((bt x13 i) == (110 : Int)) = true →
  ∃ (x39 : Int), w5.cell? (⟨w.heap.size, 2, none⟩ : Addr) = some (.int .i64 x39) ∧
  Calls Try.prog 80 #[(.int .i64 x39)] w5 (Ret fun v_2 w7 => ∃ (x40 : ByteArray), v_2 = (.string x40) ∧
  ((s.size + x40.size : Nat) : Int) ≤ 9223372036854775807 ∧
  J (s ++ x40) w7)) ∧
  (((bt x13 i) == (110 : Int)) = false →
  (((bt x13 i) == (103 : Int)) = true →
  ∃ (x45 : Bool), w5.cell? (⟨w.heap.size, 3, none⟩ : Addr) = some (.bool x45) ∧
  (x45 = true →
  ((s.size + (ByteArray.mk #[1]).size : Nat) : Int) ≤ 9223372036854775807 ∧
  J (s ++ (ByteArray.mk #[1])) w5) ∧
  (x45 = false →
  ((s.size + (ByteArray.mk #[0]).size : Nat) : Int) ≤ 9223372036854775807 ∧
  J (s ++ (ByteArray.mk #[0])) w5)) ∧
  (((bt x13 i) == (103 : Int)) = false →
  (((bt x13 i) == (112 : Int)) = true →
  ∃ (x54A : Option Addr), ∃ (x54N : Nat), ∃ (x54C : Nat), w5.cell? (⟨w.heap.size, 4, none⟩ : Addr) = some (.slice x54A x54N x54C) ∧
  Calls Try.prog 81 #[(.slice x54A x54N x54C)] w5 (Ret fun v_3 w8 => ∃ (x55 : ByteArray), v_3 = (.string x55) ∧
  ((s.size + x55.size : Nat) : Int) ≤ 9223372036854775807 ∧
  J (s ++ x55) w8)) ∧
  (((bt x13 i) == (112 : Int)) = false →
  (((bt x13 i) == (100 : Int)) = true →
  ∃ (x61A : Option Addr), ∃ (x61N : Nat), ∃ (x61C : Nat), w5.cell? (⟨w.heap.size, 5, none⟩ : Addr) = some (.slice x61A x61N x61C) ∧
  Calls Try.prog 81 #[(.slice x61A x61N x61C)] w5 (Ret fun v_4 w9 => ∃ (x62 : ByteArray), v_4 = (.string x62) ∧
  ((s.size + x62.size : Nat) : Int) ≤ 9223372036854775807 ∧
  J (s ++ x62) w9)) ∧
  (((bt x13 i) == (100 : Int)) = false →
  ∃ (x25 : ByteArray), w5.cell? (⟨w.heap.size, 6, none⟩ : Addr) = some (.string x25) ∧
  Calls Try.prog 67 #[(.string x25)] w5 (Ret fun v_5 w10 => ∃ (x26 : ByteArray), v_5 = (.string x26) ∧
  ((s.size + x26.size : Nat) : Int) ≤ 9223372036854775807 ∧
  J (s ++ x26) w10))))))) ∧
  ∀ (jk : Nat → Value) (s_1 : ByteArray), ∀ w11 : World, J s_1 w11 →
  ∃ vk_1 : Nat, vk_1 < vk ∧ vI s_1 (IntKind.i64.wrap (i + 1)) vk_1 w11) ∧
  (decide (i < ((x13.size : Nat) : Int)) = false →
  R (.string s) w5))
theorem coadjutorref29_Bytes.vc_eq (c0 : Int) (c1 : Int) (c2 : Int) (c3 : Bool) (c4A : Option Addr) (c4N : Nat) (c4C : Nat) (c5A : Option Addr) (c5N : Nat) (c5C : Nat) (c6 : ByteArray) (w : World) (R : Value → World → Prop) : fnV Try.prog Try.f45 (.lp [(3, some (.str)), (5, some (.int .i64)), (14, none), (15, none), (16, none), (17, none), (18, none), (19, none), (20, none), (21, none), (22, none), (23, none), (24, none), (25, none), (26, none), (27, none), (28, none), (29, none), (30, none), (31, none), (32, none), (33, none), (34, none), (35, none), (36, none), (37, none), (38, none), (39, none), (40, none), (41, none), (42, none), (43, none), (44, none), (45, none), (46, none), (47, none), (48, none), (49, none), (50, none), (51, none), (52, none), (53, none), (54, none), (55, none), (56, none), (57, none), (58, none), (59, none), (60, none), (61, none), (62, none), (63, none)] (.c (.cut 0 [(3, some (.str)), (20, none), (21, none), (22, none), (23, none), (24, none), (25, none), (26, none), (27, none), (28, none), (29, none), (30, none), (31, none), (32, none), (33, none), (34, none), (35, none), (36, none), (37, none), (38, none), (39, none), (40, none), (41, none), (42, none), (43, none), (44, none), (45, none), (46, none), (47, none), (48, none), (49, none), (50, none), (51, none), (52, none), (53, none), (54, none), (55, none), (56, none), (57, none), (58, none), (59, none), (60, none), (61, none), (62, none), (63, none)] (.c .nil (.c .nil (.c (.c .nil .nil) (.c .nil (.c .nil .nil))))) .nil) .nil)) [(.agg #[(.int .i64 c0), (.int .i64 c1), (.int .i64 c2), (.bool c3), (.slice c4A c4N c4C), (.slice c5A c5N c5C), (.string c6)])] w R = coadjutorref29_Bytes.vc c0 c1 c2 c3 c4A c4N c4C c5A c5N c5C c6 w R := by kernel_rfl
theorem coadjutorref29_Bytes.calls (c0 : Int) (c1 : Int) (c2 : Int) (c3 : Bool) (c4A : Option Addr) (c4N : Nat) (c4C : Nat) (c5A : Option Addr) (c5N : Nat) (c5C : Nat) (c6 : ByteArray) {w : World} {R : Value → World → Prop} (h : coadjutorref29_Bytes.vc c0 c1 c2 c3 c4A c4N c4C c5A c5N c5C c6 w R) : Calls Try.prog 45 #[(.agg #[(.int .i64 c0), (.int .i64 c1), (.int .i64 c2), (.bool c3), (.slice c4A c4N c4C), (.slice c5A c5N c5C), (.string c6)])] w (Ret R) :=
  calls_V fit Try.func45 (.lp [(3, some (.str)), (5, some (.int .i64)), (14, none), (15, none), (16, none), (17, none), (18, none), (19, none), (20, none), (21, none), (22, none), (23, none), (24, none), (25, none), (26, none), (27, none), (28, none), (29, none), (30, none), (31, none), (32, none), (33, none), (34, none), (35, none), (36, none), (37, none), (38, none), (39, none), (40, none), (41, none), (42, none), (43, none), (44, none), (45, none), (46, none), (47, none), (48, none), (49, none), (50, none), (51, none), (52, none), (53, none), (54, none), (55, none), (56, none), (57, none), (58, none), (59, none), (60, none), (61, none), (62, none), (63, none)] (.c (.cut 0 [(3, some (.str)), (20, none), (21, none), (22, none), (23, none), (24, none), (25, none), (26, none), (27, none), (28, none), (29, none), (30, none), (31, none), (32, none), (33, none), (34, none), (35, none), (36, none), (37, none), (38, none), (39, none), (40, none), (41, none), (42, none), (43, none), (44, none), (45, none), (46, none), (47, none), (48, none), (49, none), (50, none), (51, none), (52, none), (53, none), (54, none), (55, none), (56, none), (57, none), (58, none), (59, none), (60, none), (61, none), (62, none), (63, none)] (.c .nil (.c .nil (.c (.c .nil .nil) (.c .nil (.c .nil .nil))))) .nil) .nil)) (by rw [show (#[(.agg #[(.int .i64 c0), (.int .i64 c1), (.int .i64 c2), (.bool c3), (.slice c4A c4N c4C), (.slice c5A c5N c5C), (.string c6)])] : Array Value).toList = [(.agg #[(.int .i64 c0), (.int .i64 c1), (.int .i64 c2), (.bool c3), (.slice c4A c4N c4C), (.slice c5A c5N c5C), (.string c6)])] from rfl, coadjutorref29_Bytes.vc_eq]; exact h)
/-- function 84 -/
def coadjutorref29_rows.vc (eB : Nat) (w : World) (R : Value → World → Prop) : Prop :=
  Calls Try.prog 72 #[(.pointer (some (⟨eB, 0, none⟩ : Addr))), (.int .i64 32)] w (Ret fun v w1 => ∃ (x7 : Int), v = (.int .i64 x7) ∧
  ∀ w2 : World, w2 = w1.alloc (.cells #[] 3 (0, 0)) →
  ∃ vI : Option Addr → Nat → Nat → Int → Nat → World → Prop, (∃ vk_2 : Nat, vI (some (⟨w1.heap.size, 0, none⟩ : Addr)) 0 0 0 vk_2 w2) ∧
  ∀ (jk : Nat → Value) (outA : Option Addr) (outN : Nat) (outC : Nat) (i : Int), ∀ (vk : Nat) (w3 : World), vI outA outN outC i vk w3 →
  (decide (i < x7) = true →
  ∃ (x16 : Bool), w3.cell? (⟨eB, 1, none⟩ : Addr) = some (.bool x16) ∧
  ((!x16) = true →
  Calls Try.prog 72 #[(.pointer (some (⟨eB, 0, none⟩ : Addr))), (.int .i64 4294967295)] w3 (Ret fun v_1 w4 => ∃ (x23 : Int), v_1 = (.int .i64 x23) ∧
  ∀ w5 : World, w5 = w4.alloc (.cells #[(.int .i64 (IntKind.i64.wrap (x23 - 2147483648)))] 3 (0, 0)) →
  ∃ (x26A : Option Addr), ∃ (x26N : Nat), ∃ (x26C : Nat), ∃ w6 : World, (Builtin.append_ #[29, 29] 29 #[(.slice outA outN outC), (.slice (some (⟨w4.heap.size, 0, none⟩ : Addr)) 1 1)]).run Try.prog w5 = .ok (.slice x26A x26N x26C) w6 ∧
  ∃ vk_1 : Nat, vk_1 < vk ∧ vI x26A x26N x26C (IntKind.i64.wrap (i + 1)) vk_1 w6)) ∧
  ((!x16) = false →
  R (.slice outA outN outC) w3)) ∧
  (decide (i < x7) = false →
  R (.slice outA outN outC) w3))
theorem coadjutorref29_rows.vc_eq (eB : Nat) (w : World) (R : Value → World → Prop) : fnV Try.prog Try.f84 (.lp [(4, some (.slice)), (5, some (.int .i64)), (9, none), (10, none), (11, none), (12, none), (13, none), (14, none), (15, none), (16, none), (17, none), (18, none), (19, none), (20, none), (21, none), (22, none), (23, none), (24, none), (25, none), (26, none)] (.at_ 4 3 (.c .nil .nil) (.k .nil))) [(.pointer (some (⟨eB, 0, none⟩ : Addr)))] w R = coadjutorref29_rows.vc eB w R := by kernel_rfl
theorem coadjutorref29_rows.calls (eB : Nat) {w : World} {R : Value → World → Prop} (h : coadjutorref29_rows.vc eB w R) : Calls Try.prog 84 #[(.pointer (some (⟨eB, 0, none⟩ : Addr)))] w (Ret R) :=
  calls_V fit Try.func84 (.lp [(4, some (.slice)), (5, some (.int .i64)), (9, none), (10, none), (11, none), (12, none), (13, none), (14, none), (15, none), (16, none), (17, none), (18, none), (19, none), (20, none), (21, none), (22, none), (23, none), (24, none), (25, none), (26, none)] (.at_ 4 3 (.c .nil .nil) (.k .nil))) (by rw [show (#[(.pointer (some (⟨eB, 0, none⟩ : Addr)))] : Array Value).toList = [(.pointer (some (⟨eB, 0, none⟩ : Addr)))] from rfl, coadjutorref29_rows.vc_eq]; exact h)
/-- function 49 -/
def coadjutorref29_Parse.vc (s : ByteArray) (w : World) (R : Value → World → Prop) : Prop :=
  ∀ w1 : World, w1 = w.alloc (.cells #[(.int .i64 0), (.int .i64 0), (.int .i64 0), (.bool false), (.slice none 0 0), (.slice none 0 0), (.string ByteArray.empty)] 73 (0, 0)) →
  ∀ w2 : World, w2 = w1.alloc (.cells #[(.string s), (.bool false)] 127 (0, 0)) →
  Calls Try.prog 83 #[(.pointer (some (⟨w1.heap.size, 0, none⟩ : Addr))), (.int .i64 1)] w2 (Ret fun v w3 => ∃ (x14 : ByteArray), v = (.string x14) ∧
  ∃ (x18 : Bool), w3.cell? (⟨w1.heap.size, 1, none⟩ : Addr) = some (.bool x18) ∧
  (x18 = true →
  (((∃ u, w3.cell? (⟨w.heap.size, 0, none⟩ : Addr) = some u) ∧ w3.frozen? (⟨w.heap.size, 0, none⟩ : Addr) = false) ∧ ((∃ u, w3.cell? (⟨w.heap.size, 1, none⟩ : Addr) = some u) ∧ w3.frozen? (⟨w.heap.size, 1, none⟩ : Addr) = false) ∧ ((∃ u, w3.cell? (⟨w.heap.size, 2, none⟩ : Addr) = some u) ∧ w3.frozen? (⟨w.heap.size, 2, none⟩ : Addr) = false) ∧ ((∃ u, w3.cell? (⟨w.heap.size, 3, none⟩ : Addr) = some u) ∧ w3.frozen? (⟨w.heap.size, 3, none⟩ : Addr) = false) ∧ ((∃ u, w3.cell? (⟨w.heap.size, 4, none⟩ : Addr) = some u) ∧ w3.frozen? (⟨w.heap.size, 4, none⟩ : Addr) = false) ∧ ((∃ u, w3.cell? (⟨w.heap.size, 5, none⟩ : Addr) = some u) ∧ w3.frozen? (⟨w.heap.size, 5, none⟩ : Addr) = false) ∧ ((∃ u, w3.cell? (⟨w.heap.size, 6, none⟩ : Addr) = some u) ∧ w3.frozen? (⟨w.heap.size, 6, none⟩ : Addr) = false)) ∧ ∀ w4 : World, w4 = (((((((w3.setCell (⟨w.heap.size, 0, none⟩ : Addr) (.int .i64 0)).setCell (⟨w.heap.size, 1, none⟩ : Addr) (.int .i64 0)).setCell (⟨w.heap.size, 2, none⟩ : Addr) (.int .i64 0)).setCell (⟨w.heap.size, 3, none⟩ : Addr) (.bool false)).setCell (⟨w.heap.size, 4, none⟩ : Addr) (.slice none 0 0)).setCell (⟨w.heap.size, 5, none⟩ : Addr) (.slice none 0 0)).setCell (⟨w.heap.size, 6, none⟩ : Addr) (.string ByteArray.empty)) →
  ∃ (r00 : Int), ∃ (r01 : Int), ∃ (r02 : Int), ∃ (r03 : Bool), ∃ (r04A : Option Addr), ∃ (r04N : Nat), ∃ (r04C : Nat), ∃ (r05A : Option Addr), ∃ (r05N : Nat), ∃ (r05C : Nat), ∃ (r06 : ByteArray), (w4.cell? (⟨w.heap.size, 0, none⟩ : Addr) = some (.int .i64 r00) ∧ w4.cell? (⟨w.heap.size, 1, none⟩ : Addr) = some (.int .i64 r01) ∧ w4.cell? (⟨w.heap.size, 2, none⟩ : Addr) = some (.int .i64 r02) ∧ w4.cell? (⟨w.heap.size, 3, none⟩ : Addr) = some (.bool r03) ∧ w4.cell? (⟨w.heap.size, 4, none⟩ : Addr) = some (.slice r04A r04N r04C) ∧ w4.cell? (⟨w.heap.size, 5, none⟩ : Addr) = some (.slice r05A r05N r05C) ∧ w4.cell? (⟨w.heap.size, 6, none⟩ : Addr) = some (.string r06)) ∧
  R (.tuple #[(.agg #[(.int .i64 r00), (.int .i64 r01), (.int .i64 r02), (.bool r03), (.slice r04A r04N r04C), (.slice r05A r05N r05C), (.string r06)]), (.bool false)]) w4) ∧
  (x18 = false →
  (0 ≤ (0 : Int) ∧ (0 : Int) < ((x14.size : Nat) : Int)) ∧
  ∀ w5 : World, w5 = w3.alloc (.cells #[(.int .i64 0), (.int .i64 0), (.int .i64 0), (.bool false), (.slice none 0 0), (.slice none 0 0), (.string ByteArray.empty)] 73 (0, 0)) →
  (((∃ u, w5.cell? (⟨w3.heap.size, 0, none⟩ : Addr) = some u) ∧ w5.frozen? (⟨w3.heap.size, 0, none⟩ : Addr) = false) ∧ ((∃ u, w5.cell? (⟨w3.heap.size, 1, none⟩ : Addr) = some u) ∧ w5.frozen? (⟨w3.heap.size, 1, none⟩ : Addr) = false) ∧ ((∃ u, w5.cell? (⟨w3.heap.size, 2, none⟩ : Addr) = some u) ∧ w5.frozen? (⟨w3.heap.size, 2, none⟩ : Addr) = false) ∧ ((∃ u, w5.cell? (⟨w3.heap.size, 3, none⟩ : Addr) = some u) ∧ w5.frozen? (⟨w3.heap.size, 3, none⟩ : Addr) = false) ∧ ((∃ u, w5.cell? (⟨w3.heap.size, 4, none⟩ : Addr) = some u) ∧ w5.frozen? (⟨w3.heap.size, 4, none⟩ : Addr) = false) ∧ ((∃ u, w5.cell? (⟨w3.heap.size, 5, none⟩ : Addr) = some u) ∧ w5.frozen? (⟨w3.heap.size, 5, none⟩ : Addr) = false) ∧ ((∃ u, w5.cell? (⟨w3.heap.size, 6, none⟩ : Addr) = some u) ∧ w5.frozen? (⟨w3.heap.size, 6, none⟩ : Addr) = false)) ∧ ∀ w6 : World, w6 = (((((((w5.setCell (⟨w3.heap.size, 0, none⟩ : Addr) (.int .i64 (IntKind.i64.wrap (bt x14 0)))).setCell (⟨w3.heap.size, 1, none⟩ : Addr) (.int .i64 0)).setCell (⟨w3.heap.size, 2, none⟩ : Addr) (.int .i64 0)).setCell (⟨w3.heap.size, 3, none⟩ : Addr) (.bool false)).setCell (⟨w3.heap.size, 4, none⟩ : Addr) (.slice none 0 0)).setCell (⟨w3.heap.size, 5, none⟩ : Addr) (.slice none 0 0)).setCell (⟨w3.heap.size, 6, none⟩ : Addr) (.string ByteArray.empty)) →
  ∃ (x25 : Int), w6.cell? (⟨w3.heap.size, 0, none⟩ : Addr) = some (.int .i64 x25) ∧
  Calls Try.prog 47 #[(.int .i64 x25)] w6 (Ret fun v_1 w7 => ∃ (x26 : ByteArray), v_1 = (.string x26) ∧
  ∃ vI : Int → Nat → World → Prop, (∃ vk_2 : Nat, vI 0 vk_2 w7) ∧
  ∀ (jk : Nat → Value) (i : Int), ∀ (vk : Nat) (w8 : World), vI i vk w8 →
  (decide (i < ((x26.size : Nat) : Int)) = true →
  ∃ J : World → Prop, ((0 ≤ i ∧ i < ((x26.size : Nat) : Int)) ∧
  (((bt x26 i) == (105 : Int)) = true →
  Calls Try.prog 72 #[(.pointer (some (⟨w1.heap.size, 0, none⟩ : Addr))), (.int .i64 4294967295)] w8 (Ret fun v_2 w9 => ∃ (x42 : Int), v_2 = (.int .i64 x42) ∧
  (((∃ u, w9.cell? (⟨w3.heap.size, 1, none⟩ : Addr) = some u) ∧ w9.frozen? (⟨w3.heap.size, 1, none⟩ : Addr) = false)) ∧ ∀ w10 : World, w10 = (w9.setCell (⟨w3.heap.size, 1, none⟩ : Addr) (.int .i64 (IntKind.i64.wrap (x42 - 2147483648)))) →
  J w10)) ∧
  (((bt x26 i) == (105 : Int)) = false →
  (((bt x26 i) == (110 : Int)) = true →
  Calls Try.prog 72 #[(.pointer (some (⟨w1.heap.size, 0, none⟩ : Addr))), (.int .i64 4294967295)] w8 (Ret fun v_3 w11 => ∃ (x48 : Int), v_3 = (.int .i64 x48) ∧
  (((∃ u, w11.cell? (⟨w3.heap.size, 2, none⟩ : Addr) = some u) ∧ w11.frozen? (⟨w3.heap.size, 2, none⟩ : Addr) = false)) ∧ ∀ w12 : World, w12 = (w11.setCell (⟨w3.heap.size, 2, none⟩ : Addr) (.int .i64 (IntKind.i64.wrap (x48 - 2147483648)))) →
  J w12)) ∧
  (((bt x26 i) == (110 : Int)) = false →
  (((bt x26 i) == (103 : Int)) = true →
  Calls Try.prog 83 #[(.pointer (some (⟨w1.heap.size, 0, none⟩ : Addr))), (.int .i64 1)] w8 (Ret fun v_4 w13 => ∃ (x54 : ByteArray), v_4 = (.string x54) ∧
  ((!(x54.toList == (ByteArray.mk #[0]).toList)) = true →
  ((!(x54.toList == (ByteArray.mk #[1]).toList)) = true →
  (((∃ u, w13.cell? (⟨w.heap.size, 0, none⟩ : Addr) = some u) ∧ w13.frozen? (⟨w.heap.size, 0, none⟩ : Addr) = false) ∧ ((∃ u, w13.cell? (⟨w.heap.size, 1, none⟩ : Addr) = some u) ∧ w13.frozen? (⟨w.heap.size, 1, none⟩ : Addr) = false) ∧ ((∃ u, w13.cell? (⟨w.heap.size, 2, none⟩ : Addr) = some u) ∧ w13.frozen? (⟨w.heap.size, 2, none⟩ : Addr) = false) ∧ ((∃ u, w13.cell? (⟨w.heap.size, 3, none⟩ : Addr) = some u) ∧ w13.frozen? (⟨w.heap.size, 3, none⟩ : Addr) = false) ∧ ((∃ u, w13.cell? (⟨w.heap.size, 4, none⟩ : Addr) = some u) ∧ w13.frozen? (⟨w.heap.size, 4, none⟩ : Addr) = false) ∧ ((∃ u, w13.cell? (⟨w.heap.size, 5, none⟩ : Addr) = some u) ∧ w13.frozen? (⟨w.heap.size, 5, none⟩ : Addr) = false) ∧ ((∃ u, w13.cell? (⟨w.heap.size, 6, none⟩ : Addr) = some u) ∧ w13.frozen? (⟨w.heap.size, 6, none⟩ : Addr) = false)) ∧ ∀ w14 : World, w14 = (((((((w13.setCell (⟨w.heap.size, 0, none⟩ : Addr) (.int .i64 0)).setCell (⟨w.heap.size, 1, none⟩ : Addr) (.int .i64 0)).setCell (⟨w.heap.size, 2, none⟩ : Addr) (.int .i64 0)).setCell (⟨w.heap.size, 3, none⟩ : Addr) (.bool false)).setCell (⟨w.heap.size, 4, none⟩ : Addr) (.slice none 0 0)).setCell (⟨w.heap.size, 5, none⟩ : Addr) (.slice none 0 0)).setCell (⟨w.heap.size, 6, none⟩ : Addr) (.string ByteArray.empty)) →
  ∃ (r00_1 : Int), ∃ (r01_1 : Int), ∃ (r02_1 : Int), ∃ (r03_1 : Bool), ∃ (r04A_1 : Option Addr), ∃ (r04N_1 : Nat), ∃ (r04C_1 : Nat), ∃ (r05A_1 : Option Addr), ∃ (r05N_1 : Nat), ∃ (r05C_1 : Nat), ∃ (r06_1 : ByteArray), (w14.cell? (⟨w.heap.size, 0, none⟩ : Addr) = some (.int .i64 r00_1) ∧ w14.cell? (⟨w.heap.size, 1, none⟩ : Addr) = some (.int .i64 r01_1) ∧ w14.cell? (⟨w.heap.size, 2, none⟩ : Addr) = some (.int .i64 r02_1) ∧ w14.cell? (⟨w.heap.size, 3, none⟩ : Addr) = some (.bool r03_1) ∧ w14.cell? (⟨w.heap.size, 4, none⟩ : Addr) = some (.slice r04A_1 r04N_1 r04C_1) ∧ w14.cell? (⟨w.heap.size, 5, none⟩ : Addr) = some (.slice r05A_1 r05N_1 r05C_1) ∧ w14.cell? (⟨w.heap.size, 6, none⟩ : Addr) = some (.string r06_1)) ∧
  R (.tuple #[(.agg #[(.int .i64 r00_1), (.int .i64 r01_1), (.int .i64 r02_1), (.bool r03_1), (.slice r04A_1 r04N_1 r04C_1), (.slice r05A_1 r05N_1 r05C_1), (.string r06_1)]), (.bool false)]) w14) ∧
  ((!(x54.toList == (ByteArray.mk #[1]).toList)) = false →
  (((∃ u, w13.cell? (⟨w3.heap.size, 3, none⟩ : Addr) = some u) ∧ w13.frozen? (⟨w3.heap.size, 3, none⟩ : Addr) = false)) ∧ ∀ w15 : World, w15 = (w13.setCell (⟨w3.heap.size, 3, none⟩ : Addr) (.bool (x54.toList == (ByteArray.mk #[1]).toList))) →
  J w15)) ∧
  ((!(x54.toList == (ByteArray.mk #[0]).toList)) = false →
  (((∃ u, w13.cell? (⟨w3.heap.size, 3, none⟩ : Addr) = some u) ∧ w13.frozen? (⟨w3.heap.size, 3, none⟩ : Addr) = false)) ∧ ∀ w16 : World, w16 = (w13.setCell (⟨w3.heap.size, 3, none⟩ : Addr) (.bool (x54.toList == (ByteArray.mk #[1]).toList))) →
  J w16))) ∧
  (((bt x26 i) == (103 : Int)) = false →
  (((bt x26 i) == (112 : Int)) = true →
  Calls Try.prog 84 #[(.pointer (some (⟨w1.heap.size, 0, none⟩ : Addr)))] w8 (Ret fun v_5 w17 => ∃ (x68A : Option Addr), ∃ (x68N : Nat), ∃ (x68C : Nat), v_5 = (.slice x68A x68N x68C) ∧
  (((∃ u, w17.cell? (⟨w3.heap.size, 4, none⟩ : Addr) = some u) ∧ w17.frozen? (⟨w3.heap.size, 4, none⟩ : Addr) = false)) ∧ ∀ w18 : World, w18 = (w17.setCell (⟨w3.heap.size, 4, none⟩ : Addr) (.slice x68A x68N x68C)) →
  J w18)) ∧
  (((bt x26 i) == (112 : Int)) = false →
  (((bt x26 i) == (100 : Int)) = true →
  Calls Try.prog 84 #[(.pointer (some (⟨w1.heap.size, 0, none⟩ : Addr)))] w8 (Ret fun v_6 w19 => ∃ (x73A : Option Addr), ∃ (x73N : Nat), ∃ (x73C : Nat), v_6 = (.slice x73A x73N x73C) ∧
  (((∃ u, w19.cell? (⟨w3.heap.size, 5, none⟩ : Addr) = some u) ∧ w19.frozen? (⟨w3.heap.size, 5, none⟩ : Addr) = false)) ∧ ∀ w20 : World, w20 = (w19.setCell (⟨w3.heap.size, 5, none⟩ : Addr) (.slice x73A x73N x73C)) →
  J w20)) ∧
  (((bt x26 i) == (100 : Int)) = false →
  Calls Try.prog 73 #[(.pointer (some (⟨w1.heap.size, 0, none⟩ : Addr))), (.int .i64 1024)] w8 (Ret fun v_7 w21 => ∃ (x37 : ByteArray), v_7 = (.string x37) ∧
  (((∃ u, w21.cell? (⟨w3.heap.size, 6, none⟩ : Addr) = some u) ∧ w21.frozen? (⟨w3.heap.size, 6, none⟩ : Addr) = false)) ∧ ∀ w22 : World, w22 = (w21.setCell (⟨w3.heap.size, 6, none⟩ : Addr) (.string x37)) →
  J w22))))))) ∧
  ∀ (jk : Nat → Value), ∀ w23 : World, J w23 →
  ∃ vk_1 : Nat, vk_1 < vk ∧ vI (IntKind.i64.wrap (i + 1)) vk_1 w23) ∧
  (decide (i < ((x26.size : Nat) : Int)) = false →
  ∃ (x78 : Bool), w8.cell? (⟨w1.heap.size, 1, none⟩ : Addr) = some (.bool x78) ∧
  (x78 = true →
  (((∃ u, w8.cell? (⟨w.heap.size, 0, none⟩ : Addr) = some u) ∧ w8.frozen? (⟨w.heap.size, 0, none⟩ : Addr) = false) ∧ ((∃ u, w8.cell? (⟨w.heap.size, 1, none⟩ : Addr) = some u) ∧ w8.frozen? (⟨w.heap.size, 1, none⟩ : Addr) = false) ∧ ((∃ u, w8.cell? (⟨w.heap.size, 2, none⟩ : Addr) = some u) ∧ w8.frozen? (⟨w.heap.size, 2, none⟩ : Addr) = false) ∧ ((∃ u, w8.cell? (⟨w.heap.size, 3, none⟩ : Addr) = some u) ∧ w8.frozen? (⟨w.heap.size, 3, none⟩ : Addr) = false) ∧ ((∃ u, w8.cell? (⟨w.heap.size, 4, none⟩ : Addr) = some u) ∧ w8.frozen? (⟨w.heap.size, 4, none⟩ : Addr) = false) ∧ ((∃ u, w8.cell? (⟨w.heap.size, 5, none⟩ : Addr) = some u) ∧ w8.frozen? (⟨w.heap.size, 5, none⟩ : Addr) = false) ∧ ((∃ u, w8.cell? (⟨w.heap.size, 6, none⟩ : Addr) = some u) ∧ w8.frozen? (⟨w.heap.size, 6, none⟩ : Addr) = false)) ∧ ∀ w24 : World, w24 = (((((((w8.setCell (⟨w.heap.size, 0, none⟩ : Addr) (.int .i64 0)).setCell (⟨w.heap.size, 1, none⟩ : Addr) (.int .i64 0)).setCell (⟨w.heap.size, 2, none⟩ : Addr) (.int .i64 0)).setCell (⟨w.heap.size, 3, none⟩ : Addr) (.bool false)).setCell (⟨w.heap.size, 4, none⟩ : Addr) (.slice none 0 0)).setCell (⟨w.heap.size, 5, none⟩ : Addr) (.slice none 0 0)).setCell (⟨w.heap.size, 6, none⟩ : Addr) (.string ByteArray.empty)) →
  ∃ (r00_2 : Int), ∃ (r01_2 : Int), ∃ (r02_2 : Int), ∃ (r03_2 : Bool), ∃ (r04A_2 : Option Addr), ∃ (r04N_2 : Nat), ∃ (r04C_2 : Nat), ∃ (r05A_2 : Option Addr), ∃ (r05N_2 : Nat), ∃ (r05C_2 : Nat), ∃ (r06_2 : ByteArray), (w24.cell? (⟨w.heap.size, 0, none⟩ : Addr) = some (.int .i64 r00_2) ∧ w24.cell? (⟨w.heap.size, 1, none⟩ : Addr) = some (.int .i64 r01_2) ∧ w24.cell? (⟨w.heap.size, 2, none⟩ : Addr) = some (.int .i64 r02_2) ∧ w24.cell? (⟨w.heap.size, 3, none⟩ : Addr) = some (.bool r03_2) ∧ w24.cell? (⟨w.heap.size, 4, none⟩ : Addr) = some (.slice r04A_2 r04N_2 r04C_2) ∧ w24.cell? (⟨w.heap.size, 5, none⟩ : Addr) = some (.slice r05A_2 r05N_2 r05C_2) ∧ w24.cell? (⟨w.heap.size, 6, none⟩ : Addr) = some (.string r06_2)) ∧
  R (.tuple #[(.agg #[(.int .i64 r00_2), (.int .i64 r01_2), (.int .i64 r02_2), (.bool r03_2), (.slice r04A_2 r04N_2 r04C_2), (.slice r05A_2 r05N_2 r05C_2), (.string r06_2)]), (.bool false)]) w24) ∧
  (x78 = false →
  ∃ (x83 : ByteArray), w8.cell? (⟨w1.heap.size, 0, none⟩ : Addr) = some (.string x83) ∧
  (decide (((x83.size : Nat) : Int) > (0 : Int)) = true →
  (((∃ u, w8.cell? (⟨w.heap.size, 0, none⟩ : Addr) = some u) ∧ w8.frozen? (⟨w.heap.size, 0, none⟩ : Addr) = false) ∧ ((∃ u, w8.cell? (⟨w.heap.size, 1, none⟩ : Addr) = some u) ∧ w8.frozen? (⟨w.heap.size, 1, none⟩ : Addr) = false) ∧ ((∃ u, w8.cell? (⟨w.heap.size, 2, none⟩ : Addr) = some u) ∧ w8.frozen? (⟨w.heap.size, 2, none⟩ : Addr) = false) ∧ ((∃ u, w8.cell? (⟨w.heap.size, 3, none⟩ : Addr) = some u) ∧ w8.frozen? (⟨w.heap.size, 3, none⟩ : Addr) = false) ∧ ((∃ u, w8.cell? (⟨w.heap.size, 4, none⟩ : Addr) = some u) ∧ w8.frozen? (⟨w.heap.size, 4, none⟩ : Addr) = false) ∧ ((∃ u, w8.cell? (⟨w.heap.size, 5, none⟩ : Addr) = some u) ∧ w8.frozen? (⟨w.heap.size, 5, none⟩ : Addr) = false) ∧ ((∃ u, w8.cell? (⟨w.heap.size, 6, none⟩ : Addr) = some u) ∧ w8.frozen? (⟨w.heap.size, 6, none⟩ : Addr) = false)) ∧ ∀ w25 : World, w25 = (((((((w8.setCell (⟨w.heap.size, 0, none⟩ : Addr) (.int .i64 0)).setCell (⟨w.heap.size, 1, none⟩ : Addr) (.int .i64 0)).setCell (⟨w.heap.size, 2, none⟩ : Addr) (.int .i64 0)).setCell (⟨w.heap.size, 3, none⟩ : Addr) (.bool false)).setCell (⟨w.heap.size, 4, none⟩ : Addr) (.slice none 0 0)).setCell (⟨w.heap.size, 5, none⟩ : Addr) (.slice none 0 0)).setCell (⟨w.heap.size, 6, none⟩ : Addr) (.string ByteArray.empty)) →
  ∃ (r00_3 : Int), ∃ (r01_3 : Int), ∃ (r02_3 : Int), ∃ (r03_3 : Bool), ∃ (r04A_3 : Option Addr), ∃ (r04N_3 : Nat), ∃ (r04C_3 : Nat), ∃ (r05A_3 : Option Addr), ∃ (r05N_3 : Nat), ∃ (r05C_3 : Nat), ∃ (r06_3 : ByteArray), (w25.cell? (⟨w.heap.size, 0, none⟩ : Addr) = some (.int .i64 r00_3) ∧ w25.cell? (⟨w.heap.size, 1, none⟩ : Addr) = some (.int .i64 r01_3) ∧ w25.cell? (⟨w.heap.size, 2, none⟩ : Addr) = some (.int .i64 r02_3) ∧ w25.cell? (⟨w.heap.size, 3, none⟩ : Addr) = some (.bool r03_3) ∧ w25.cell? (⟨w.heap.size, 4, none⟩ : Addr) = some (.slice r04A_3 r04N_3 r04C_3) ∧ w25.cell? (⟨w.heap.size, 5, none⟩ : Addr) = some (.slice r05A_3 r05N_3 r05C_3) ∧ w25.cell? (⟨w.heap.size, 6, none⟩ : Addr) = some (.string r06_3)) ∧
  R (.tuple #[(.agg #[(.int .i64 r00_3), (.int .i64 r01_3), (.int .i64 r02_3), (.bool r03_3), (.slice r04A_3 r04N_3 r04C_3), (.slice r05A_3 r05N_3 r05C_3), (.string r06_3)]), (.bool false)]) w25) ∧
  (decide (((x83.size : Nat) : Int) > (0 : Int)) = false →
  ∃ (x89 : Int), w8.cell? (⟨w3.heap.size, 0, none⟩ : Addr) = some (.int .i64 x89) ∧
  Calls Try.prog 43 #[(.int .i64 x89)] w8 (Ret fun v_8 w26 => ∃ (x90 : ByteArray), v_8 = (.string x90) ∧
  ((x90.toList == (ByteArray.mk #[]).toList) = true →
  (((∃ u, w26.cell? (⟨w.heap.size, 0, none⟩ : Addr) = some u) ∧ w26.frozen? (⟨w.heap.size, 0, none⟩ : Addr) = false) ∧ ((∃ u, w26.cell? (⟨w.heap.size, 1, none⟩ : Addr) = some u) ∧ w26.frozen? (⟨w.heap.size, 1, none⟩ : Addr) = false) ∧ ((∃ u, w26.cell? (⟨w.heap.size, 2, none⟩ : Addr) = some u) ∧ w26.frozen? (⟨w.heap.size, 2, none⟩ : Addr) = false) ∧ ((∃ u, w26.cell? (⟨w.heap.size, 3, none⟩ : Addr) = some u) ∧ w26.frozen? (⟨w.heap.size, 3, none⟩ : Addr) = false) ∧ ((∃ u, w26.cell? (⟨w.heap.size, 4, none⟩ : Addr) = some u) ∧ w26.frozen? (⟨w.heap.size, 4, none⟩ : Addr) = false) ∧ ((∃ u, w26.cell? (⟨w.heap.size, 5, none⟩ : Addr) = some u) ∧ w26.frozen? (⟨w.heap.size, 5, none⟩ : Addr) = false) ∧ ((∃ u, w26.cell? (⟨w.heap.size, 6, none⟩ : Addr) = some u) ∧ w26.frozen? (⟨w.heap.size, 6, none⟩ : Addr) = false)) ∧ ∀ w27 : World, w27 = (((((((w26.setCell (⟨w.heap.size, 0, none⟩ : Addr) (.int .i64 0)).setCell (⟨w.heap.size, 1, none⟩ : Addr) (.int .i64 0)).setCell (⟨w.heap.size, 2, none⟩ : Addr) (.int .i64 0)).setCell (⟨w.heap.size, 3, none⟩ : Addr) (.bool false)).setCell (⟨w.heap.size, 4, none⟩ : Addr) (.slice none 0 0)).setCell (⟨w.heap.size, 5, none⟩ : Addr) (.slice none 0 0)).setCell (⟨w.heap.size, 6, none⟩ : Addr) (.string ByteArray.empty)) →
  ∃ (r00_4 : Int), ∃ (r01_4 : Int), ∃ (r02_4 : Int), ∃ (r03_4 : Bool), ∃ (r04A_4 : Option Addr), ∃ (r04N_4 : Nat), ∃ (r04C_4 : Nat), ∃ (r05A_4 : Option Addr), ∃ (r05N_4 : Nat), ∃ (r05C_4 : Nat), ∃ (r06_4 : ByteArray), (w27.cell? (⟨w.heap.size, 0, none⟩ : Addr) = some (.int .i64 r00_4) ∧ w27.cell? (⟨w.heap.size, 1, none⟩ : Addr) = some (.int .i64 r01_4) ∧ w27.cell? (⟨w.heap.size, 2, none⟩ : Addr) = some (.int .i64 r02_4) ∧ w27.cell? (⟨w.heap.size, 3, none⟩ : Addr) = some (.bool r03_4) ∧ w27.cell? (⟨w.heap.size, 4, none⟩ : Addr) = some (.slice r04A_4 r04N_4 r04C_4) ∧ w27.cell? (⟨w.heap.size, 5, none⟩ : Addr) = some (.slice r05A_4 r05N_4 r05C_4) ∧ w27.cell? (⟨w.heap.size, 6, none⟩ : Addr) = some (.string r06_4)) ∧
  R (.tuple #[(.agg #[(.int .i64 r00_4), (.int .i64 r01_4), (.int .i64 r02_4), (.bool r03_4), (.slice r04A_4 r04N_4 r04C_4), (.slice r05A_4 r05N_4 r05C_4), (.string r06_4)]), (.bool false)]) w27) ∧
  ((x90.toList == (ByteArray.mk #[]).toList) = false →
  ∃ (x940 : Int), ∃ (x941 : Int), ∃ (x942 : Int), ∃ (x943 : Bool), ∃ (x944A : Option Addr), ∃ (x944N : Nat), ∃ (x944C : Nat), ∃ (x945A : Option Addr), ∃ (x945N : Nat), ∃ (x945C : Nat), ∃ (x946 : ByteArray), (w26.cell? (⟨w3.heap.size, 0, none⟩ : Addr) = some (.int .i64 x940) ∧ w26.cell? (⟨w3.heap.size, 1, none⟩ : Addr) = some (.int .i64 x941) ∧ w26.cell? (⟨w3.heap.size, 2, none⟩ : Addr) = some (.int .i64 x942) ∧ w26.cell? (⟨w3.heap.size, 3, none⟩ : Addr) = some (.bool x943) ∧ w26.cell? (⟨w3.heap.size, 4, none⟩ : Addr) = some (.slice x944A x944N x944C) ∧ w26.cell? (⟨w3.heap.size, 5, none⟩ : Addr) = some (.slice x945A x945N x945C) ∧ w26.cell? (⟨w3.heap.size, 6, none⟩ : Addr) = some (.string x946)) ∧
  (((∃ u, w26.cell? (⟨w.heap.size, 0, none⟩ : Addr) = some u) ∧ w26.frozen? (⟨w.heap.size, 0, none⟩ : Addr) = false) ∧ ((∃ u, w26.cell? (⟨w.heap.size, 1, none⟩ : Addr) = some u) ∧ w26.frozen? (⟨w.heap.size, 1, none⟩ : Addr) = false) ∧ ((∃ u, w26.cell? (⟨w.heap.size, 2, none⟩ : Addr) = some u) ∧ w26.frozen? (⟨w.heap.size, 2, none⟩ : Addr) = false) ∧ ((∃ u, w26.cell? (⟨w.heap.size, 3, none⟩ : Addr) = some u) ∧ w26.frozen? (⟨w.heap.size, 3, none⟩ : Addr) = false) ∧ ((∃ u, w26.cell? (⟨w.heap.size, 4, none⟩ : Addr) = some u) ∧ w26.frozen? (⟨w.heap.size, 4, none⟩ : Addr) = false) ∧ ((∃ u, w26.cell? (⟨w.heap.size, 5, none⟩ : Addr) = some u) ∧ w26.frozen? (⟨w.heap.size, 5, none⟩ : Addr) = false) ∧ ((∃ u, w26.cell? (⟨w.heap.size, 6, none⟩ : Addr) = some u) ∧ w26.frozen? (⟨w.heap.size, 6, none⟩ : Addr) = false)) ∧ ∀ w28 : World, w28 = (((((((w26.setCell (⟨w.heap.size, 0, none⟩ : Addr) (.int .i64 x940)).setCell (⟨w.heap.size, 1, none⟩ : Addr) (.int .i64 x941)).setCell (⟨w.heap.size, 2, none⟩ : Addr) (.int .i64 x942)).setCell (⟨w.heap.size, 3, none⟩ : Addr) (.bool x943)).setCell (⟨w.heap.size, 4, none⟩ : Addr) (.slice x944A x944N x944C)).setCell (⟨w.heap.size, 5, none⟩ : Addr) (.slice x945A x945N x945C)).setCell (⟨w.heap.size, 6, none⟩ : Addr) (.string x946)) →
  ∃ (r00_5 : Int), ∃ (r01_5 : Int), ∃ (r02_5 : Int), ∃ (r03_5 : Bool), ∃ (r04A_5 : Option Addr), ∃ (r04N_5 : Nat), ∃ (r04C_5 : Nat), ∃ (r05A_5 : Option Addr), ∃ (r05N_5 : Nat), ∃ (r05C_5 : Nat), ∃ (r06_5 : ByteArray), (w28.cell? (⟨w.heap.size, 0, none⟩ : Addr) = some (.int .i64 r00_5) ∧ w28.cell? (⟨w.heap.size, 1, none⟩ : Addr) = some (.int .i64 r01_5) ∧ w28.cell? (⟨w.heap.size, 2, none⟩ : Addr) = some (.int .i64 r02_5) ∧ w28.cell? (⟨w.heap.size, 3, none⟩ : Addr) = some (.bool r03_5) ∧ w28.cell? (⟨w.heap.size, 4, none⟩ : Addr) = some (.slice r04A_5 r04N_5 r04C_5) ∧ w28.cell? (⟨w.heap.size, 5, none⟩ : Addr) = some (.slice r05A_5 r05N_5 r05C_5) ∧ w28.cell? (⟨w.heap.size, 6, none⟩ : Addr) = some (.string r06_5)) ∧
  R (.tuple #[(.agg #[(.int .i64 r00_5), (.int .i64 r01_5), (.int .i64 r02_5), (.bool r03_5), (.slice r04A_5 r04N_5 r04C_5), (.slice r05A_5 r05N_5 r05C_5), (.string r06_5)]), (.bool true)]) w28))))))))
theorem coadjutorref29_Parse.vc_eq (s : ByteArray) (w : World) (R : Value → World → Prop) : fnV Try.prog Try.f49 (.c .nil (.lp [(3, none), (8, some (.int .i64)), (9, none), (27, none), (28, none), (29, none), (30, none), (31, none), (32, none), (33, none), (34, none), (35, none), (36, none), (37, none), (38, none), (39, none), (40, none), (41, none), (42, none), (43, none), (44, none), (45, none), (46, none), (47, none), (48, none), (49, none), (50, none), (51, none), (52, none), (53, none), (54, none), (55, none), (56, none), (57, none), (58, none), (59, none), (60, none), (61, none), (62, none), (63, none), (64, none), (65, none), (66, none), (67, none), (68, none), (69, none), (70, none), (71, none), (72, none), (73, none), (74, none)] (.c (.cut 0 [(3, none), (9, none), (33, none), (34, none), (35, none), (36, none), (37, none), (38, none), (39, none), (40, none), (41, none), (42, none), (43, none), (44, none), (45, none), (46, none), (47, none), (48, none), (49, none), (50, none), (51, none), (52, none), (53, none), (54, none), (55, none), (56, none), (57, none), (58, none), (59, none), (60, none), (61, none), (62, none), (63, none), (64, none), (65, none), (66, none), (67, none), (68, none), (69, none), (70, none), (71, none), (72, none), (73, none), (74, none)] (.c .nil (.c .nil (.c (.at_ 18 2 (.c .nil .nil) (.k .nil)) (.c .nil (.c .nil .nil))))) .nil) (.at_ 25 4 (.k .nil) (.at_ 25 12 (.k .nil) (.c .nil .nil)))))) [(.string s)] w R = coadjutorref29_Parse.vc s w R := by kernel_rfl
theorem coadjutorref29_Parse.calls (s : ByteArray) {w : World} {R : Value → World → Prop} (h : coadjutorref29_Parse.vc s w R) : Calls Try.prog 49 #[(.string s)] w (Ret R) :=
  calls_V fit Try.func49 (.c .nil (.lp [(3, none), (8, some (.int .i64)), (9, none), (27, none), (28, none), (29, none), (30, none), (31, none), (32, none), (33, none), (34, none), (35, none), (36, none), (37, none), (38, none), (39, none), (40, none), (41, none), (42, none), (43, none), (44, none), (45, none), (46, none), (47, none), (48, none), (49, none), (50, none), (51, none), (52, none), (53, none), (54, none), (55, none), (56, none), (57, none), (58, none), (59, none), (60, none), (61, none), (62, none), (63, none), (64, none), (65, none), (66, none), (67, none), (68, none), (69, none), (70, none), (71, none), (72, none), (73, none), (74, none)] (.c (.cut 0 [(3, none), (9, none), (33, none), (34, none), (35, none), (36, none), (37, none), (38, none), (39, none), (40, none), (41, none), (42, none), (43, none), (44, none), (45, none), (46, none), (47, none), (48, none), (49, none), (50, none), (51, none), (52, none), (53, none), (54, none), (55, none), (56, none), (57, none), (58, none), (59, none), (60, none), (61, none), (62, none), (63, none), (64, none), (65, none), (66, none), (67, none), (68, none), (69, none), (70, none), (71, none), (72, none), (73, none), (74, none)] (.c .nil (.c .nil (.c (.at_ 18 2 (.c .nil .nil) (.k .nil)) (.c .nil (.c .nil .nil))))) .nil) (.at_ 25 4 (.k .nil) (.at_ 25 12 (.k .nil) (.c .nil .nil)))))) (by rw [show (#[(.string s)] : Array Value).toList = [(.string s)] from rfl, coadjutorref29_Parse.vc_eq]; exact h)
/-- function 35 -/
def coadjutorref29_All.vc (lA : Option Addr) (lN : Nat) (lC : Nat) (w : World) (R : Value → World → Prop) : Prop :=
  Calls Try.prog 66 #[(.int .i64 ((lN : Nat) : Int))] w (Ret fun v w1 => ∃ (x9_0 : ByteArray), ∃ (x9_1 : Bool), v = (.tuple #[(.string x9_0), (.bool x9_1)]) ∧
  ∃ vI : ByteArray → Int → Nat → World → Prop, (∃ vk_2 : Nat, vI x9_0 0 vk_2 w1) ∧
  ∀ (jk : Nat → Value) (s : ByteArray) (i : Int), ∀ (vk : Nat) (w2 : World), vI s i vk w2 →
  (decide (i < ((lN : Nat) : Int)) = true →
  (0 ≤ i ∧ i < ((lN : Nat) : Int)) ∧ someV lA fun p =>
  ∃ (x220 : Int), ∃ (x221 : Int), ∃ (x222 : Int), ∃ (x223 : Bool), ∃ (x224A : Option Addr), ∃ (x224N : Nat), ∃ (x224C : Nat), ∃ (x225A : Option Addr), ∃ (x225N : Nat), ∃ (x225C : Nat), ∃ (x226 : ByteArray), (w2.cell? (p.add (i.toNat * 7)) = some (.int .i64 x220) ∧ w2.cell? ((p.add (i.toNat * 7)).add 1) = some (.int .i64 x221) ∧ w2.cell? ((p.add (i.toNat * 7)).add 2) = some (.int .i64 x222) ∧ w2.cell? ((p.add (i.toNat * 7)).add 3) = some (.bool x223) ∧ w2.cell? ((p.add (i.toNat * 7)).add 4) = some (.slice x224A x224N x224C) ∧ w2.cell? ((p.add (i.toNat * 7)).add 5) = some (.slice x225A x225N x225C) ∧ w2.cell? ((p.add (i.toNat * 7)).add 6) = some (.string x226)) ∧
  Calls Try.prog 45 #[(.agg #[(.int .i64 x220), (.int .i64 x221), (.int .i64 x222), (.bool x223), (.slice x224A x224N x224C), (.slice x225A x225N x225C), (.string x226)])] w2 (Ret fun v_1 w3 => ∃ (x23 : ByteArray), v_1 = (.string x23) ∧
  Calls Try.prog 67 #[(.string x23)] w3 (Ret fun v_2 w4 => ∃ (x24 : ByteArray), v_2 = (.string x24) ∧
  ((s.size + x24.size : Nat) : Int) ≤ 9223372036854775807 ∧
  ∃ vk_1 : Nat, vk_1 < vk ∧ vI (s ++ x24) (IntKind.i64.wrap (i + 1)) vk_1 w4))) ∧
  (decide (i < ((lN : Nat) : Int)) = false →
  R (.string s) w2))
theorem coadjutorref29_All.vc_eq (lA : Option Addr) (lN : Nat) (lC : Nat) (w : World) (R : Value → World → Prop) : fnV Try.prog Try.f35 (.lp [(3, some (.str)), (5, some (.int .i64)), (12, none), (13, none), (14, none), (15, none), (16, none), (17, none), (18, none), (19, none), (20, none), (21, none), (22, none), (23, none), (24, none), (25, none)] (.c .nil .nil)) [(.slice lA lN lC)] w R = coadjutorref29_All.vc lA lN lC w R := by kernel_rfl
theorem coadjutorref29_All.calls (lA : Option Addr) (lN : Nat) (lC : Nat) {w : World} {R : Value → World → Prop} (h : coadjutorref29_All.vc lA lN lC w R) : Calls Try.prog 35 #[(.slice lA lN lC)] w (Ret R) :=
  calls_V fit Try.func35 (.lp [(3, some (.str)), (5, some (.int .i64)), (12, none), (13, none), (14, none), (15, none), (16, none), (17, none), (18, none), (19, none), (20, none), (21, none), (22, none), (23, none), (24, none), (25, none)] (.c .nil .nil)) (by rw [show (#[(.slice lA lN lC)] : Array Value).toList = [(.slice lA lN lC)] from rfl, coadjutorref29_All.vc_eq]; exact h)
/-- function 37 -/
def coadjutorref29_Split.vc (s : ByteArray) (w : World) (R : Value → World → Prop) : Prop :=
  ∀ w1 : World, w1 = w.alloc (.cells #[(.string s), (.bool false)] 127 (0, 0)) →
  Calls Try.prog 72 #[(.pointer (some (⟨w.heap.size, 0, none⟩ : Addr))), (.int .i64 400)] w1 (Ret fun v w2 => ∃ (x14 : Int), v = (.int .i64 x14) ∧
  ∀ w3 : World, w3 = w2.alloc (.cells #[] 73 (0, 0)) →
  ∃ vI : Option Addr → Nat → Nat → Int → Nat → World → Prop, (∃ vk_2 : Nat, vI (some (⟨w2.heap.size, 0, none⟩ : Addr)) 0 0 0 vk_2 w3) ∧
  ∀ (jk : Nat → Value) (outA : Option Addr) (outN : Nat) (outC : Nat) (i : Int), ∀ (vk : Nat) (w4 : World), vI outA outN outC i vk w4 →
  (decide (i < x14) = true →
  ∃ (x23 : Bool), w4.cell? (⟨w.heap.size, 1, none⟩ : Addr) = some (.bool x23) ∧
  ((!x23) = true →
  Calls Try.prog 73 #[(.pointer (some (⟨w.heap.size, 0, none⟩ : Addr))), (.int .i64 ((s.size : Nat) : Int))] w4 (Ret fun v_1 w5 => ∃ (x32 : ByteArray), v_1 = (.string x32) ∧
  Calls Try.prog 49 #[(.string x32)] w5 (Ret fun v_2 w6 => ∃ (x33_00 : Int), ∃ (x33_01 : Int), ∃ (x33_02 : Int), ∃ (x33_03 : Bool), ∃ (x33_04A : Option Addr), ∃ (x33_04N : Nat), ∃ (x33_04C : Nat), ∃ (x33_05A : Option Addr), ∃ (x33_05N : Nat), ∃ (x33_05C : Nat), ∃ (x33_06 : ByteArray), ∃ (x33_1 : Bool), v_2 = (.tuple #[(.agg #[(.int .i64 x33_00), (.int .i64 x33_01), (.int .i64 x33_02), (.bool x33_03), (.slice x33_04A x33_04N x33_04C), (.slice x33_05A x33_05N x33_05C), (.string x33_06)]), (.bool x33_1)]) ∧
  ∀ w7 : World, w7 = w6.alloc (.cells #[(.int .i64 0), (.int .i64 0), (.int .i64 0), (.bool false), (.slice none 0 0), (.slice none 0 0), (.string ByteArray.empty)] 73 (0, 0)) →
  (((∃ u, w7.cell? (⟨w6.heap.size, 0, none⟩ : Addr) = some u) ∧ w7.frozen? (⟨w6.heap.size, 0, none⟩ : Addr) = false) ∧ ((∃ u, w7.cell? (⟨w6.heap.size, 1, none⟩ : Addr) = some u) ∧ w7.frozen? (⟨w6.heap.size, 1, none⟩ : Addr) = false) ∧ ((∃ u, w7.cell? (⟨w6.heap.size, 2, none⟩ : Addr) = some u) ∧ w7.frozen? (⟨w6.heap.size, 2, none⟩ : Addr) = false) ∧ ((∃ u, w7.cell? (⟨w6.heap.size, 3, none⟩ : Addr) = some u) ∧ w7.frozen? (⟨w6.heap.size, 3, none⟩ : Addr) = false) ∧ ((∃ u, w7.cell? (⟨w6.heap.size, 4, none⟩ : Addr) = some u) ∧ w7.frozen? (⟨w6.heap.size, 4, none⟩ : Addr) = false) ∧ ((∃ u, w7.cell? (⟨w6.heap.size, 5, none⟩ : Addr) = some u) ∧ w7.frozen? (⟨w6.heap.size, 5, none⟩ : Addr) = false) ∧ ((∃ u, w7.cell? (⟨w6.heap.size, 6, none⟩ : Addr) = some u) ∧ w7.frozen? (⟨w6.heap.size, 6, none⟩ : Addr) = false)) ∧ ∀ w8 : World, w8 = (((((((w7.setCell (⟨w6.heap.size, 0, none⟩ : Addr) (.int .i64 x33_00)).setCell (⟨w6.heap.size, 1, none⟩ : Addr) (.int .i64 x33_01)).setCell (⟨w6.heap.size, 2, none⟩ : Addr) (.int .i64 x33_02)).setCell (⟨w6.heap.size, 3, none⟩ : Addr) (.bool x33_03)).setCell (⟨w6.heap.size, 4, none⟩ : Addr) (.slice x33_04A x33_04N x33_04C)).setCell (⟨w6.heap.size, 5, none⟩ : Addr) (.slice x33_05A x33_05N x33_05C)).setCell (⟨w6.heap.size, 6, none⟩ : Addr) (.string x33_06)) →
  ((!x33_1) = true →
  R (.tuple #[(.slice none 0 0), (.bool false)]) w8) ∧
  ((!x33_1) = false →
  ∃ (x390 : Int), ∃ (x391 : Int), ∃ (x392 : Int), ∃ (x393 : Bool), ∃ (x394A : Option Addr), ∃ (x394N : Nat), ∃ (x394C : Nat), ∃ (x395A : Option Addr), ∃ (x395N : Nat), ∃ (x395C : Nat), ∃ (x396 : ByteArray), (w8.cell? (⟨w6.heap.size, 0, none⟩ : Addr) = some (.int .i64 x390) ∧ w8.cell? (⟨w6.heap.size, 1, none⟩ : Addr) = some (.int .i64 x391) ∧ w8.cell? (⟨w6.heap.size, 2, none⟩ : Addr) = some (.int .i64 x392) ∧ w8.cell? (⟨w6.heap.size, 3, none⟩ : Addr) = some (.bool x393) ∧ w8.cell? (⟨w6.heap.size, 4, none⟩ : Addr) = some (.slice x394A x394N x394C) ∧ w8.cell? (⟨w6.heap.size, 5, none⟩ : Addr) = some (.slice x395A x395N x395C) ∧ w8.cell? (⟨w6.heap.size, 6, none⟩ : Addr) = some (.string x396)) ∧
  ∀ w9 : World, w9 = w8.alloc (.cells #[(.int .i64 x390), (.int .i64 x391), (.int .i64 x392), (.bool x393), (.slice x394A x394N x394C), (.slice x395A x395N x395C), (.string x396)] 73 (0, 0)) →
  ∃ (x41A : Option Addr), ∃ (x41N : Nat), ∃ (x41C : Nat), ∃ w10 : World, (Builtin.append_ #[69, 69] 69 #[(.slice outA outN outC), (.slice (some (⟨w8.heap.size, 0, none⟩ : Addr)) 1 1)]).run Try.prog w9 = .ok (.slice x41A x41N x41C) w10 ∧
  ∃ vk_1 : Nat, vk_1 < vk ∧ vI x41A x41N x41C (IntKind.i64.wrap (i + 1)) vk_1 w10)))) ∧
  ((!x23) = false →
  ∃ vS : World → Prop, ∀ w11 : World, w11 = w4.drew → vS w11 ∧
  ∃ (x46 : Bool), (∀ w12, vS w12 → w12.cell? (⟨w.heap.size, 1, none⟩ : Addr) = some (.bool x46)) ∧
  ((!x46) = true →
  ∃ (x52 : ByteArray), (∀ w13, vS w13 → w13.cell? (⟨w.heap.size, 0, none⟩ : Addr) = some (.string x52)) ∧
  R (.tuple #[(.slice outA outN outC), (.bool (((x52.size : Nat) : Int) == (0 : Int)))]) w11) ∧
  ((!x46) = false →
  R (.tuple #[(.slice outA outN outC), (.bool false)]) w11))) ∧
  (decide (i < x14) = false →
  ∃ vS_1 : World → Prop, ∀ w14 : World, w14 = w4.drew → vS_1 w14 ∧
  ∃ (x46_1 : Bool), (∀ w15, vS_1 w15 → w15.cell? (⟨w.heap.size, 1, none⟩ : Addr) = some (.bool x46_1)) ∧
  ((!x46_1) = true →
  ∃ (x52_1 : ByteArray), (∀ w16, vS_1 w16 → w16.cell? (⟨w.heap.size, 0, none⟩ : Addr) = some (.string x52_1)) ∧
  R (.tuple #[(.slice outA outN outC), (.bool (((x52_1.size : Nat) : Int) == (0 : Int)))]) w14) ∧
  ((!x46_1) = false →
  R (.tuple #[(.slice outA outN outC), (.bool false)]) w14)))
theorem coadjutorref29_Split.vc_eq (s : ByteArray) (w : World) (R : Value → World → Prop) : fnV Try.prog Try.f37 (.lp [(2, none), (3, none), (6, some (.slice)), (7, some (.int .i64)), (8, none), (9, none), (16, none), (17, none), (18, none), (19, none), (20, none), (21, none), (22, none), (23, none), (24, none), (25, none), (26, none), (27, none), (28, none), (29, none), (30, none), (31, none), (32, none), (33, none), (34, none), (35, none), (36, none), (37, none), (38, none), (39, none), (40, none), (41, none)] (.at_ 5 3 (.c (.c .nil .nil) (.tk 0 (.tk 1 (.tk 2 (.tk 3 (.tk 4 (.tk 5 (.tks 6 (.tk 7 (.tk 8 (.tk 9 (.tk 10 (.tk 11 (.tk 12 (.tk 13 (.tk 14 (.tk 15 (.fin .nil)))))))))) (.tk 7 (.tk 8 (.tk 9 (.tk 10 (.tk 11 (.tk 12 (.tk 13 (.tk 14 (.tk 15 (.fin .nil)))))))))))))))))) (.k (.tk 0 (.tk 1 (.tk 2 (.tk 3 (.tk 4 (.tk 5 (.tks 6 (.tk 7 (.tk 8 (.tk 9 (.tk 10 (.tk 11 (.tk 12 (.tk 13 (.tk 14 (.tk 15 (.fin .nil)))))))))) (.tk 7 (.tk 8 (.tk 9 (.tk 10 (.tk 11 (.tk 12 (.tk 13 (.tk 14 (.tk 15 (.fin .nil)))))))))))))))))))) [(.string s)] w R = coadjutorref29_Split.vc s w R := by kernel_rfl
theorem coadjutorref29_Split.calls (s : ByteArray) {w : World} {R : Value → World → Prop} (h : coadjutorref29_Split.vc s w R) : Calls Try.prog 37 #[(.string s)] w (Ret R) :=
  calls_V fit Try.func37 (.lp [(2, none), (3, none), (6, some (.slice)), (7, some (.int .i64)), (8, none), (9, none), (16, none), (17, none), (18, none), (19, none), (20, none), (21, none), (22, none), (23, none), (24, none), (25, none), (26, none), (27, none), (28, none), (29, none), (30, none), (31, none), (32, none), (33, none), (34, none), (35, none), (36, none), (37, none), (38, none), (39, none), (40, none), (41, none)] (.at_ 5 3 (.c (.c .nil .nil) (.tk 0 (.tk 1 (.tk 2 (.tk 3 (.tk 4 (.tk 5 (.tks 6 (.tk 7 (.tk 8 (.tk 9 (.tk 10 (.tk 11 (.tk 12 (.tk 13 (.tk 14 (.tk 15 (.fin .nil)))))))))) (.tk 7 (.tk 8 (.tk 9 (.tk 10 (.tk 11 (.tk 12 (.tk 13 (.tk 14 (.tk 15 (.fin .nil)))))))))))))))))) (.k (.tk 0 (.tk 1 (.tk 2 (.tk 3 (.tk 4 (.tk 5 (.tks 6 (.tk 7 (.tk 8 (.tk 9 (.tk 10 (.tk 11 (.tk 12 (.tk 13 (.tk 14 (.tk 15 (.fin .nil)))))))))) (.tk 7 (.tk 8 (.tk 9 (.tk 10 (.tk 11 (.tk 12 (.tk 13 (.tk 14 (.tk 15 (.fin .nil)))))))))))))))))))) (by rw [show (#[(.string s)] : Array Value).toList = [(.string s)] from rfl, coadjutorref29_Split.vc_eq]; exact h)
end Go.Proofs.Ytamkffjmggbekaa.Vc
