import Derived.Test.YtbadkcnemcnhfaaDoorVc
import Derived.Test.YtbadkcnemcnhfaaDoorH
import Derived.Test.YtbadkcnemcnhfaaDoorProg
import Derived.KernelRfl
set_option linter.unusedVariables false
set_option maxRecDepth 100000
namespace Go.Proofs.YtbadkcnemcnhfaaDoor.Vc
open Go Go.Proofs Go.Proofs.YtbadkcnemcnhfaaDoor.V
/-- function 13 -/
def coadjutorlaw39_name.vc (part : Int) (block : Int) (w : World) (R : Value → World → Prop) : Prop :=
  ∀ w1 : World, w1 = w.alloc (.cells #[(.string ByteArray.empty), (.string ByteArray.empty), (.string ByteArray.empty), (.string ByteArray.empty), (.string ByteArray.empty), (.string ByteArray.empty), (.string ByteArray.empty), (.string ByteArray.empty), (.string ByteArray.empty), (.string ByteArray.empty), (.string ByteArray.empty), (.string ByteArray.empty)] 82 (0, 0)) →
  (((∃ u, w1.cell? (⟨w.heap.size, 0, none⟩ : Addr) = some u) ∧ w1.frozen? (⟨w.heap.size, 0, none⟩ : Addr) = false) ∧ ((∃ u, w1.cell? (⟨w.heap.size, 1, none⟩ : Addr) = some u) ∧ w1.frozen? (⟨w.heap.size, 1, none⟩ : Addr) = false) ∧ ((∃ u, w1.cell? (⟨w.heap.size, 2, none⟩ : Addr) = some u) ∧ w1.frozen? (⟨w.heap.size, 2, none⟩ : Addr) = false) ∧ ((∃ u, w1.cell? (⟨w.heap.size, 3, none⟩ : Addr) = some u) ∧ w1.frozen? (⟨w.heap.size, 3, none⟩ : Addr) = false) ∧ ((∃ u, w1.cell? (⟨w.heap.size, 4, none⟩ : Addr) = some u) ∧ w1.frozen? (⟨w.heap.size, 4, none⟩ : Addr) = false) ∧ ((∃ u, w1.cell? (⟨w.heap.size, 5, none⟩ : Addr) = some u) ∧ w1.frozen? (⟨w.heap.size, 5, none⟩ : Addr) = false) ∧ ((∃ u, w1.cell? (⟨w.heap.size, 6, none⟩ : Addr) = some u) ∧ w1.frozen? (⟨w.heap.size, 6, none⟩ : Addr) = false) ∧ ((∃ u, w1.cell? (⟨w.heap.size, 7, none⟩ : Addr) = some u) ∧ w1.frozen? (⟨w.heap.size, 7, none⟩ : Addr) = false) ∧ ((∃ u, w1.cell? (⟨w.heap.size, 8, none⟩ : Addr) = some u) ∧ w1.frozen? (⟨w.heap.size, 8, none⟩ : Addr) = false) ∧ ((∃ u, w1.cell? (⟨w.heap.size, 9, none⟩ : Addr) = some u) ∧ w1.frozen? (⟨w.heap.size, 9, none⟩ : Addr) = false) ∧ ((∃ u, w1.cell? (⟨w.heap.size, 10, none⟩ : Addr) = some u) ∧ w1.frozen? (⟨w.heap.size, 10, none⟩ : Addr) = false) ∧ ((∃ u, w1.cell? (⟨w.heap.size, 11, none⟩ : Addr) = some u) ∧ w1.frozen? (⟨w.heap.size, 11, none⟩ : Addr) = false)) ∧ ∀ w2 : World, w2 = ((((((((((((w1.setCell (⟨w.heap.size, 0, none⟩ : Addr) (.string (ByteArray.mk #[116, 111, 107, 101, 110]))).setCell (⟨w.heap.size, 1, none⟩ : Addr) (.string (ByteArray.mk #[112, 108, 97, 99, 101]))).setCell (⟨w.heap.size, 2, none⟩ : Addr) (.string (ByteArray.mk #[110, 111, 114, 109, 49]))).setCell (⟨w.heap.size, 3, none⟩ : Addr) (.string (ByteArray.mk #[113, 117, 101, 114, 121]))).setCell (⟨w.heap.size, 4, none⟩ : Addr) (.string (ByteArray.mk #[107, 101, 121]))).setCell (⟨w.heap.size, 5, none⟩ : Addr) (.string (ByteArray.mk #[118, 97, 108, 117, 101]))).setCell (⟨w.heap.size, 6, none⟩ : Addr) (.string (ByteArray.mk #[109, 105, 120]))).setCell (⟨w.heap.size, 7, none⟩ : Addr) (.string (ByteArray.mk #[110, 111, 114, 109, 50]))).setCell (⟨w.heap.size, 8, none⟩ : Addr) (.string (ByteArray.mk #[103, 97, 116, 101]))).setCell (⟨w.heap.size, 9, none⟩ : Addr) (.string (ByteArray.mk #[117, 112]))).setCell (⟨w.heap.size, 10, none⟩ : Addr) (.string (ByteArray.mk #[100, 111, 119, 110]))).setCell (⟨w.heap.size, 11, none⟩ : Addr) (.string (ByteArray.mk #[108, 97, 115, 116]))) →
  (decide (part < (0 : Int)) = true →
  R (.string (ByteArray.mk #[])) w2) ∧
  (decide (part < (0 : Int)) = false →
  (decide (part > (11 : Int)) = true →
  R (.string (ByteArray.mk #[])) w2) ∧
  (decide (part > (11 : Int)) = false →
  (decide (block < (0 : Int)) = true →
  R (.string (ByteArray.mk #[])) w2) ∧
  (decide (block < (0 : Int)) = false →
  (0 ≤ part ∧ part < (12 : Int)) ∧
  ∃ (x22 : ByteArray), w2.cell? ((⟨w.heap.size, 0, none⟩ : Addr).add (part.toNat * 1)) = some (.string x22) ∧
  (decide (part < (2 : Int)) = true →
  R (.string x22) w2) ∧
  (decide (part < (2 : Int)) = false →
  ((part == (11 : Int)) = true →
  R (.string x22) w2) ∧
  ((part == (11 : Int)) = false →
  ∃ vI : ByteArray → Int → Nat → World → Prop, (∃ vk_2 : Nat, vI (ByteArray.mk #[]) block vk_2 w2) ∧
  ∀ (jk : Nat → Value) (digits : ByteArray) (n : Int), ∀ (vk : Nat) (w3 : World), vI digits n vk w3 →
  (decide (n > (0 : Int)) = true →
  (10 : Int) ≠ 0 ∧
  ∀ w4 : World, w4 = w3.alloc (.cells #[(.int .u8 (IntKind.u8.wrap (IntKind.i64.wrap (48 + (Int.tmod n 10)))))] 5 (0, 0)) →
  ∃ (x44 : ByteArray), ∃ w5 : World, (convert 51 9 (.slice (some (⟨w3.heap.size, 0, none⟩ : Addr)) 1 1)).run Tryd.prog w4 = .ok (.string x44) w5 ∧
  ((x44.size + digits.size : Nat) : Int) ≤ 9223372036854775807 ∧
  (10 : Int) ≠ 0 ∧
  ∃ vk_1 : Nat, vk_1 < vk ∧ vI (x44 ++ digits) (IntKind.i64.wrap (Int.tdiv n 10)) vk_1 w5) ∧
  (decide (n > (0 : Int)) = false →
  ((digits.toList == (ByteArray.mk #[]).toList) = true →
  (10 : Int) ≠ 0 ∧
  ∀ w6 : World, w6 = w3.alloc (.cells #[(.int .u8 (IntKind.u8.wrap (IntKind.i64.wrap (48 + (Int.tmod n 10)))))] 5 (0, 0)) →
  ∃ (x44_1 : ByteArray), ∃ w7 : World, (convert 51 9 (.slice (some (⟨w3.heap.size, 0, none⟩ : Addr)) 1 1)).run Tryd.prog w6 = .ok (.string x44_1) w7 ∧
  ((x44_1.size + digits.size : Nat) : Int) ≤ 9223372036854775807 ∧
  (10 : Int) ≠ 0 ∧
  ∃ vk_1 : Nat, vk_1 < vk ∧ vI (x44_1 ++ digits) (IntKind.i64.wrap (Int.tdiv n 10)) vk_1 w7) ∧
  ((digits.toList == (ByteArray.mk #[]).toList) = false →
  ((x22.size + (ByteArray.mk #[32]).size : Nat) : Int) ≤ 9223372036854775807 ∧
  (((x22 ++ (ByteArray.mk #[32])).size + digits.size : Nat) : Int) ≤ 9223372036854775807 ∧
  R (.string ((x22 ++ (ByteArray.mk #[32])) ++ digits)) w3)))))))
theorem coadjutorlaw39_name.vc_eq (part : Int) (block : Int) (w : World) (R : Value → World → Prop) : fnV Tryd.prog Tryd.f13 (.at_ 2 2 (.k .nil) (.at_ 2 6 (.k .nil) (.c .nil (.at_ 5 2 (.k .nil) (.c .nil (.lp [(7, some (.str)), (8, some (.int .i64)), (31, none), (32, none), (33, none), (34, none), (35, none), (36, none), (37, none), (38, none), (39, none), (40, none), (41, none), (42, none), (43, none), (44, none), (45, none), (46, none)] (.at_ 9 2 (.k .nil) (.c .nil .nil)))))))) [(.int .i64 part), (.int .i64 block)] w R = coadjutorlaw39_name.vc part block w R := by kernel_rfl
theorem coadjutorlaw39_name.calls (part : Int) (block : Int) {w : World} {R : Value → World → Prop} (h : coadjutorlaw39_name.vc part block w R) : Calls Tryd.prog 13 #[(.int .i64 part), (.int .i64 block)] w (Ret R) :=
  calls_V fit Tryd.func13 (.at_ 2 2 (.k .nil) (.at_ 2 6 (.k .nil) (.c .nil (.at_ 5 2 (.k .nil) (.c .nil (.lp [(7, some (.str)), (8, some (.int .i64)), (31, none), (32, none), (33, none), (34, none), (35, none), (36, none), (37, none), (38, none), (39, none), (40, none), (41, none), (42, none), (43, none), (44, none), (45, none), (46, none)] (.at_ 9 2 (.k .nil) (.c .nil .nil)))))))) (by rw [show (#[(.int .i64 part), (.int .i64 block)] : Array Value).toList = [(.int .i64 part), (.int .i64 block)] from rfl, coadjutorlaw39_name.vc_eq]; exact h)
/-- function 30 -/
def coadjutorref39_weight.vc (b : Int) (w : World) (R : Value → World → Prop) : Prop :=
  (decide (b > (127 : Int)) = true →
  R (.int .i64 (IntKind.i64.wrap ((IntKind.i64.wrap b) - 256))) w) ∧
  (decide (b > (127 : Int)) = false →
  R (.int .i64 (IntKind.i64.wrap b)) w)
theorem coadjutorref39_weight.vc_eq (b : Int) (w : World) (R : Value → World → Prop) : fnV Tryd.prog Tryd.f30 (.c .nil .nil) [(.int .u8 b)] w R = coadjutorref39_weight.vc b w R := by kernel_rfl
theorem coadjutorref39_weight.calls (b : Int) {w : World} {R : Value → World → Prop} (h : coadjutorref39_weight.vc b w R) : Calls Tryd.prog 30 #[(.int .u8 b)] w (Ret R) :=
  calls_V fit Tryd.func30 (.c .nil .nil) (by rw [show (#[(.int .u8 b)] : Array Value).toList = [(.int .u8 b)] from rfl, coadjutorref39_weight.vc_eq]; exact h)
/-- function 29 -/
def coadjutorref39_far.vc (va : Int) (b : Int) (w : World) (R : Value → World → Prop) : Prop :=
  (decide (va < b) = true →
  R (.int .i64 (IntKind.i64.wrap (b - va))) w) ∧
  (decide (va < b) = false →
  R (.int .i64 (IntKind.i64.wrap (va - b))) w)
theorem coadjutorref39_far.vc_eq (va : Int) (b : Int) (w : World) (R : Value → World → Prop) : fnV Tryd.prog Tryd.f29 (.c .nil .nil) [(.int .i64 va), (.int .i64 b)] w R = coadjutorref39_far.vc va b w R := by kernel_rfl
theorem coadjutorref39_far.calls (va : Int) (b : Int) {w : World} {R : Value → World → Prop} (h : coadjutorref39_far.vc va b w R) : Calls Tryd.prog 29 #[(.int .i64 va), (.int .i64 b)] w (Ret R) :=
  calls_V fit Tryd.func29 (.c .nil .nil) (by rw [show (#[(.int .i64 va), (.int .i64 b)] : Array Value).toList = [(.int .i64 va), (.int .i64 b)] from rfl, coadjutorref39_far.vc_eq]; exact h)
/-- function 11 -/
def coadjutorref39_Part.vc (a0 : Int) (a1 : Int) (a2 : Int) (a3 : Int) (a4 : Int) (a5 : Int) (a6 : ByteArray) (b0 : Int) (b1 : Int) (b2 : Int) (b3 : Int) (b4 : Int) (b5 : Int) (b6 : ByteArray) (vfrom : Int) (n : Int) (w : World) (R : Value → World → Prop) : Prop :=
  ∀ w1 : World, w1 = w.alloc (.cells #[(.int .i64 a0), (.int .i64 a1), (.int .i64 a2), (.int .i64 a3), (.int .i64 a4), (.int .i64 a5), (.string a6)] 36 (0, 0)) →
  ∀ w2 : World, w2 = w1.alloc (.cells #[(.int .i64 b0), (.int .i64 b1), (.int .i64 b2), (.int .i64 b3), (.int .i64 b4), (.int .i64 b5), (.string b6)] 36 (0, 0)) →
  ∃ vI : Int → Int → Int → Nat → World → Prop, (∃ vk_2 : Nat, vI 0 0 vfrom vk_2 w2) ∧
  ∀ (jk : Nat → Value) (count : Int) (most : Int) (i : Int), ∀ (vk : Nat) (w3 : World), vI count most i vk w3 →
  (decide (i < (IntKind.i64.wrap (vfrom + n))) = true →
  ∃ vS : World → Prop, ∀ w4 : World, w4 = w3.drew → vS w4 ∧
  ∃ (x23 : ByteArray), (∀ w5, vS w5 → w5.cell? (⟨w.heap.size, 6, none⟩ : Addr) = some (.string x23)) ∧
  (0 ≤ i ∧ i < ((x23.size : Nat) : Int)) ∧
  ∃ (x28 : ByteArray), (∀ w6, vS w6 → w6.cell? (⟨w1.heap.size, 6, none⟩ : Addr) = some (.string x28)) ∧
  (0 ≤ i ∧ i < ((x28.size : Nat) : Int)) ∧
  Calls Tryd.prog 30 #[(.int .u8 (bt x23 i))] w4 (Ret fun v w7 => ∃ (x26 : Int), v = (.int .i64 x26) ∧
  vS w7 ∧
  Calls Tryd.prog 30 #[(.int .u8 (bt x28 i))] w7 (Ret fun v_1 w8 => ∃ (x31 : Int), v_1 = (.int .i64 x31) ∧
  vS w8 ∧
  Calls Tryd.prog 29 #[(.int .i64 x26), (.int .i64 x31)] w8 (Ret fun v_2 w9 => ∃ (x32 : Int), v_2 = (.int .i64 x32) ∧
  vS w9 ∧
  (decide (x32 > (0 : Int)) = true →
  ∃ vk_1 : Nat, vk_1 < vk ∧ vI (IntKind.i64.wrap (count + 1)) (if x32 > most then x32 else most) (IntKind.i64.wrap (i + 1)) vk_1 w9) ∧
  (decide (x32 > (0 : Int)) = false →
  ∃ vk_1 : Nat, vk_1 < vk ∧ vI count (if x32 > most then x32 else most) (IntKind.i64.wrap (i + 1)) vk_1 w9))))) ∧
  (decide (i < (IntKind.i64.wrap (vfrom + n))) = false →
  R (.tuple #[(.int .i64 count), (.int .i64 most)]) w3)
theorem coadjutorref39_Part.vc_eq (a0 : Int) (a1 : Int) (a2 : Int) (a3 : Int) (a4 : Int) (a5 : Int) (a6 : ByteArray) (b0 : Int) (b1 : Int) (b2 : Int) (b3 : Int) (b4 : Int) (b5 : Int) (b6 : ByteArray) (vfrom : Int) (n : Int) (w : World) (R : Value → World → Prop) : fnV Tryd.prog Tryd.f11 (.lp [(10, some (.int .i64)), (11, some (.int .i64)), (12, some (.int .i64)), (13, none), (15, none), (16, none), (17, none), (18, none), (19, none), (20, none), (21, none), (22, none), (23, none), (24, none), (25, none), (26, none), (27, none), (28, none), (29, none), (30, none), (31, none), (32, none), (33, none), (34, none), (35, none), (36, none), (37, none), (38, none), (39, none)] (.c (.tk 0 (.tk 1 (.tk 2 (.tk 3 (.tk 5 (.tk 6 (.tk 7 (.tk 8 (.alt 4 (.alt 9 (.alt 10 (.tk 11 (.fin (.c .nil .nil))) .nil) .nil) .nil))))))))) .nil)) [(.agg #[(.int .i64 a0), (.int .i64 a1), (.int .i64 a2), (.int .i64 a3), (.int .i64 a4), (.int .i64 a5), (.string a6)]), (.agg #[(.int .i64 b0), (.int .i64 b1), (.int .i64 b2), (.int .i64 b3), (.int .i64 b4), (.int .i64 b5), (.string b6)]), (.int .i64 vfrom), (.int .i64 n)] w R = coadjutorref39_Part.vc a0 a1 a2 a3 a4 a5 a6 b0 b1 b2 b3 b4 b5 b6 vfrom n w R := by kernel_rfl
theorem coadjutorref39_Part.calls (a0 : Int) (a1 : Int) (a2 : Int) (a3 : Int) (a4 : Int) (a5 : Int) (a6 : ByteArray) (b0 : Int) (b1 : Int) (b2 : Int) (b3 : Int) (b4 : Int) (b5 : Int) (b6 : ByteArray) (vfrom : Int) (n : Int) {w : World} {R : Value → World → Prop} (h : coadjutorref39_Part.vc a0 a1 a2 a3 a4 a5 a6 b0 b1 b2 b3 b4 b5 b6 vfrom n w R) : Calls Tryd.prog 11 #[(.agg #[(.int .i64 a0), (.int .i64 a1), (.int .i64 a2), (.int .i64 a3), (.int .i64 a4), (.int .i64 a5), (.string a6)]), (.agg #[(.int .i64 b0), (.int .i64 b1), (.int .i64 b2), (.int .i64 b3), (.int .i64 b4), (.int .i64 b5), (.string b6)]), (.int .i64 vfrom), (.int .i64 n)] w (Ret R) :=
  calls_V fit Tryd.func11 (.lp [(10, some (.int .i64)), (11, some (.int .i64)), (12, some (.int .i64)), (13, none), (15, none), (16, none), (17, none), (18, none), (19, none), (20, none), (21, none), (22, none), (23, none), (24, none), (25, none), (26, none), (27, none), (28, none), (29, none), (30, none), (31, none), (32, none), (33, none), (34, none), (35, none), (36, none), (37, none), (38, none), (39, none)] (.c (.tk 0 (.tk 1 (.tk 2 (.tk 3 (.tk 5 (.tk 6 (.tk 7 (.tk 8 (.alt 4 (.alt 9 (.alt 10 (.tk 11 (.fin (.c .nil .nil))) .nil) .nil) .nil))))))))) .nil)) (by rw [show (#[(.agg #[(.int .i64 a0), (.int .i64 a1), (.int .i64 a2), (.int .i64 a3), (.int .i64 a4), (.int .i64 a5), (.string a6)]), (.agg #[(.int .i64 b0), (.int .i64 b1), (.int .i64 b2), (.int .i64 b3), (.int .i64 b4), (.int .i64 b5), (.string b6)]), (.int .i64 vfrom), (.int .i64 n)] : Array Value).toList = [(.agg #[(.int .i64 a0), (.int .i64 a1), (.int .i64 a2), (.int .i64 a3), (.int .i64 a4), (.int .i64 a5), (.string a6)]), (.agg #[(.int .i64 b0), (.int .i64 b1), (.int .i64 b2), (.int .i64 b3), (.int .i64 b4), (.int .i64 b5), (.string b6)]), (.int .i64 vfrom), (.int .i64 n)] from rfl, coadjutorref39_Part.vc_eq]; exact h)
/-- function 14 -/
def coadjutorref39_Distance.vc (a0 : Int) (a1 : Int) (a2 : Int) (a3 : Int) (a4 : Int) (a5 : Int) (a6 : ByteArray) (b0 : Int) (b1 : Int) (b2 : Int) (b3 : Int) (b4 : Int) (b5 : Int) (b6 : ByteArray) (w : World) (R : Value → World → Prop) : Prop :=
  ∀ w1 : World, w1 = w.alloc (.cells #[(.int .i64 a0), (.int .i64 a1), (.int .i64 a2), (.int .i64 a3), (.int .i64 a4), (.int .i64 a5), (.string a6)] 36 (0, 0)) →
  ∀ w2 : World, w2 = w1.alloc (.cells #[(.int .i64 b0), (.int .i64 b1), (.int .i64 b2), (.int .i64 b3), (.int .i64 b4), (.int .i64 b5), (.string b6)] 36 (0, 0)) →
  ∃ vI : Int → Int → Nat → World → Prop, (∃ vk_2 : Nat, vI 0 0 vk_2 w2) ∧
  ∀ (jk : Nat → Value) (sum : Int) (i : Int), ∀ (vk : Nat) (w3 : World), vI sum i vk w3 →
  ∃ (x9 : ByteArray), w3.cell? (⟨w.heap.size, 6, none⟩ : Addr) = some (.string x9) ∧
  (decide (i < ((x9.size : Nat) : Int)) = true →
  ∃ vS : World → Prop, ∀ w4 : World, w4 = w3.drew → vS w4 ∧
  ∃ (x16 : ByteArray), (∀ w5, vS w5 → w5.cell? (⟨w.heap.size, 6, none⟩ : Addr) = some (.string x16)) ∧
  (0 ≤ i ∧ i < ((x16.size : Nat) : Int)) ∧
  ∃ (x21 : ByteArray), (∀ w6, vS w6 → w6.cell? (⟨w1.heap.size, 6, none⟩ : Addr) = some (.string x21)) ∧
  (0 ≤ i ∧ i < ((x21.size : Nat) : Int)) ∧
  Calls Tryd.prog 30 #[(.int .u8 (bt x16 i))] w4 (Ret fun v w7 => ∃ (x19 : Int), v = (.int .i64 x19) ∧
  vS w7 ∧
  Calls Tryd.prog 30 #[(.int .u8 (bt x21 i))] w7 (Ret fun v_1 w8 => ∃ (x24 : Int), v_1 = (.int .i64 x24) ∧
  vS w8 ∧
  Calls Tryd.prog 29 #[(.int .i64 x19), (.int .i64 x24)] w8 (Ret fun v_2 w9 => ∃ (x25 : Int), v_2 = (.int .i64 x25) ∧
  vS w9 ∧
  ∃ vk_1 : Nat, vk_1 < vk ∧ vI (IntKind.i64.wrap (sum + x25)) (IntKind.i64.wrap (i + 1)) vk_1 w9)))) ∧
  (decide (i < ((x9.size : Nat) : Int)) = false →
  R (.int .i64 sum) w3)
theorem coadjutorref39_Distance.vc_eq (a0 : Int) (a1 : Int) (a2 : Int) (a3 : Int) (a4 : Int) (a5 : Int) (a6 : ByteArray) (b0 : Int) (b1 : Int) (b2 : Int) (b3 : Int) (b4 : Int) (b5 : Int) (b6 : ByteArray) (w : World) (R : Value → World → Prop) : fnV Tryd.prog Tryd.f14 (.lp [(5, some (.int .i64)), (6, some (.int .i64)), (7, none), (8, none), (9, none), (10, none), (11, none), (12, none), (13, none), (14, none), (15, none), (16, none), (17, none), (18, none), (19, none), (20, none), (21, none), (22, none), (23, none), (24, none), (25, none), (26, none)] (.c (.tk 0 (.tk 1 (.tk 2 (.tk 3 (.tk 4 (.tk 6 (.tk 7 (.tk 8 (.tk 9 (.alt 5 (.alt 10 (.alt 11 (.tk 12 (.tk 13 (.fin .nil))) .nil) .nil) .nil)))))))))) .nil)) [(.agg #[(.int .i64 a0), (.int .i64 a1), (.int .i64 a2), (.int .i64 a3), (.int .i64 a4), (.int .i64 a5), (.string a6)]), (.agg #[(.int .i64 b0), (.int .i64 b1), (.int .i64 b2), (.int .i64 b3), (.int .i64 b4), (.int .i64 b5), (.string b6)])] w R = coadjutorref39_Distance.vc a0 a1 a2 a3 a4 a5 a6 b0 b1 b2 b3 b4 b5 b6 w R := by kernel_rfl
theorem coadjutorref39_Distance.calls (a0 : Int) (a1 : Int) (a2 : Int) (a3 : Int) (a4 : Int) (a5 : Int) (a6 : ByteArray) (b0 : Int) (b1 : Int) (b2 : Int) (b3 : Int) (b4 : Int) (b5 : Int) (b6 : ByteArray) {w : World} {R : Value → World → Prop} (h : coadjutorref39_Distance.vc a0 a1 a2 a3 a4 a5 a6 b0 b1 b2 b3 b4 b5 b6 w R) : Calls Tryd.prog 14 #[(.agg #[(.int .i64 a0), (.int .i64 a1), (.int .i64 a2), (.int .i64 a3), (.int .i64 a4), (.int .i64 a5), (.string a6)]), (.agg #[(.int .i64 b0), (.int .i64 b1), (.int .i64 b2), (.int .i64 b3), (.int .i64 b4), (.int .i64 b5), (.string b6)])] w (Ret R) :=
  calls_V fit Tryd.func14 (.lp [(5, some (.int .i64)), (6, some (.int .i64)), (7, none), (8, none), (9, none), (10, none), (11, none), (12, none), (13, none), (14, none), (15, none), (16, none), (17, none), (18, none), (19, none), (20, none), (21, none), (22, none), (23, none), (24, none), (25, none), (26, none)] (.c (.tk 0 (.tk 1 (.tk 2 (.tk 3 (.tk 4 (.tk 6 (.tk 7 (.tk 8 (.tk 9 (.alt 5 (.alt 10 (.alt 11 (.tk 12 (.tk 13 (.fin .nil))) .nil) .nil) .nil)))))))))) .nil)) (by rw [show (#[(.agg #[(.int .i64 a0), (.int .i64 a1), (.int .i64 a2), (.int .i64 a3), (.int .i64 a4), (.int .i64 a5), (.string a6)]), (.agg #[(.int .i64 b0), (.int .i64 b1), (.int .i64 b2), (.int .i64 b3), (.int .i64 b4), (.int .i64 b5), (.string b6)])] : Array Value).toList = [(.agg #[(.int .i64 a0), (.int .i64 a1), (.int .i64 a2), (.int .i64 a3), (.int .i64 a4), (.int .i64 a5), (.string a6)]), (.agg #[(.int .i64 b0), (.int .i64 b1), (.int .i64 b2), (.int .i64 b3), (.int .i64 b4), (.int .i64 b5), (.string b6)])] from rfl, coadjutorref39_Distance.vc_eq]; exact h)
/-- function 16 -/
def coadjutorref39_Blend.vc (a0 : Int) (a1 : Int) (a2 : Int) (a3 : Int) (a4 : Int) (a5 : Int) (a6 : ByteArray) (b0 : Int) (b1 : Int) (b2 : Int) (b3 : Int) (b4 : Int) (b5 : Int) (b6 : ByteArray) (num : Int) (den : Int) (w : World) (R : Value → World → Prop) : Prop :=
  ∀ w1 : World, w1 = w.alloc (.cells #[(.int .i64 a0), (.int .i64 a1), (.int .i64 a2), (.int .i64 a3), (.int .i64 a4), (.int .i64 a5), (.string a6)] 36 (0, 0)) →
  ∀ w2 : World, w2 = w1.alloc (.cells #[(.int .i64 b0), (.int .i64 b1), (.int .i64 b2), (.int .i64 b3), (.int .i64 b4), (.int .i64 b5), (.string b6)] 36 (0, 0)) →
  ∀ w3 : World, w3 = w2.alloc (.cells #[] 5 (0, 0)) →
  ∃ vI : Option Addr → Nat → Nat → Int → Nat → World → Prop, (∃ vk_2 : Nat, vI (some (⟨w2.heap.size, 0, none⟩ : Addr)) 0 0 0 vk_2 w3) ∧
  ∀ (jk : Nat → Value) (outA : Option Addr) (outN : Nat) (outC : Nat) (i : Int), ∀ (vk : Nat) (w4 : World), vI outA outN outC i vk w4 →
  ∃ (x15 : ByteArray), w4.cell? (⟨w.heap.size, 6, none⟩ : Addr) = some (.string x15) ∧
  (decide (i < ((x15.size : Nat) : Int)) = true →
  ∃ (x21 : ByteArray), w4.cell? (⟨w.heap.size, 6, none⟩ : Addr) = some (.string x21) ∧
  (0 ≤ i ∧ i < ((x21.size : Nat) : Int)) ∧
  Calls Tryd.prog 30 #[(.int .u8 (bt x21 i))] w4 (Ret fun v w5 => ∃ (x24 : Int), v = (.int .i64 x24) ∧
  ∃ (x29 : ByteArray), w5.cell? (⟨w1.heap.size, 6, none⟩ : Addr) = some (.string x29) ∧
  (0 ≤ i ∧ i < ((x29.size : Nat) : Int)) ∧
  Calls Tryd.prog 30 #[(.int .u8 (bt x29 i))] w5 (Ret fun v_1 w6 => ∃ (x32 : Int), v_1 = (.int .i64 x32) ∧
  den ≠ 0 ∧
  ∀ w7 : World, w7 = w6.alloc (.cells #[(.int .u8 (IntKind.u8.wrap (IntKind.i64.wrap (x24 + (IntKind.i64.wrap (Int.tdiv (IntKind.i64.wrap (num * (IntKind.i64.wrap (x32 - x24)))) den))))))] 5 (0, 0)) →
  ∃ (x41A : Option Addr), ∃ (x41N : Nat), ∃ (x41C : Nat), ∃ w8 : World, (Builtin.append_ #[51, 51] 51 #[(.slice outA outN outC), (.slice (some (⟨w6.heap.size, 0, none⟩ : Addr)) 1 1)]).run Tryd.prog w7 = .ok (.slice x41A x41N x41C) w8 ∧
  ∃ vk_1 : Nat, vk_1 < vk ∧ vI x41A x41N x41C (IntKind.i64.wrap (i + 1)) vk_1 w8))) ∧
  (decide (i < ((x15.size : Nat) : Int)) = false →
  ∃ (x43 : ByteArray), ∃ w9 : World, (convert 51 9 (.slice outA outN outC)).run Tryd.prog w4 = .ok (.string x43) w9 ∧
  R (.string x43) w9)
theorem coadjutorref39_Blend.vc_eq (a0 : Int) (a1 : Int) (a2 : Int) (a3 : Int) (a4 : Int) (a5 : Int) (a6 : ByteArray) (b0 : Int) (b1 : Int) (b2 : Int) (b3 : Int) (b4 : Int) (b5 : Int) (b6 : ByteArray) (num : Int) (den : Int) (w : World) (R : Value → World → Prop) : fnV Tryd.prog Tryd.f16 (.lp [(9, some (.slice)), (10, some (.int .i64)), (11, none), (13, none), (14, none), (15, none), (16, none), (17, none), (18, none), (19, none), (20, none), (21, none), (22, none), (23, none), (24, none), (25, none), (26, none), (27, none), (28, none), (29, none), (30, none), (31, none), (32, none), (33, none), (34, none), (35, none), (36, none), (37, none), (38, none), (39, none), (40, none), (41, none)] (.c .nil .nil)) [(.agg #[(.int .i64 a0), (.int .i64 a1), (.int .i64 a2), (.int .i64 a3), (.int .i64 a4), (.int .i64 a5), (.string a6)]), (.agg #[(.int .i64 b0), (.int .i64 b1), (.int .i64 b2), (.int .i64 b3), (.int .i64 b4), (.int .i64 b5), (.string b6)]), (.int .i64 num), (.int .i64 den)] w R = coadjutorref39_Blend.vc a0 a1 a2 a3 a4 a5 a6 b0 b1 b2 b3 b4 b5 b6 num den w R := by kernel_rfl
theorem coadjutorref39_Blend.calls (a0 : Int) (a1 : Int) (a2 : Int) (a3 : Int) (a4 : Int) (a5 : Int) (a6 : ByteArray) (b0 : Int) (b1 : Int) (b2 : Int) (b3 : Int) (b4 : Int) (b5 : Int) (b6 : ByteArray) (num : Int) (den : Int) {w : World} {R : Value → World → Prop} (h : coadjutorref39_Blend.vc a0 a1 a2 a3 a4 a5 a6 b0 b1 b2 b3 b4 b5 b6 num den w R) : Calls Tryd.prog 16 #[(.agg #[(.int .i64 a0), (.int .i64 a1), (.int .i64 a2), (.int .i64 a3), (.int .i64 a4), (.int .i64 a5), (.string a6)]), (.agg #[(.int .i64 b0), (.int .i64 b1), (.int .i64 b2), (.int .i64 b3), (.int .i64 b4), (.int .i64 b5), (.string b6)]), (.int .i64 num), (.int .i64 den)] w (Ret R) :=
  calls_V fit Tryd.func16 (.lp [(9, some (.slice)), (10, some (.int .i64)), (11, none), (13, none), (14, none), (15, none), (16, none), (17, none), (18, none), (19, none), (20, none), (21, none), (22, none), (23, none), (24, none), (25, none), (26, none), (27, none), (28, none), (29, none), (30, none), (31, none), (32, none), (33, none), (34, none), (35, none), (36, none), (37, none), (38, none), (39, none), (40, none), (41, none)] (.c .nil .nil)) (by rw [show (#[(.agg #[(.int .i64 a0), (.int .i64 a1), (.int .i64 a2), (.int .i64 a3), (.int .i64 a4), (.int .i64 a5), (.string a6)]), (.agg #[(.int .i64 b0), (.int .i64 b1), (.int .i64 b2), (.int .i64 b3), (.int .i64 b4), (.int .i64 b5), (.string b6)]), (.int .i64 num), (.int .i64 den)] : Array Value).toList = [(.agg #[(.int .i64 a0), (.int .i64 a1), (.int .i64 a2), (.int .i64 a3), (.int .i64 a4), (.int .i64 a5), (.string a6)]), (.agg #[(.int .i64 b0), (.int .i64 b1), (.int .i64 b2), (.int .i64 b3), (.int .i64 b4), (.int .i64 b5), (.string b6)]), (.int .i64 num), (.int .i64 den)] from rfl, coadjutorref39_Blend.vc_eq]; exact h)
/-- function 3 -/
def coadjutorlaw39_LensExact.vc (c0 : Int) (c1 : Int) (c2 : Int) (c3 : Int) (c4 : Int) (c5 : Int) (va : ByteArray) (d0 : Int) (d1 : Int) (d2 : Int) (d3 : Int) (d4 : Int) (d5 : Int) (b : ByteArray) (num : Int) (den : Int) (w : World) (R : Value → World → Prop) : Prop :=
  ∀ w1 : World, w1 = w.alloc (.cells #[(.int .i64 c0), (.int .i64 c1), (.int .i64 c2), (.int .i64 c3), (.int .i64 c4), (.int .i64 c5)] 23 (0, 0)) →
  ∀ w2 : World, w2 = w1.alloc (.cells #[(.int .i64 d0), (.int .i64 d1), (.int .i64 d2), (.int .i64 d3), (.int .i64 d4), (.int .i64 d5)] 23 (0, 0)) →
  Calls Tryd.prog 5 #[] w2 (Ret fun v w3 => ∃ (x34 : Bool), v = (.bool x34) ∧
  ((!x34) = true →
  R (.bool false) w3) ∧
  ((!x34) = false →
  (decide (((va.size : Nat) : Int) > (2048 : Int)) = true →
  R (.bool true) w3) ∧
  (decide (((va.size : Nat) : Int) > (2048 : Int)) = false →
  (decide (((b.size : Nat) : Int) > (2048 : Int)) = true →
  R (.bool true) w3) ∧
  (decide (((b.size : Nat) : Int) > (2048 : Int)) = false →
  ∃ (x450 : Int), ∃ (x451 : Int), ∃ (x452 : Int), ∃ (x453 : Int), ∃ (x454 : Int), ∃ (x455 : Int), (w3.cell? (⟨w.heap.size, 0, none⟩ : Addr) = some (.int .i64 x450) ∧ w3.cell? (⟨w.heap.size, 1, none⟩ : Addr) = some (.int .i64 x451) ∧ w3.cell? (⟨w.heap.size, 2, none⟩ : Addr) = some (.int .i64 x452) ∧ w3.cell? (⟨w.heap.size, 3, none⟩ : Addr) = some (.int .i64 x453) ∧ w3.cell? (⟨w.heap.size, 4, none⟩ : Addr) = some (.int .i64 x454) ∧ w3.cell? (⟨w.heap.size, 5, none⟩ : Addr) = some (.int .i64 x455)) ∧
  Calls Tryd.prog 6 #[(.agg #[(.int .i64 x450), (.int .i64 x451), (.int .i64 x452), (.int .i64 x453), (.int .i64 x454), (.int .i64 x455)]), (.string va)] w3 (Ret fun v_1 w4 => ∃ (x47_0 : Option Addr), ∃ (x47_1 : Int), v_1 = (.tuple #[(.pointer x47_0), (.int .i64 x47_1)]) ∧
  ∃ (x510 : Int), ∃ (x511 : Int), ∃ (x512 : Int), ∃ (x513 : Int), ∃ (x514 : Int), ∃ (x515 : Int), (w4.cell? (⟨w1.heap.size, 0, none⟩ : Addr) = some (.int .i64 x510) ∧ w4.cell? (⟨w1.heap.size, 1, none⟩ : Addr) = some (.int .i64 x511) ∧ w4.cell? (⟨w1.heap.size, 2, none⟩ : Addr) = some (.int .i64 x512) ∧ w4.cell? (⟨w1.heap.size, 3, none⟩ : Addr) = some (.int .i64 x513) ∧ w4.cell? (⟨w1.heap.size, 4, none⟩ : Addr) = some (.int .i64 x514) ∧ w4.cell? (⟨w1.heap.size, 5, none⟩ : Addr) = some (.int .i64 x515)) ∧
  Calls Tryd.prog 6 #[(.agg #[(.int .i64 x510), (.int .i64 x511), (.int .i64 x512), (.int .i64 x513), (.int .i64 x514), (.int .i64 x515)]), (.string b)] w4 (Ret fun v_2 w5 => ∃ (x53_0 : Option Addr), ∃ (x53_1 : Int), v_2 = (.tuple #[(.pointer x53_0), (.int .i64 x53_1)]) ∧
  ((x47_1 != (0 : Int)) = true →
  R (.bool true) w5) ∧
  ((x47_1 != (0 : Int)) = false →
  ((x53_1 != (0 : Int)) = true →
  R (.bool true) w5) ∧
  ((x53_1 != (0 : Int)) = false →
  Calls Tryd.prog 7 #[(.pointer x47_0), (.pointer x53_0)] w5 (Ret fun v_3 w6 => ∃ (x65_0A : Option Addr), ∃ (x65_0N : Nat), ∃ (x65_0C : Nat), ∃ (x65_1 : Int), v_3 = (.tuple #[(.slice x65_0A x65_0N x65_0C), (.int .i64 x65_1)]) ∧
  Calls Tryd.prog 8 #[(.pointer x47_0), (.pointer x53_0)] w6 (Ret fun v_4 w7 => ∃ (x71_0 : Int), ∃ (x71_1 : Int), v_4 = (.tuple #[(.int .i64 x71_0), (.int .i64 x71_1)]) ∧
  Calls Tryd.prog 9 #[(.pointer x47_0), (.pointer x53_0), (.int .i64 num), (.int .i64 den)] w7 (Ret fun v_5 w8 => ∃ (x79_0 : Option Addr), ∃ (x79_1 : Int), v_5 = (.tuple #[(.pointer x79_0), (.int .i64 x79_1)]) ∧
  ∃ (x820 : Int), ∃ (x821 : Int), ∃ (x822 : Int), ∃ (x823 : Int), ∃ (x824 : Int), ∃ (x825 : Int), (w8.cell? (⟨w.heap.size, 0, none⟩ : Addr) = some (.int .i64 x820) ∧ w8.cell? (⟨w.heap.size, 1, none⟩ : Addr) = some (.int .i64 x821) ∧ w8.cell? (⟨w.heap.size, 2, none⟩ : Addr) = some (.int .i64 x822) ∧ w8.cell? (⟨w.heap.size, 3, none⟩ : Addr) = some (.int .i64 x823) ∧ w8.cell? (⟨w.heap.size, 4, none⟩ : Addr) = some (.int .i64 x824) ∧ w8.cell? (⟨w.heap.size, 5, none⟩ : Addr) = some (.int .i64 x825)) ∧
  ∃ (x830 : Int), ∃ (x831 : Int), ∃ (x832 : Int), ∃ (x833 : Int), ∃ (x834 : Int), ∃ (x835 : Int), (w8.cell? (⟨w1.heap.size, 0, none⟩ : Addr) = some (.int .i64 x830) ∧ w8.cell? (⟨w1.heap.size, 1, none⟩ : Addr) = some (.int .i64 x831) ∧ w8.cell? (⟨w1.heap.size, 2, none⟩ : Addr) = some (.int .i64 x832) ∧ w8.cell? (⟨w1.heap.size, 3, none⟩ : Addr) = some (.int .i64 x833) ∧ w8.cell? (⟨w1.heap.size, 4, none⟩ : Addr) = some (.int .i64 x834) ∧ w8.cell? (⟨w1.heap.size, 5, none⟩ : Addr) = some (.int .i64 x835)) ∧
  ((!((x820 == x830) && ((x821 == x831) && ((x822 == x832) && ((x823 == x833) && ((x824 == x834) && ((x825 == x835) && true))))))) = true →
  ((x65_1 == (1 : Int)) = true →
  ((x71_1 == (1 : Int)) = true →
  ((x79_1 == (1 : Int)) = true →
  ((((x65_0N : Nat) : Int) == (0 : Int)) = true →
  ((x71_0 == (0 : Int)) = true →
  R (.bool x79_0.isNone) w8) ∧
  ((x71_0 == (0 : Int)) = false →
  R (.bool false) w8)) ∧
  ((((x65_0N : Nat) : Int) == (0 : Int)) = false →
  R (.bool false) w8)) ∧
  ((x79_1 == (1 : Int)) = false →
  R (.bool false) w8)) ∧
  ((x71_1 == (1 : Int)) = false →
  R (.bool false) w8)) ∧
  ((x65_1 == (1 : Int)) = false →
  R (.bool false) w8)) ∧
  ((!((x820 == x830) && ((x821 == x831) && ((x822 == x832) && ((x823 == x833) && ((x824 == x834) && ((x825 == x835) && true))))))) = false →
  ∃ (x1080 : Int), ∃ (x1081 : Int), ∃ (x1082 : Int), ∃ (x1083 : Int), ∃ (x1084 : Int), ∃ (x1085 : Int), (w8.cell? (⟨w.heap.size, 0, none⟩ : Addr) = some (.int .i64 x1080) ∧ w8.cell? (⟨w.heap.size, 1, none⟩ : Addr) = some (.int .i64 x1081) ∧ w8.cell? (⟨w.heap.size, 2, none⟩ : Addr) = some (.int .i64 x1082) ∧ w8.cell? (⟨w.heap.size, 3, none⟩ : Addr) = some (.int .i64 x1083) ∧ w8.cell? (⟨w.heap.size, 4, none⟩ : Addr) = some (.int .i64 x1084) ∧ w8.cell? (⟨w.heap.size, 5, none⟩ : Addr) = some (.int .i64 x1085)) ∧
  ∀ w9 : World, w9 = w8.alloc (.cells #[(.int .i64 0), (.int .i64 0), (.int .i64 0), (.int .i64 0), (.int .i64 0), (.int .i64 0), (.string ByteArray.empty)] 36 (0, 0)) →
  (((∃ u, w9.cell? (⟨w8.heap.size, 0, none⟩ : Addr) = some u) ∧ w9.frozen? (⟨w8.heap.size, 0, none⟩ : Addr) = false) ∧ ((∃ u, w9.cell? (⟨w8.heap.size, 1, none⟩ : Addr) = some u) ∧ w9.frozen? (⟨w8.heap.size, 1, none⟩ : Addr) = false) ∧ ((∃ u, w9.cell? (⟨w8.heap.size, 2, none⟩ : Addr) = some u) ∧ w9.frozen? (⟨w8.heap.size, 2, none⟩ : Addr) = false) ∧ ((∃ u, w9.cell? (⟨w8.heap.size, 3, none⟩ : Addr) = some u) ∧ w9.frozen? (⟨w8.heap.size, 3, none⟩ : Addr) = false) ∧ ((∃ u, w9.cell? (⟨w8.heap.size, 4, none⟩ : Addr) = some u) ∧ w9.frozen? (⟨w8.heap.size, 4, none⟩ : Addr) = false) ∧ ((∃ u, w9.cell? (⟨w8.heap.size, 5, none⟩ : Addr) = some u) ∧ w9.frozen? (⟨w8.heap.size, 5, none⟩ : Addr) = false) ∧ ((∃ u, w9.cell? (⟨w8.heap.size, 6, none⟩ : Addr) = some u) ∧ w9.frozen? (⟨w8.heap.size, 6, none⟩ : Addr) = false)) ∧ ∀ w10 : World, w10 = (((((((w9.setCell (⟨w8.heap.size, 0, none⟩ : Addr) (.int .i64 x1080)).setCell (⟨w8.heap.size, 1, none⟩ : Addr) (.int .i64 x1081)).setCell (⟨w8.heap.size, 2, none⟩ : Addr) (.int .i64 x1082)).setCell (⟨w8.heap.size, 3, none⟩ : Addr) (.int .i64 x1083)).setCell (⟨w8.heap.size, 4, none⟩ : Addr) (.int .i64 x1084)).setCell (⟨w8.heap.size, 5, none⟩ : Addr) (.int .i64 x1085)).setCell (⟨w8.heap.size, 6, none⟩ : Addr) (.string va)) →
  ∃ (x1110 : Int), ∃ (x1111 : Int), ∃ (x1112 : Int), ∃ (x1113 : Int), ∃ (x1114 : Int), ∃ (x1115 : Int), (w10.cell? (⟨w1.heap.size, 0, none⟩ : Addr) = some (.int .i64 x1110) ∧ w10.cell? (⟨w1.heap.size, 1, none⟩ : Addr) = some (.int .i64 x1111) ∧ w10.cell? (⟨w1.heap.size, 2, none⟩ : Addr) = some (.int .i64 x1112) ∧ w10.cell? (⟨w1.heap.size, 3, none⟩ : Addr) = some (.int .i64 x1113) ∧ w10.cell? (⟨w1.heap.size, 4, none⟩ : Addr) = some (.int .i64 x1114) ∧ w10.cell? (⟨w1.heap.size, 5, none⟩ : Addr) = some (.int .i64 x1115)) ∧
  ∀ w11 : World, w11 = w10.alloc (.cells #[(.int .i64 0), (.int .i64 0), (.int .i64 0), (.int .i64 0), (.int .i64 0), (.int .i64 0), (.string ByteArray.empty)] 36 (0, 0)) →
  (((∃ u, w11.cell? (⟨w10.heap.size, 0, none⟩ : Addr) = some u) ∧ w11.frozen? (⟨w10.heap.size, 0, none⟩ : Addr) = false) ∧ ((∃ u, w11.cell? (⟨w10.heap.size, 1, none⟩ : Addr) = some u) ∧ w11.frozen? (⟨w10.heap.size, 1, none⟩ : Addr) = false) ∧ ((∃ u, w11.cell? (⟨w10.heap.size, 2, none⟩ : Addr) = some u) ∧ w11.frozen? (⟨w10.heap.size, 2, none⟩ : Addr) = false) ∧ ((∃ u, w11.cell? (⟨w10.heap.size, 3, none⟩ : Addr) = some u) ∧ w11.frozen? (⟨w10.heap.size, 3, none⟩ : Addr) = false) ∧ ((∃ u, w11.cell? (⟨w10.heap.size, 4, none⟩ : Addr) = some u) ∧ w11.frozen? (⟨w10.heap.size, 4, none⟩ : Addr) = false) ∧ ((∃ u, w11.cell? (⟨w10.heap.size, 5, none⟩ : Addr) = some u) ∧ w11.frozen? (⟨w10.heap.size, 5, none⟩ : Addr) = false) ∧ ((∃ u, w11.cell? (⟨w10.heap.size, 6, none⟩ : Addr) = some u) ∧ w11.frozen? (⟨w10.heap.size, 6, none⟩ : Addr) = false)) ∧ ∀ w12 : World, w12 = (((((((w11.setCell (⟨w10.heap.size, 0, none⟩ : Addr) (.int .i64 x1110)).setCell (⟨w10.heap.size, 1, none⟩ : Addr) (.int .i64 x1111)).setCell (⟨w10.heap.size, 2, none⟩ : Addr) (.int .i64 x1112)).setCell (⟨w10.heap.size, 3, none⟩ : Addr) (.int .i64 x1113)).setCell (⟨w10.heap.size, 4, none⟩ : Addr) (.int .i64 x1114)).setCell (⟨w10.heap.size, 5, none⟩ : Addr) (.int .i64 x1115)).setCell (⟨w10.heap.size, 6, none⟩ : Addr) (.string b)) →
  ∃ vI : Int → Int → Nat → World → Prop, (∃ vk_2 : Nat, vI 0 (-1) vk_2 w12) ∧
  ∀ (jk : Nat → Value) (vk_3 : Int) (blk : Int), ∀ (vk : Nat) (w13 : World), vI vk_3 blk vk w13 →
  ∃ (x116 : Int), w13.cell? (⟨w.heap.size, 3, none⟩ : Addr) = some (.int .i64 x116) ∧
  (decide (blk ≤ x116) = true →
  ∃ vI_1 : Int → Int → Nat → World → Prop, (∃ vk_6 : Nat, vI_1 vk_3 0 vk_6 w13) ∧
  ∀ (jk : Nat → Value) (vk_7 : Int) (p : Int), ∀ (vk_4 : Nat) (w14 : World), vI_1 vk_7 p vk_4 w14 →
  (decide (p < (12 : Int)) = true →
  ∃ J : Int → World → Prop, (∃ J_1 : World → Prop, ((decide (blk < (0 : Int)) = true →
  (decide (p > (1 : Int)) = true →
  J vk_7 w14) ∧
  (decide (p > (1 : Int)) = false →
  ∃ (x133 : Int), w14.cell? (⟨w.heap.size, 3, none⟩ : Addr) = some (.int .i64 x133) ∧
  ((blk == x133) = true →
  (decide (p < (11 : Int)) = true →
  J vk_7 w14) ∧
  (decide (p < (11 : Int)) = false →
  (decide (blk ≥ (0 : Int)) = true →
  ∃ (x146 : Int), w14.cell? (⟨w.heap.size, 3, none⟩ : Addr) = some (.int .i64 x146) ∧
  (decide (blk < x146) = true →
  (decide (p < (2 : Int)) = true →
  J vk_7 w14) ∧
  (decide (p < (2 : Int)) = false →
  (decide (p > (10 : Int)) = true →
  J vk_7 w14) ∧
  (decide (p > (10 : Int)) = false →
  J_1 w14))) ∧
  (decide (blk < x146) = false →
  J_1 w14)) ∧
  (decide (blk ≥ (0 : Int)) = false →
  J_1 w14))) ∧
  ((blk == x133) = false →
  (decide (blk ≥ (0 : Int)) = true →
  ∃ (x146_1 : Int), w14.cell? (⟨w.heap.size, 3, none⟩ : Addr) = some (.int .i64 x146_1) ∧
  (decide (blk < x146_1) = true →
  (decide (p < (2 : Int)) = true →
  J vk_7 w14) ∧
  (decide (p < (2 : Int)) = false →
  (decide (p > (10 : Int)) = true →
  J vk_7 w14) ∧
  (decide (p > (10 : Int)) = false →
  J_1 w14))) ∧
  (decide (blk < x146_1) = false →
  J_1 w14)) ∧
  (decide (blk ≥ (0 : Int)) = false →
  J_1 w14)))) ∧
  (decide (blk < (0 : Int)) = false →
  ∃ (x133_1 : Int), w14.cell? (⟨w.heap.size, 3, none⟩ : Addr) = some (.int .i64 x133_1) ∧
  ((blk == x133_1) = true →
  (decide (p < (11 : Int)) = true →
  J vk_7 w14) ∧
  (decide (p < (11 : Int)) = false →
  (decide (blk ≥ (0 : Int)) = true →
  ∃ (x146_2 : Int), w14.cell? (⟨w.heap.size, 3, none⟩ : Addr) = some (.int .i64 x146_2) ∧
  (decide (blk < x146_2) = true →
  (decide (p < (2 : Int)) = true →
  J vk_7 w14) ∧
  (decide (p < (2 : Int)) = false →
  (decide (p > (10 : Int)) = true →
  J vk_7 w14) ∧
  (decide (p > (10 : Int)) = false →
  J_1 w14))) ∧
  (decide (blk < x146_2) = false →
  J_1 w14)) ∧
  (decide (blk ≥ (0 : Int)) = false →
  J_1 w14))) ∧
  ((blk == x133_1) = false →
  (decide (blk ≥ (0 : Int)) = true →
  ∃ (x146_3 : Int), w14.cell? (⟨w.heap.size, 3, none⟩ : Addr) = some (.int .i64 x146_3) ∧
  (decide (blk < x146_3) = true →
  (decide (p < (2 : Int)) = true →
  J vk_7 w14) ∧
  (decide (p < (2 : Int)) = false →
  (decide (p > (10 : Int)) = true →
  J vk_7 w14) ∧
  (decide (p > (10 : Int)) = false →
  J_1 w14))) ∧
  (decide (blk < x146_3) = false →
  J_1 w14)) ∧
  (decide (blk ≥ (0 : Int)) = false →
  J_1 w14)))) ∧
  ∀ (jk : Nat → Value), ∀ w15 : World, J_1 w15 →
  ∃ J_2 : Int → World → Prop, ((decide (p < (2 : Int)) = true →
  J_2 0 w15) ∧
  (decide (p < (2 : Int)) = false →
  ((p == (11 : Int)) = true →
  J_2 0 w15) ∧
  ((p == (11 : Int)) = false →
  J_2 blk w15))) ∧
  ∀ (jk : Nat → Value) (vat : Int), ∀ w16 : World, J_2 vat w16 →
  ∃ (x1660 : Int), ∃ (x1661 : Int), ∃ (x1662 : Int), ∃ (x1663 : Int), ∃ (x1664 : Int), ∃ (x1665 : Int), (w16.cell? (⟨w.heap.size, 0, none⟩ : Addr) = some (.int .i64 x1660) ∧ w16.cell? (⟨w.heap.size, 1, none⟩ : Addr) = some (.int .i64 x1661) ∧ w16.cell? (⟨w.heap.size, 2, none⟩ : Addr) = some (.int .i64 x1662) ∧ w16.cell? (⟨w.heap.size, 3, none⟩ : Addr) = some (.int .i64 x1663) ∧ w16.cell? (⟨w.heap.size, 4, none⟩ : Addr) = some (.int .i64 x1664) ∧ w16.cell? (⟨w.heap.size, 5, none⟩ : Addr) = some (.int .i64 x1665)) ∧
  Calls Tryd.prog 10 #[(.agg #[(.int .i64 x1660), (.int .i64 x1661), (.int .i64 x1662), (.int .i64 x1663), (.int .i64 x1664), (.int .i64 x1665)]), (.int .i64 p), (.int .i64 vat)] w16 (Ret fun v_6 w17 => ∃ (x169_0 : Int), ∃ (x169_1 : Int), ∃ (x169_2 : Bool), v_6 = (.tuple #[(.int .i64 x169_0), (.int .i64 x169_1), (.bool x169_2)]) ∧
  ∃ (x1740 : Int), ∃ (x1741 : Int), ∃ (x1742 : Int), ∃ (x1743 : Int), ∃ (x1744 : Int), ∃ (x1745 : Int), ∃ (x1746 : ByteArray), (w17.cell? (⟨w8.heap.size, 0, none⟩ : Addr) = some (.int .i64 x1740) ∧ w17.cell? (⟨w8.heap.size, 1, none⟩ : Addr) = some (.int .i64 x1741) ∧ w17.cell? (⟨w8.heap.size, 2, none⟩ : Addr) = some (.int .i64 x1742) ∧ w17.cell? (⟨w8.heap.size, 3, none⟩ : Addr) = some (.int .i64 x1743) ∧ w17.cell? (⟨w8.heap.size, 4, none⟩ : Addr) = some (.int .i64 x1744) ∧ w17.cell? (⟨w8.heap.size, 5, none⟩ : Addr) = some (.int .i64 x1745) ∧ w17.cell? (⟨w8.heap.size, 6, none⟩ : Addr) = some (.string x1746)) ∧
  ∃ (x1750 : Int), ∃ (x1751 : Int), ∃ (x1752 : Int), ∃ (x1753 : Int), ∃ (x1754 : Int), ∃ (x1755 : Int), ∃ (x1756 : ByteArray), (w17.cell? (⟨w10.heap.size, 0, none⟩ : Addr) = some (.int .i64 x1750) ∧ w17.cell? (⟨w10.heap.size, 1, none⟩ : Addr) = some (.int .i64 x1751) ∧ w17.cell? (⟨w10.heap.size, 2, none⟩ : Addr) = some (.int .i64 x1752) ∧ w17.cell? (⟨w10.heap.size, 3, none⟩ : Addr) = some (.int .i64 x1753) ∧ w17.cell? (⟨w10.heap.size, 4, none⟩ : Addr) = some (.int .i64 x1754) ∧ w17.cell? (⟨w10.heap.size, 5, none⟩ : Addr) = some (.int .i64 x1755) ∧ w17.cell? (⟨w10.heap.size, 6, none⟩ : Addr) = some (.string x1756)) ∧
  Calls Tryd.prog 11 #[(.agg #[(.int .i64 x1740), (.int .i64 x1741), (.int .i64 x1742), (.int .i64 x1743), (.int .i64 x1744), (.int .i64 x1745), (.string x1746)]), (.agg #[(.int .i64 x1750), (.int .i64 x1751), (.int .i64 x1752), (.int .i64 x1753), (.int .i64 x1754), (.int .i64 x1755), (.string x1756)]), (.int .i64 x169_0), (.int .i64 x169_1)] w17 (Ret fun v_7 w18 => ∃ (x178_0 : Int), ∃ (x178_1 : Int), v_7 = (.tuple #[(.int .i64 x178_0), (.int .i64 x178_1)]) ∧
  ((x178_0 == (0 : Int)) = true →
  J vk_7 w18) ∧
  ((x178_0 == (0 : Int)) = false →
  (decide (vk_7 ≥ ((x65_0N : Nat) : Int)) = true →
  R (.bool false) w18) ∧
  (decide (vk_7 ≥ ((x65_0N : Nat) : Int)) = false →
  (0 ≤ vk_7 ∧ vk_7 < ((x65_0N : Nat) : Int)) ∧ someV x65_0A fun p_1 =>
  ∃ (x1910 : Int), ∃ (x1911 : Int), ∃ (x1912 : Int), ∃ (x1913 : Int), (w18.cell? (p_1.add (vk_7.toNat * 4)) = some (.int .i64 x1910) ∧ w18.cell? ((p_1.add (vk_7.toNat * 4)).add 1) = some (.int .i64 x1911) ∧ w18.cell? ((p_1.add (vk_7.toNat * 4)).add 2) = some (.int .i64 x1912) ∧ w18.cell? ((p_1.add (vk_7.toNat * 4)).add 3) = some (.int .i64 x1913)) ∧
  ((!(((x1910 == p) && ((x1911 == vat) && true)) && ((x1912 == x178_0) && ((x1913 == x178_1) && true)))) = true →
  R (.bool false) w18) ∧
  ((!(((x1910 == p) && ((x1911 == vat) && true)) && ((x1912 == x178_0) && ((x1913 == x178_1) && true)))) = false →
  (0 ≤ vk_7 ∧ vk_7 < ((x65_0N : Nat) : Int)) ∧ someV x65_0A fun p_2 =>
  ∃ (x2050 : Int), ∃ (x2051 : Int), (w18.cell? (p_2.add (vk_7.toNat * 4)) = some (.int .i64 x2050) ∧ w18.cell? ((p_2.add (vk_7.toNat * 4)).add 1) = some (.int .i64 x2051)) ∧
  Calls Tryd.prog 12 #[(.agg #[(.int .i64 x2050), (.int .i64 x2051)])] w18 (Ret fun v_8 w19 => ∃ (x206 : ByteArray), v_8 = (.string x206) ∧
  Calls Tryd.prog 13 #[(.int .i64 p), (.int .i64 vat)] w19 (Ret fun v_9 w20 => ∃ (x209 : ByteArray), v_9 = (.string x209) ∧
  ((!(x206.toList == x209.toList)) = true →
  R (.bool false) w20) ∧
  ((!(x206.toList == x209.toList)) = false →
  J (IntKind.i64.wrap (vk_7 + 1)) w20))))))))) ∧
  ∀ (jk : Nat → Value) (vk_8 : Int), ∀ w21 : World, J vk_8 w21 →
  ∃ vk_5 : Nat, vk_5 < vk_4 ∧ vI_1 vk_8 (IntKind.i64.wrap (p + 1)) vk_5 w21) ∧
  (decide (p < (12 : Int)) = false →
  ∃ vk_1 : Nat, vk_1 < vk ∧ vI vk_7 (IntKind.i64.wrap (blk + 1)) vk_1 w14)) ∧
  (decide (blk ≤ x116) = false →
  ((x65_1 != (0 : Int)) = true →
  R (.bool false) w13) ∧
  ((x65_1 != (0 : Int)) = false →
  ((vk_3 != ((x65_0N : Nat) : Int)) = true →
  R (.bool false) w13) ∧
  ((vk_3 != ((x65_0N : Nat) : Int)) = false →
  ((x71_1 != (0 : Int)) = true →
  R (.bool false) w13) ∧
  ((x71_1 != (0 : Int)) = false →
  ∃ (x2280 : Int), ∃ (x2281 : Int), ∃ (x2282 : Int), ∃ (x2283 : Int), ∃ (x2284 : Int), ∃ (x2285 : Int), ∃ (x2286 : ByteArray), (w13.cell? (⟨w8.heap.size, 0, none⟩ : Addr) = some (.int .i64 x2280) ∧ w13.cell? (⟨w8.heap.size, 1, none⟩ : Addr) = some (.int .i64 x2281) ∧ w13.cell? (⟨w8.heap.size, 2, none⟩ : Addr) = some (.int .i64 x2282) ∧ w13.cell? (⟨w8.heap.size, 3, none⟩ : Addr) = some (.int .i64 x2283) ∧ w13.cell? (⟨w8.heap.size, 4, none⟩ : Addr) = some (.int .i64 x2284) ∧ w13.cell? (⟨w8.heap.size, 5, none⟩ : Addr) = some (.int .i64 x2285) ∧ w13.cell? (⟨w8.heap.size, 6, none⟩ : Addr) = some (.string x2286)) ∧
  ∃ (x2290 : Int), ∃ (x2291 : Int), ∃ (x2292 : Int), ∃ (x2293 : Int), ∃ (x2294 : Int), ∃ (x2295 : Int), ∃ (x2296 : ByteArray), (w13.cell? (⟨w10.heap.size, 0, none⟩ : Addr) = some (.int .i64 x2290) ∧ w13.cell? (⟨w10.heap.size, 1, none⟩ : Addr) = some (.int .i64 x2291) ∧ w13.cell? (⟨w10.heap.size, 2, none⟩ : Addr) = some (.int .i64 x2292) ∧ w13.cell? (⟨w10.heap.size, 3, none⟩ : Addr) = some (.int .i64 x2293) ∧ w13.cell? (⟨w10.heap.size, 4, none⟩ : Addr) = some (.int .i64 x2294) ∧ w13.cell? (⟨w10.heap.size, 5, none⟩ : Addr) = some (.int .i64 x2295) ∧ w13.cell? (⟨w10.heap.size, 6, none⟩ : Addr) = some (.string x2296)) ∧
  Calls Tryd.prog 14 #[(.agg #[(.int .i64 x2280), (.int .i64 x2281), (.int .i64 x2282), (.int .i64 x2283), (.int .i64 x2284), (.int .i64 x2285), (.string x2286)]), (.agg #[(.int .i64 x2290), (.int .i64 x2291), (.int .i64 x2292), (.int .i64 x2293), (.int .i64 x2294), (.int .i64 x2295), (.string x2296)])] w13 (Ret fun v_10 w22 => ∃ (x230 : Int), v_10 = (.int .i64 x230) ∧
  ((x71_0 != x230) = true →
  R (.bool false) w22) ∧
  ((x71_0 != x230) = false →
  (decide (den < (1 : Int)) = true →
  (x79_0.isNone = true →
  R (.bool (x79_1 == (1 : Int))) w22) ∧
  (x79_0.isNone = false →
  R (.bool false) w22)) ∧
  (decide (den < (1 : Int)) = false →
  (decide (den > (1000 : Int)) = true →
  (x79_0.isNone = true →
  R (.bool (x79_1 == (1 : Int))) w22) ∧
  (x79_0.isNone = false →
  R (.bool false) w22)) ∧
  (decide (den > (1000 : Int)) = false →
  (decide (num < (0 : Int)) = true →
  (x79_0.isNone = true →
  R (.bool (x79_1 == (1 : Int))) w22) ∧
  (x79_0.isNone = false →
  R (.bool false) w22)) ∧
  (decide (num < (0 : Int)) = false →
  (decide (num > den) = true →
  (x79_0.isNone = true →
  R (.bool (x79_1 == (1 : Int))) w22) ∧
  (x79_0.isNone = false →
  R (.bool false) w22)) ∧
  (decide (num > den) = false →
  ∃ vS : World → Prop, ∀ w23 : World, w23 = w22.drew → vS w23 ∧
  ((x79_1 == (0 : Int)) = true →
  ∃ (x2590 : Int), ∃ (x2591 : Int), ∃ (x2592 : Int), ∃ (x2593 : Int), ∃ (x2594 : Int), ∃ (x2595 : Int), ∃ (x2596 : ByteArray), ((∀ w24, vS w24 → w24.cell? (⟨w8.heap.size, 0, none⟩ : Addr) = some (.int .i64 x2590)) ∧ (∀ w24, vS w24 → w24.cell? (⟨w8.heap.size, 1, none⟩ : Addr) = some (.int .i64 x2591)) ∧ (∀ w24, vS w24 → w24.cell? (⟨w8.heap.size, 2, none⟩ : Addr) = some (.int .i64 x2592)) ∧ (∀ w24, vS w24 → w24.cell? (⟨w8.heap.size, 3, none⟩ : Addr) = some (.int .i64 x2593)) ∧ (∀ w24, vS w24 → w24.cell? (⟨w8.heap.size, 4, none⟩ : Addr) = some (.int .i64 x2594)) ∧ (∀ w24, vS w24 → w24.cell? (⟨w8.heap.size, 5, none⟩ : Addr) = some (.int .i64 x2595)) ∧ (∀ w24, vS w24 → w24.cell? (⟨w8.heap.size, 6, none⟩ : Addr) = some (.string x2596))) ∧
  ∃ (x2600 : Int), ∃ (x2601 : Int), ∃ (x2602 : Int), ∃ (x2603 : Int), ∃ (x2604 : Int), ∃ (x2605 : Int), ∃ (x2606 : ByteArray), ((∀ w25, vS w25 → w25.cell? (⟨w10.heap.size, 0, none⟩ : Addr) = some (.int .i64 x2600)) ∧ (∀ w25, vS w25 → w25.cell? (⟨w10.heap.size, 1, none⟩ : Addr) = some (.int .i64 x2601)) ∧ (∀ w25, vS w25 → w25.cell? (⟨w10.heap.size, 2, none⟩ : Addr) = some (.int .i64 x2602)) ∧ (∀ w25, vS w25 → w25.cell? (⟨w10.heap.size, 3, none⟩ : Addr) = some (.int .i64 x2603)) ∧ (∀ w25, vS w25 → w25.cell? (⟨w10.heap.size, 4, none⟩ : Addr) = some (.int .i64 x2604)) ∧ (∀ w25, vS w25 → w25.cell? (⟨w10.heap.size, 5, none⟩ : Addr) = some (.int .i64 x2605)) ∧ (∀ w25, vS w25 → w25.cell? (⟨w10.heap.size, 6, none⟩ : Addr) = some (.string x2606))) ∧
  Calls Tryd.prog 15 #[(.pointer x79_0)] w23 (Ret fun v_11 w26 => ∃ (x258 : ByteArray), v_11 = (.string x258) ∧
  vS w26 ∧
  Calls Tryd.prog 16 #[(.agg #[(.int .i64 x2590), (.int .i64 x2591), (.int .i64 x2592), (.int .i64 x2593), (.int .i64 x2594), (.int .i64 x2595), (.string x2596)]), (.agg #[(.int .i64 x2600), (.int .i64 x2601), (.int .i64 x2602), (.int .i64 x2603), (.int .i64 x2604), (.int .i64 x2605), (.string x2606)]), (.int .i64 num), (.int .i64 den)] w26 (Ret fun v_12 w27 => ∃ (x263 : ByteArray), v_12 = (.string x263) ∧
  vS w27 ∧
  R (.bool (x258.toList == x263.toList)) w27))) ∧
  ((x79_1 == (0 : Int)) = false →
  R (.bool false) w23)))))))))))))))))))))))
theorem coadjutorlaw39_LensExact.vc_eq (c0 : Int) (c1 : Int) (c2 : Int) (c3 : Int) (c4 : Int) (c5 : Int) (va : ByteArray) (d0 : Int) (d1 : Int) (d2 : Int) (d3 : Int) (d4 : Int) (d5 : Int) (b : ByteArray) (num : Int) (den : Int) (w : World) (R : Value → World → Prop) : fnV Tryd.prog Tryd.f3 (.c .nil (.at_ 3 3 (.k .nil) (.c .nil (.at_ 7 2 (.k .nil) (.c .nil (.c (.at_ 13 2 (.at_ 13 6 (.at_ 13 10 (.at_ 13 15 (.at_ 13 19 .nil .nil) .nil) .nil) .nil) .nil) (.lp [(12, none), (25, some (.int .i64)), (26, some (.int .i64)), (27, none), (28, none), (29, none), (30, none), (31, none), (32, none), (33, none), (114, none), (115, none), (116, none), (117, none), (118, none), (119, none), (120, none), (121, none), (122, none), (123, none), (124, none), (125, none), (126, none), (127, none), (128, none), (129, none), (130, none), (131, none), (132, none), (133, none), (134, none), (135, none), (136, none), (137, none), (138, none), (139, none), (140, none), (141, none), (142, none), (143, none), (144, none), (145, none), (146, none), (147, none), (148, none), (149, none), (150, none), (151, none), (152, none), (153, none), (154, none), (155, none), (156, none), (157, none), (158, none), (159, none), (160, none), (161, none), (162, none), (163, none), (164, none), (165, none), (166, none), (167, none), (168, none), (169, none), (170, none), (171, none), (172, none), (173, none), (174, none), (175, none), (176, none), (177, none), (178, none), (179, none), (180, none), (181, none), (182, none), (183, none), (184, none), (185, none), (186, none), (187, none), (188, none), (189, none), (190, none), (191, none), (192, none), (193, none), (194, none), (195, none), (196, none), (197, none), (198, none), (199, none), (200, none), (201, none), (202, none), (203, none), (204, none), (205, none), (206, none), (207, none), (208, none), (209, none), (210, none), (211, none), (212, none), (213, none)] (.c (.lp [(12, none), (25, some (.int .i64)), (27, some (.int .i64)), (28, none), (29, none), (30, none), (31, none), (32, none), (33, none), (120, none), (121, none), (122, none), (123, none), (124, none), (125, none), (126, none), (127, none), (128, none), (129, none), (130, none), (131, none), (132, none), (133, none), (134, none), (135, none), (136, none), (137, none), (138, none), (139, none), (140, none), (141, none), (142, none), (143, none), (144, none), (145, none), (146, none), (147, none), (148, none), (149, none), (150, none), (151, none), (152, none), (153, none), (154, none), (155, none), (156, none), (157, none), (158, none), (159, none), (160, none), (161, none), (162, none), (163, none), (164, none), (165, none), (166, none), (167, none), (168, none), (169, none), (170, none), (171, none), (172, none), (173, none), (174, none), (175, none), (176, none), (177, none), (178, none), (179, none), (180, none), (181, none), (182, none), (183, none), (184, none), (185, none), (186, none), (187, none), (188, none), (189, none), (190, none), (191, none), (192, none), (193, none), (194, none), (195, none), (196, none), (197, none), (198, none), (199, none), (200, none), (201, none), (202, none), (203, none), (204, none), (205, none), (206, none), (207, none), (208, none), (209, none), (210, none), (211, none), (212, none), (213, none)] (.c (.cut 0 [(12, none), (25, some (.int .i64)), (28, none), (29, none), (30, none), (31, none), (32, none), (33, none), (124, none), (125, none), (126, none), (127, none), (128, none), (129, none), (130, none), (131, none), (132, none), (133, none), (134, none), (135, none), (136, none), (137, none), (138, none), (139, none), (140, none), (141, none), (142, none), (143, none), (144, none), (145, none), (146, none), (147, none), (148, none), (149, none), (150, none), (151, none), (152, none), (153, none), (154, none), (155, none), (156, none), (157, none), (158, none), (159, none), (160, none), (161, none), (162, none), (163, none), (164, none), (165, none), (166, none), (167, none), (168, none), (169, none), (170, none), (171, none), (172, none), (173, none), (174, none), (175, none), (176, none), (177, none), (178, none), (179, none), (180, none), (181, none), (182, none), (183, none), (184, none), (185, none), (186, none), (187, none), (188, none), (189, none), (190, none), (191, none), (192, none), (193, none), (194, none), (195, none), (196, none), (197, none), (198, none), (199, none), (200, none), (201, none), (202, none), (203, none), (204, none), (205, none), (206, none), (207, none), (208, none), (209, none), (210, none), (211, none), (212, none), (213, none)] (.cut 0 [(124, none), (125, none), (126, none), (127, none), (128, none), (129, none), (130, none), (131, none), (132, none), (133, none), (134, none), (135, none), (136, none), (137, none), (138, none), (139, none), (140, none), (141, none), (142, none), (143, none), (144, none), (145, none), (146, none), (147, none), (148, none), (149, none), (150, none), (151, none), (152, none), (153, none), (154, none), (155, none), (156, none), (157, none)] (.at_ 23 2 (.at_ 23 6 (.k .nil) (.at_ 23 11 (.at_ 23 16 (.k .nil) (.at_ 23 19 (.at_ 23 25 (.at_ 23 28 (.k .nil) (.c .nil .nil)) (.k .nil)) (.k .nil))) (.at_ 23 19 (.at_ 23 25 (.at_ 23 28 (.k .nil) (.c .nil .nil)) (.k .nil)) (.k .nil)))) (.at_ 23 11 (.at_ 23 16 (.k .nil) (.at_ 23 19 (.at_ 23 25 (.at_ 23 28 (.k .nil) (.c .nil .nil)) (.k .nil)) (.k .nil))) (.at_ 23 19 (.at_ 23 25 (.at_ 23 28 (.k .nil) (.c .nil .nil)) (.k .nil)) (.k .nil)))) (.cut 1 [(28, some (.int .i64)), (159, none), (160, none), (161, none), (162, none), (163, none), (164, none)] (.at_ 25 2 (.k .nil) (.c .nil .nil)) (.c .nil (.at_ 30 4 (.k .nil) (.at_ 30 17 (.k .nil) (.c .nil .nil)))))) .nil) .nil)) (.at_ 33 2 (.k .nil) (.at_ 33 8 (.k .nil) (.at_ 33 12 (.k .nil) (.c .nil (.at_ 35 2 (.k (.at_ 36 2 .nil .nil)) (.at_ 35 6 (.k (.at_ 36 2 .nil .nil)) (.at_ 35 10 (.k (.at_ 36 2 .nil .nil)) (.c (.at_ 36 2 .nil .nil) (.tk 0 (.tk 1 (.tks 2 (.tk 3 (.tk 5 (.tk 6 (.tk 7 (.tk 8 (.alt 4 (.alt 9 (.tk 10 (.tk 11 (.tk 12 (.fin .nil)))) .nil) .nil)))))) (.tk 3 (.tk 4 (.tk 5 (.tk 6 (.tk 7 (.tk 8 (.tk 9 (.tk 10 (.tk 11 (.tk 12 (.fin .nil)))))))))))))))))))))))))))))) [(.agg #[(.int .i64 c0), (.int .i64 c1), (.int .i64 c2), (.int .i64 c3), (.int .i64 c4), (.int .i64 c5)]), (.string va), (.agg #[(.int .i64 d0), (.int .i64 d1), (.int .i64 d2), (.int .i64 d3), (.int .i64 d4), (.int .i64 d5)]), (.string b), (.int .i64 num), (.int .i64 den)] w R = coadjutorlaw39_LensExact.vc c0 c1 c2 c3 c4 c5 va d0 d1 d2 d3 d4 d5 b num den w R := by kernel_rfl
theorem coadjutorlaw39_LensExact.calls (c0 : Int) (c1 : Int) (c2 : Int) (c3 : Int) (c4 : Int) (c5 : Int) (va : ByteArray) (d0 : Int) (d1 : Int) (d2 : Int) (d3 : Int) (d4 : Int) (d5 : Int) (b : ByteArray) (num : Int) (den : Int) {w : World} {R : Value → World → Prop} (h : coadjutorlaw39_LensExact.vc c0 c1 c2 c3 c4 c5 va d0 d1 d2 d3 d4 d5 b num den w R) : Calls Tryd.prog 3 #[(.agg #[(.int .i64 c0), (.int .i64 c1), (.int .i64 c2), (.int .i64 c3), (.int .i64 c4), (.int .i64 c5)]), (.string va), (.agg #[(.int .i64 d0), (.int .i64 d1), (.int .i64 d2), (.int .i64 d3), (.int .i64 d4), (.int .i64 d5)]), (.string b), (.int .i64 num), (.int .i64 den)] w (Ret R) :=
  calls_V fit Tryd.func3 (.c .nil (.at_ 3 3 (.k .nil) (.c .nil (.at_ 7 2 (.k .nil) (.c .nil (.c (.at_ 13 2 (.at_ 13 6 (.at_ 13 10 (.at_ 13 15 (.at_ 13 19 .nil .nil) .nil) .nil) .nil) .nil) (.lp [(12, none), (25, some (.int .i64)), (26, some (.int .i64)), (27, none), (28, none), (29, none), (30, none), (31, none), (32, none), (33, none), (114, none), (115, none), (116, none), (117, none), (118, none), (119, none), (120, none), (121, none), (122, none), (123, none), (124, none), (125, none), (126, none), (127, none), (128, none), (129, none), (130, none), (131, none), (132, none), (133, none), (134, none), (135, none), (136, none), (137, none), (138, none), (139, none), (140, none), (141, none), (142, none), (143, none), (144, none), (145, none), (146, none), (147, none), (148, none), (149, none), (150, none), (151, none), (152, none), (153, none), (154, none), (155, none), (156, none), (157, none), (158, none), (159, none), (160, none), (161, none), (162, none), (163, none), (164, none), (165, none), (166, none), (167, none), (168, none), (169, none), (170, none), (171, none), (172, none), (173, none), (174, none), (175, none), (176, none), (177, none), (178, none), (179, none), (180, none), (181, none), (182, none), (183, none), (184, none), (185, none), (186, none), (187, none), (188, none), (189, none), (190, none), (191, none), (192, none), (193, none), (194, none), (195, none), (196, none), (197, none), (198, none), (199, none), (200, none), (201, none), (202, none), (203, none), (204, none), (205, none), (206, none), (207, none), (208, none), (209, none), (210, none), (211, none), (212, none), (213, none)] (.c (.lp [(12, none), (25, some (.int .i64)), (27, some (.int .i64)), (28, none), (29, none), (30, none), (31, none), (32, none), (33, none), (120, none), (121, none), (122, none), (123, none), (124, none), (125, none), (126, none), (127, none), (128, none), (129, none), (130, none), (131, none), (132, none), (133, none), (134, none), (135, none), (136, none), (137, none), (138, none), (139, none), (140, none), (141, none), (142, none), (143, none), (144, none), (145, none), (146, none), (147, none), (148, none), (149, none), (150, none), (151, none), (152, none), (153, none), (154, none), (155, none), (156, none), (157, none), (158, none), (159, none), (160, none), (161, none), (162, none), (163, none), (164, none), (165, none), (166, none), (167, none), (168, none), (169, none), (170, none), (171, none), (172, none), (173, none), (174, none), (175, none), (176, none), (177, none), (178, none), (179, none), (180, none), (181, none), (182, none), (183, none), (184, none), (185, none), (186, none), (187, none), (188, none), (189, none), (190, none), (191, none), (192, none), (193, none), (194, none), (195, none), (196, none), (197, none), (198, none), (199, none), (200, none), (201, none), (202, none), (203, none), (204, none), (205, none), (206, none), (207, none), (208, none), (209, none), (210, none), (211, none), (212, none), (213, none)] (.c (.cut 0 [(12, none), (25, some (.int .i64)), (28, none), (29, none), (30, none), (31, none), (32, none), (33, none), (124, none), (125, none), (126, none), (127, none), (128, none), (129, none), (130, none), (131, none), (132, none), (133, none), (134, none), (135, none), (136, none), (137, none), (138, none), (139, none), (140, none), (141, none), (142, none), (143, none), (144, none), (145, none), (146, none), (147, none), (148, none), (149, none), (150, none), (151, none), (152, none), (153, none), (154, none), (155, none), (156, none), (157, none), (158, none), (159, none), (160, none), (161, none), (162, none), (163, none), (164, none), (165, none), (166, none), (167, none), (168, none), (169, none), (170, none), (171, none), (172, none), (173, none), (174, none), (175, none), (176, none), (177, none), (178, none), (179, none), (180, none), (181, none), (182, none), (183, none), (184, none), (185, none), (186, none), (187, none), (188, none), (189, none), (190, none), (191, none), (192, none), (193, none), (194, none), (195, none), (196, none), (197, none), (198, none), (199, none), (200, none), (201, none), (202, none), (203, none), (204, none), (205, none), (206, none), (207, none), (208, none), (209, none), (210, none), (211, none), (212, none), (213, none)] (.cut 0 [(124, none), (125, none), (126, none), (127, none), (128, none), (129, none), (130, none), (131, none), (132, none), (133, none), (134, none), (135, none), (136, none), (137, none), (138, none), (139, none), (140, none), (141, none), (142, none), (143, none), (144, none), (145, none), (146, none), (147, none), (148, none), (149, none), (150, none), (151, none), (152, none), (153, none), (154, none), (155, none), (156, none), (157, none)] (.at_ 23 2 (.at_ 23 6 (.k .nil) (.at_ 23 11 (.at_ 23 16 (.k .nil) (.at_ 23 19 (.at_ 23 25 (.at_ 23 28 (.k .nil) (.c .nil .nil)) (.k .nil)) (.k .nil))) (.at_ 23 19 (.at_ 23 25 (.at_ 23 28 (.k .nil) (.c .nil .nil)) (.k .nil)) (.k .nil)))) (.at_ 23 11 (.at_ 23 16 (.k .nil) (.at_ 23 19 (.at_ 23 25 (.at_ 23 28 (.k .nil) (.c .nil .nil)) (.k .nil)) (.k .nil))) (.at_ 23 19 (.at_ 23 25 (.at_ 23 28 (.k .nil) (.c .nil .nil)) (.k .nil)) (.k .nil)))) (.cut 1 [(28, some (.int .i64)), (159, none), (160, none), (161, none), (162, none), (163, none), (164, none)] (.at_ 25 2 (.k .nil) (.c .nil .nil)) (.c .nil (.at_ 30 4 (.k .nil) (.at_ 30 17 (.k .nil) (.c .nil .nil)))))) .nil) .nil)) (.at_ 33 2 (.k .nil) (.at_ 33 8 (.k .nil) (.at_ 33 12 (.k .nil) (.c .nil (.at_ 35 2 (.k (.at_ 36 2 .nil .nil)) (.at_ 35 6 (.k (.at_ 36 2 .nil .nil)) (.at_ 35 10 (.k (.at_ 36 2 .nil .nil)) (.c (.at_ 36 2 .nil .nil) (.tk 0 (.tk 1 (.tks 2 (.tk 3 (.tk 5 (.tk 6 (.tk 7 (.tk 8 (.alt 4 (.alt 9 (.tk 10 (.tk 11 (.tk 12 (.fin .nil)))) .nil) .nil)))))) (.tk 3 (.tk 4 (.tk 5 (.tk 6 (.tk 7 (.tk 8 (.tk 9 (.tk 10 (.tk 11 (.tk 12 (.fin .nil)))))))))))))))))))))))))))))) (by rw [show (#[(.agg #[(.int .i64 c0), (.int .i64 c1), (.int .i64 c2), (.int .i64 c3), (.int .i64 c4), (.int .i64 c5)]), (.string va), (.agg #[(.int .i64 d0), (.int .i64 d1), (.int .i64 d2), (.int .i64 d3), (.int .i64 d4), (.int .i64 d5)]), (.string b), (.int .i64 num), (.int .i64 den)] : Array Value).toList = [(.agg #[(.int .i64 c0), (.int .i64 c1), (.int .i64 c2), (.int .i64 c3), (.int .i64 c4), (.int .i64 c5)]), (.string va), (.agg #[(.int .i64 d0), (.int .i64 d1), (.int .i64 d2), (.int .i64 d3), (.int .i64 d4), (.int .i64 d5)]), (.string b), (.int .i64 num), (.int .i64 den)] from rfl, coadjutorlaw39_LensExact.vc_eq]; exact h)
end Go.Proofs.YtbadkcnemcnhfaaDoor.Vc
