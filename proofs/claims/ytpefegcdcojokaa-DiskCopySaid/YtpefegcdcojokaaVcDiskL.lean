import Derived.Test.YtpefegcdcojokaaVc
import Derived.Test.YtpefegcdcojokaaH
import Derived.Test.YtpefegcdcojokaaProg
import Derived.KernelRfl
set_option linter.unusedVariables false
set_option maxRecDepth 100000
namespace Go.Proofs.Ytpefegcdcojokaa.Vc
open Go Go.Proofs Go.Proofs.Ytpefegcdcojokaa.V
/-- function 12 -/
def coadjutorlaw04_of.vc (b : Int) (w : World) (R : Value → World → Prop) : Prop :=
  ((32 : Int) = (32 : Int) ∧ 0 ≤ (32 : Int) ∧ (32 : Int) * (1 : Int) ≤ 140737488355328) ∧ ∀ w1 : World, w1 = w.alloc (.cells (zeroRow [(.int .u8 0)] (32 : Int).toNat).toArray 5 (0, 0)) →
  ∃ vI : Int → Nat → World → Prop, (∃ vk_2 : Nat, vI 0 vk_2 w1) ∧
  ∀ (jk : Nat → Value) (i : Int), ∀ (vk : Nat) (w2 : World), vI i vk w2 →
  (decide (i < (((32 : Int).toNat : Nat) : Int)) = true →
  (0 ≤ i ∧ i < (((32 : Int).toNat : Nat) : Int)) ∧
  (((∃ u, w2.cell? ((⟨w.heap.size, 0, none⟩ : Addr).add (i.toNat * 1)) = some u) ∧ w2.frozen? ((⟨w.heap.size, 0, none⟩ : Addr).add (i.toNat * 1)) = false)) ∧ ∀ w3 : World, w3 = (w2.setCell ((⟨w.heap.size, 0, none⟩ : Addr).add (i.toNat * 1)) (.int .u8 b)) →
  ∃ vk_1 : Nat, vk_1 < vk ∧ vI (IntKind.i64.wrap (i + 1)) vk_1 w3) ∧
  (decide (i < (((32 : Int).toNat : Nat) : Int)) = false →
  ∃ (x17 : ByteArray), ∃ w4 : World, (convert 22 9 (.slice (some (⟨w.heap.size, 0, none⟩ : Addr)) ((32 : Int).toNat) ((32 : Int).toNat))).run Try.prog w2 = .ok (.string x17) w4 ∧
  R (.string x17) w4)
theorem coadjutorlaw04_of.vc_eq (b : Int) (w : World) (R : Value → World → Prop) : fnV Try.prog Try.f12 (.lp [(4, some (.int .i64)), (6, none), (7, none), (8, none), (9, none), (10, none), (11, none), (12, none), (13, none), (14, none), (15, none)] (.c .nil .nil)) [(.int .u8 b)] w R = coadjutorlaw04_of.vc b w R := by kernel_rfl
theorem coadjutorlaw04_of.calls (b : Int) {w : World} {R : Value → World → Prop} (h : coadjutorlaw04_of.vc b w R) : Calls Try.prog 12 #[(.int .u8 b)] w (Ret R) :=
  calls_V fit Try.func12 (.lp [(4, some (.int .i64)), (6, none), (7, none), (8, none), (9, none), (10, none), (11, none), (12, none), (13, none), (14, none), (15, none)] (.c .nil .nil)) (by rw [show (#[(.int .u8 b)] : Array Value).toList = [(.int .u8 b)] from rfl, coadjutorlaw04_of.vc_eq]; exact h)
/-- function 8 -/
def coadjutorlaw04_awake.vc (w : World) (R : Value → World → Prop) : Prop :=
  Calls Try.prog 9 #[(.int .i64 3)] w (Ret fun v w1 => ∃ (x8 : Option Addr), v = (.pointer x8) ∧
  (x8.isNone = true →
  R (.bool false) w1) ∧
  (x8.isNone = false →
  Calls Try.prog 12 #[(.int .u8 97)] w1 (Ret fun v_1 w2 => ∃ (x12 : ByteArray), v_1 = (.string x12) ∧
  Calls Try.prog 11 #[(.pointer x8), (.int .i64 0), (.string x12)] w2 (Ret fun v_2 w3 => ∃ (x13 : Int), v_2 = (.int .i64 x13) ∧
  Calls Try.prog 12 #[(.int .u8 98)] w3 (Ret fun v_3 w4 => ∃ (x15 : ByteArray), v_3 = (.string x15) ∧
  Calls Try.prog 11 #[(.pointer x8), (.int .i64 1), (.string x15)] w4 (Ret fun v_4 w5 => ∃ (x16 : Int), v_4 = (.int .i64 x16) ∧
  Calls Try.prog 16 #[(.pointer x8)] w5 (Ret fun v_5 w6 => ∃ (x18 : Int), v_5 = (.int .i64 x18) ∧
  ∀ w7 : World, w7 = w6.alloc (.cells #[(.bool false), (.bool true)] 4 (0, 0)) →
  Calls Try.prog 13 #[(.pointer x8), (.slice (some (⟨w6.heap.size, 0, none⟩ : Addr)) 2 2)] w7 (Ret fun v_6 w8 => v_6 = .tuple #[] ∧
  Calls Try.prog 21 #[(.pointer x8)] w8 (Ret fun v_7 w9 => ∃ (x23 : Bool), v_7 = (.bool x23) ∧
  Calls Try.prog 14 #[(.pointer x8)] w9 (Ret fun v_8 w10 => v_8 = .tuple #[] ∧
  Calls Try.prog 15 #[(.pointer x8), (.int .i64 1)] w10 (Ret fun v_9 w11 => ∃ (x28_0 : ByteArray), ∃ (x28_1 : Int), v_9 = (.tuple #[(.string x28_0), (.int .i64 x28_1)]) ∧
  ((x13 == (0 : Int)) = true →
  ((x16 == (0 : Int)) = true →
  ((x18 == (2 : Int)) = true →
  ((!x23) = true →
  ((x28_1 == (0 : Int)) = true →
  Calls Try.prog 12 #[(.int .u8 98)] w11 (Ret fun v_10 w12 => ∃ (x51 : ByteArray), v_10 = (.string x51) ∧
  ((x28_0.toList == x51.toList) = true →
  Calls Try.prog 18 #[(.pointer x8)] w12 (Ret fun v_11 w13 => ∃ (x56 : ByteArray), v_11 = (.string x56) ∧
  Calls Try.prog 12 #[(.int .u8 0)] w13 (Ret fun v_12 w14 => ∃ (x57 : ByteArray), v_12 = (.string x57) ∧
  Calls Try.prog 12 #[(.int .u8 98)] w14 (Ret fun v_13 w15 => ∃ (x58 : ByteArray), v_13 = (.string x58) ∧
  ((x57.size + x58.size : Nat) : Int) ≤ 9223372036854775807 ∧
  Calls Try.prog 12 #[(.int .u8 0)] w15 (Ret fun v_14 w16 => ∃ (x60 : ByteArray), v_14 = (.string x60) ∧
  (((x57 ++ x58).size + x60.size : Nat) : Int) ≤ 9223372036854775807 ∧
  ((x56.toList == ((x57 ++ x58) ++ x60).toList) = true →
  Calls Try.prog 19 #[(.pointer x8)] w16 (Ret fun v_15 w17 => ∃ (x66 : Int), v_15 = (.int .i64 x66) ∧
  ((x66 == (3 : Int)) = true →
  Calls Try.prog 22 #[(.pointer x8)] w17 (Ret fun v_16 w18 => ∃ (x71 : Int), v_16 = (.int .i64 x71) ∧
  R (.bool (x71 == (2 : Int))) w18)) ∧
  ((x66 == (3 : Int)) = false →
  R (.bool false) w17))) ∧
  ((x56.toList == ((x57 ++ x58) ++ x60).toList) = false →
  R (.bool false) w16)))))) ∧
  ((x28_0.toList == x51.toList) = false →
  R (.bool false) w12))) ∧
  ((x28_1 == (0 : Int)) = false →
  R (.bool false) w11)) ∧
  ((!x23) = false →
  R (.bool false) w11)) ∧
  ((x18 == (2 : Int)) = false →
  R (.bool false) w11)) ∧
  ((x16 == (0 : Int)) = false →
  R (.bool false) w11)) ∧
  ((x13 == (0 : Int)) = false →
  R (.bool false) w11))))))))))))
theorem coadjutorlaw04_awake.vc_eq (w : World) (R : Value → World → Prop) : fnV Try.prog Try.f8 (.c .nil (.at_ 11 2 (.at_ 11 6 (.at_ 11 10 (.at_ 11 14 (.at_ 11 18 (.at_ 11 23 (.at_ 11 33 (.at_ 11 38 .nil .nil) .nil) .nil) .nil) .nil) .nil) .nil) .nil)) [] w R = coadjutorlaw04_awake.vc  w R := by kernel_rfl
theorem coadjutorlaw04_awake.calls {w : World} {R : Value → World → Prop} (h : coadjutorlaw04_awake.vc  w R) : Calls Try.prog 8 #[] w (Ret R) :=
  calls_V fit Try.func8 (.c .nil (.at_ 11 2 (.at_ 11 6 (.at_ 11 10 (.at_ 11 14 (.at_ 11 18 (.at_ 11 23 (.at_ 11 33 (.at_ 11 38 .nil .nil) .nil) .nil) .nil) .nil) .nil) .nil) .nil)) (by rw [show (#[] : Array Value).toList = [] from rfl, coadjutorlaw04_awake.vc_eq]; exact h)
/-- function 5 -/
def coadjutorlaw04_DiskFuse.vc (listA : Option Addr) (listN : Nat) (listC : Nat) (fuse : Int) (w : World) (R : Value → World → Prop) : Prop :=
  Calls Try.prog 8 #[] w (Ret fun v w1 => ∃ (x9 : Bool), v = (.bool x9) ∧
  ((!x9) = true →
  R (.bool false) w1) ∧
  ((!x9) = false →
  Calls Try.prog 9 #[(.int .i64 4)] w1 (Ret fun v_1 w2 => ∃ (x11 : Option Addr), v_1 = (.pointer x11) ∧
  (31 : Int) ≠ 0 ∧
  ∀ w3 : World, w3 = w2.alloc (.cells #[(.bool true), (.bool true), (.bool true), (.bool true), (.bool true), (.bool true), (.bool true), (.bool true), (.bool true), (.bool true)] 4 (0, 0)) →
  Calls Try.prog 20 #[(.pointer x11), (.int .i64 (IntKind.i64.wrap (Int.tmod (IntKind.u64.wrap fuse) 31))), (.slice (some (⟨w2.heap.size, 0, none⟩ : Addr)) 10 10)] w3 (Ret fun v_2 w4 => v_2 = .tuple #[] ∧
  ∃ vI : Int → Nat → World → Prop, (∃ vk_2 : Nat, vI 0 vk_2 w4) ∧
  ∀ (jk : Nat → Value) (i : Int), ∀ (vk : Nat) (w5 : World), vI i vk w5 →
  (decide (i < ((listN : Nat) : Int)) = true →
  (decide (i < (30 : Int)) = true →
  (0 ≤ i ∧ i < ((listN : Nat) : Int)) ∧ someV listA fun p =>
  ∃ (x33 : Int), w5.cell? (p.add (i.toNat * 1)) = some (.int .u8 x33) ∧
  (5 : Int) ≠ 0 ∧
  (((Int.tmod x33 5) == (0 : Int)) = true →
  Calls Try.prog 10 #[(.pointer x11)] w5 (Ret fun v_3 w6 => ∃ (x37 : Int), v_3 = (.int .i64 x37) ∧
  ((!((x37 == (0 : Int)) == (decide (i < (IntKind.i64.wrap (Int.tmod (IntKind.u64.wrap fuse) 31)))))) = true →
  R (.bool false) w6) ∧
  ((!((x37 == (0 : Int)) == (decide (i < (IntKind.i64.wrap (Int.tmod (IntKind.u64.wrap fuse) 31)))))) = false →
  ((x37 != (0 : Int)) = true →
  ((x37 != (4 : Int)) = true →
  R (.bool false) w6) ∧
  ((x37 != (4 : Int)) = false →
  Calls Try.prog 21 #[(.pointer x11)] w6 (Ret fun v_4 w7 => ∃ (x67 : Bool), v_4 = (.bool x67) ∧
  ((!(x67 == (decide (i < (IntKind.i64.wrap (Int.tmod (IntKind.u64.wrap fuse) 31)))))) = true →
  R (.bool false) w7) ∧
  ((!(x67 == (decide (i < (IntKind.i64.wrap (Int.tmod (IntKind.u64.wrap fuse) 31)))))) = false →
  ∃ vk_1 : Nat, vk_1 < vk ∧ vI (IntKind.i64.wrap (i + 1)) vk_1 w7)))) ∧
  ((x37 != (0 : Int)) = false →
  Calls Try.prog 21 #[(.pointer x11)] w6 (Ret fun v_5 w8 => ∃ (x67_1 : Bool), v_5 = (.bool x67_1) ∧
  ((!(x67_1 == (decide (i < (IntKind.i64.wrap (Int.tmod (IntKind.u64.wrap fuse) 31)))))) = true →
  R (.bool false) w8) ∧
  ((!(x67_1 == (decide (i < (IntKind.i64.wrap (Int.tmod (IntKind.u64.wrap fuse) 31)))))) = false →
  ∃ vk_1 : Nat, vk_1 < vk ∧ vI (IntKind.i64.wrap (i + 1)) vk_1 w8)))))) ∧
  (((Int.tmod x33 5) == (0 : Int)) = false →
  ∃ vS : World → Prop, ∀ w9 : World, w9 = w5.drew → vS w9 ∧
  (0 ≤ i ∧ i < ((listN : Nat) : Int)) ∧ someV listA fun p_1 =>
  ∃ (x42 : Int), (∀ w10, vS w10 → w10.cell? (p_1.add (i.toNat * 1)) = some (.int .u8 x42)) ∧
  (4 : Int) ≠ 0 ∧
  (0 ≤ i ∧ i < ((listN : Nat) : Int)) ∧ someV listA fun p_2 =>
  ∃ (x48 : Int), (∀ w11, vS w11 → w11.cell? (p_2.add (i.toNat * 1)) = some (.int .u8 x48)) ∧
  Calls Try.prog 12 #[(.int .u8 x48)] w9 (Ret fun v_6 w12 => ∃ (x49 : ByteArray), v_6 = (.string x49) ∧
  vS w12 ∧
  Calls Try.prog 11 #[(.pointer x11), (.int .i64 (IntKind.i64.wrap (Int.tmod x42 4))), (.string x49)] w12 (Ret fun v_7 w13 => ∃ (x50 : Int), v_7 = (.int .i64 x50) ∧
  vS w13 ∧
  ((!((x50 == (0 : Int)) == (decide (i < (IntKind.i64.wrap (Int.tmod (IntKind.u64.wrap fuse) 31)))))) = true →
  R (.bool false) w13) ∧
  ((!((x50 == (0 : Int)) == (decide (i < (IntKind.i64.wrap (Int.tmod (IntKind.u64.wrap fuse) 31)))))) = false →
  ((x50 != (0 : Int)) = true →
  ((x50 != (4 : Int)) = true →
  R (.bool false) w13) ∧
  ((x50 != (4 : Int)) = false →
  Calls Try.prog 21 #[(.pointer x11)] w13 (Ret fun v_8 w14 => ∃ (x67_2 : Bool), v_8 = (.bool x67_2) ∧
  ((!(x67_2 == (decide (i < (IntKind.i64.wrap (Int.tmod (IntKind.u64.wrap fuse) 31)))))) = true →
  R (.bool false) w14) ∧
  ((!(x67_2 == (decide (i < (IntKind.i64.wrap (Int.tmod (IntKind.u64.wrap fuse) 31)))))) = false →
  ∃ vk_1 : Nat, vk_1 < vk ∧ vI (IntKind.i64.wrap (i + 1)) vk_1 w14)))) ∧
  ((x50 != (0 : Int)) = false →
  Calls Try.prog 21 #[(.pointer x11)] w13 (Ret fun v_9 w15 => ∃ (x67_3 : Bool), v_9 = (.bool x67_3) ∧
  ((!(x67_3 == (decide (i < (IntKind.i64.wrap (Int.tmod (IntKind.u64.wrap fuse) 31)))))) = true →
  R (.bool false) w15) ∧
  ((!(x67_3 == (decide (i < (IntKind.i64.wrap (Int.tmod (IntKind.u64.wrap fuse) 31)))))) = false →
  ∃ vk_1 : Nat, vk_1 < vk ∧ vI (IntKind.i64.wrap (i + 1)) vk_1 w15)))))))) ∧
  (decide (i < (30 : Int)) = false →
  Calls Try.prog 22 #[(.pointer x11)] w5 (Ret fun v_10 w16 => ∃ (x74 : Int), v_10 = (.int .i64 x74) ∧
  R (.bool (x74 == (if (if (30 : Int) < ((listN : Nat) : Int) then (30 : Int) else ((listN : Nat) : Int)) < (IntKind.i64.wrap (Int.tmod (IntKind.u64.wrap fuse) 31)) then (if (30 : Int) < ((listN : Nat) : Int) then (30 : Int) else ((listN : Nat) : Int)) else (IntKind.i64.wrap (Int.tmod (IntKind.u64.wrap fuse) 31))))) w16))) ∧
  (decide (i < ((listN : Nat) : Int)) = false →
  Calls Try.prog 22 #[(.pointer x11)] w5 (Ret fun v_11 w17 => ∃ (x74_1 : Int), v_11 = (.int .i64 x74_1) ∧
  R (.bool (x74_1 == (if (if (30 : Int) < ((listN : Nat) : Int) then (30 : Int) else ((listN : Nat) : Int)) < (IntKind.i64.wrap (Int.tmod (IntKind.u64.wrap fuse) 31)) then (if (30 : Int) < ((listN : Nat) : Int) then (30 : Int) else ((listN : Nat) : Int)) else (IntKind.i64.wrap (Int.tmod (IntKind.u64.wrap fuse) 31))))) w17))))))
theorem coadjutorlaw04_DiskFuse.vc_eq (listA : Option Addr) (listN : Nat) (listC : Nat) (fuse : Int) (w : World) (R : Value → World → Prop) : fnV Try.prog Try.f5 (.c .nil (.lp [(4, none), (7, some (.int .i64)), (8, none), (20, none), (21, none), (22, none), (23, none), (24, none), (25, none), (26, none), (27, none), (28, none), (29, none), (30, none), (31, none), (32, none), (33, none), (34, none), (35, none), (36, none), (37, none), (38, none), (39, none), (40, none), (41, none), (42, none), (43, none), (44, none), (45, none), (46, none), (47, none), (48, none), (49, none), (50, none), (51, none), (52, none), (53, none), (54, none), (55, none), (56, none), (57, none), (58, none), (59, none), (60, none), (61, none), (62, none), (63, none), (64, none), (65, none), (66, none), (67, none), (68, none), (69, none), (70, none), (71, none), (72, none)] (.at_ 7 4 (.c (.c (.at_ 13 6 (.k .nil) (.at_ 13 9 (.at_ 13 14 (.k .nil) (.c .nil .nil)) (.c .nil .nil))) (.tk 0 (.tk 1 (.tk 2 (.tk 3 (.tk 4 (.tk 5 (.tk 6 (.tk 7 (.tk 8 (.tk 9 (.tk 10 (.alt 11 (.alt 12 (.tk 13 (.fin (.at_ 13 6 (.k .nil) (.at_ 13 9 (.at_ 13 14 (.k .nil) (.c .nil .nil)) (.c .nil .nil))))) .nil) .nil))))))))))))) .nil) (.k .nil)))) [(.slice listA listN listC), (.int .i64 fuse)] w R = coadjutorlaw04_DiskFuse.vc listA listN listC fuse w R := by kernel_rfl
theorem coadjutorlaw04_DiskFuse.calls (listA : Option Addr) (listN : Nat) (listC : Nat) (fuse : Int) {w : World} {R : Value → World → Prop} (h : coadjutorlaw04_DiskFuse.vc listA listN listC fuse w R) : Calls Try.prog 5 #[(.slice listA listN listC), (.int .i64 fuse)] w (Ret R) :=
  calls_V fit Try.func5 (.c .nil (.lp [(4, none), (7, some (.int .i64)), (8, none), (20, none), (21, none), (22, none), (23, none), (24, none), (25, none), (26, none), (27, none), (28, none), (29, none), (30, none), (31, none), (32, none), (33, none), (34, none), (35, none), (36, none), (37, none), (38, none), (39, none), (40, none), (41, none), (42, none), (43, none), (44, none), (45, none), (46, none), (47, none), (48, none), (49, none), (50, none), (51, none), (52, none), (53, none), (54, none), (55, none), (56, none), (57, none), (58, none), (59, none), (60, none), (61, none), (62, none), (63, none), (64, none), (65, none), (66, none), (67, none), (68, none), (69, none), (70, none), (71, none), (72, none)] (.at_ 7 4 (.c (.c (.at_ 13 6 (.k .nil) (.at_ 13 9 (.at_ 13 14 (.k .nil) (.c .nil .nil)) (.c .nil .nil))) (.tk 0 (.tk 1 (.tk 2 (.tk 3 (.tk 4 (.tk 5 (.tk 6 (.tk 7 (.tk 8 (.tk 9 (.tk 10 (.alt 11 (.alt 12 (.tk 13 (.fin (.at_ 13 6 (.k .nil) (.at_ 13 9 (.at_ 13 14 (.k .nil) (.c .nil .nil)) (.c .nil .nil))))) .nil) .nil))))))))))))) .nil) (.k .nil)))) (by rw [show (#[(.slice listA listN listC), (.int .i64 fuse)] : Array Value).toList = [(.slice listA listN listC), (.int .i64 fuse)] from rfl, coadjutorlaw04_DiskFuse.vc_eq]; exact h)
/-- function 4 -/
def coadjutorlaw04_DiskCopy.vc (listA : Option Addr) (listN : Nat) (listC : Nat) (sync : Int) (w : World) (R : Value → World → Prop) : Prop :=
  Calls Try.prog 8 #[] w (Ret fun v w1 => ∃ (x11 : Bool), v = (.bool x11) ∧
  ((!x11) = true →
  R (.bool false) w1) ∧
  ((!x11) = false →
  Calls Try.prog 9 #[(.int .i64 6)] w1 (Ret fun v_1 w2 => ∃ (x13 : Option Addr), v_1 = (.pointer x13) ∧
  ∃ vI : Int → Nat → World → Prop, (∃ vk_2 : Nat, vI 0 vk_2 w2) ∧
  ∀ (jk : Nat → Value) (i : Int), ∀ (vk : Nat) (w3 : World), vI i vk w3 →
  (decide (i < ((listN : Nat) : Int)) = true →
  (decide (i < (20 : Int)) = true →
  ∃ vS : World → Prop, ∀ w4 : World, w4 = w3.drew → vS w4 ∧
  (0 ≤ i ∧ i < ((listN : Nat) : Int)) ∧ someV listA fun p =>
  ∃ (x28 : Int), (∀ w5, vS w5 → w5.cell? (p.add (i.toNat * 1)) = some (.int .u8 x28)) ∧
  (6 : Int) ≠ 0 ∧
  (0 ≤ i ∧ i < ((listN : Nat) : Int)) ∧ someV listA fun p_1 =>
  ∃ (x34 : Int), (∀ w6, vS w6 → w6.cell? (p_1.add (i.toNat * 1)) = some (.int .u8 x34)) ∧
  Calls Try.prog 12 #[(.int .u8 x34)] w4 (Ret fun v_2 w7 => ∃ (x35 : ByteArray), v_2 = (.string x35) ∧
  vS w7 ∧
  Calls Try.prog 11 #[(.pointer x13), (.int .i64 (IntKind.i64.wrap (Int.tmod x28 6))), (.string x35)] w7 (Ret fun v_3 w8 => ∃ (x36 : Int), v_3 = (.int .i64 x36) ∧
  vS w8 ∧
  0 ≤ i ∧
  (((Go.bits .and .u64 (Int.fdiv (IntKind.u64.wrap sync) (2 ^ (min i.toNat IntKind.u64.bits))) 1) == (1 : Int)) = true →
  Calls Try.prog 10 #[(.pointer x13)] w8 (Ret fun v_4 w9 => ∃ (x44 : Int), v_4 = (.int .i64 x44) ∧
  ∃ vk_1 : Nat, vk_1 < vk ∧ vI (IntKind.i64.wrap (i + 1)) vk_1 w9)) ∧
  (((Go.bits .and .u64 (Int.fdiv (IntKind.u64.wrap sync) (2 ^ (min i.toNat IntKind.u64.bits))) 1) == (1 : Int)) = false →
  ∃ vk_1 : Nat, vk_1 < vk ∧ vI (IntKind.i64.wrap (i + 1)) vk_1 w8)))) ∧
  (decide (i < (20 : Int)) = false →
  Calls Try.prog 18 #[(.pointer x13)] w3 (Ret fun v_5 w10 => ∃ (x46 : ByteArray), v_5 = (.string x46) ∧
  Calls Try.prog 17 #[(.string x46)] w10 (Ret fun v_6 w11 => ∃ (x47 : Option Addr), v_6 = (.pointer x47) ∧
  Calls Try.prog 18 #[(.pointer x13)] w11 (Ret fun v_7 w12 => ∃ (x49 : ByteArray), v_7 = (.string x49) ∧
  Calls Try.prog 18 #[(.pointer x47)] w12 (Ret fun v_8 w13 => ∃ (x51 : ByteArray), v_8 = (.string x51) ∧
  ((!(x51.toList == x49.toList)) = true →
  R (.bool false) w13) ∧
  ((!(x51.toList == x49.toList)) = false →
  Calls Try.prog 19 #[(.pointer x47)] w13 (Ret fun v_9 w14 => ∃ (x56 : Int), v_9 = (.int .i64 x56) ∧
  ((x56 != (6 : Int)) = true →
  R (.bool false) w14) ∧
  ((x56 != (6 : Int)) = false →
  Calls Try.prog 16 #[(.pointer x47)] w14 (Ret fun v_10 w15 => ∃ (x61 : Int), v_10 = (.int .i64 x61) ∧
  ((x61 != (0 : Int)) = true →
  R (.bool false) w15) ∧
  ((x61 != (0 : Int)) = false →
  Calls Try.prog 12 #[(.int .u8 77)] w15 (Ret fun v_11 w16 => ∃ (x65 : ByteArray), v_11 = (.string x65) ∧
  Calls Try.prog 11 #[(.pointer x47), (.int .i64 2), (.string x65)] w16 (Ret fun v_12 w17 => ∃ (x66 : Int), v_12 = (.int .i64 x66) ∧
  ((x66 != (0 : Int)) = true →
  R (.bool false) w17) ∧
  ((x66 != (0 : Int)) = false →
  Calls Try.prog 10 #[(.pointer x47)] w17 (Ret fun v_13 w18 => ∃ (x70 : Int), v_13 = (.int .i64 x70) ∧
  ((x70 != (0 : Int)) = true →
  R (.bool false) w18) ∧
  ((x70 != (0 : Int)) = false →
  Calls Try.prog 18 #[(.pointer x13)] w18 (Ret fun v_14 w19 => ∃ (x75 : ByteArray), v_14 = (.string x75) ∧
  ((!(x75.toList == x49.toList)) = true →
  R (.bool false) w19) ∧
  ((!(x75.toList == x49.toList)) = false →
  Calls Try.prog 15 #[(.pointer x47), (.int .i64 2)] w19 (Ret fun v_15 w20 => ∃ (x81_0 : ByteArray), ∃ (x81_1 : Int), v_15 = (.tuple #[(.string x81_0), (.int .i64 x81_1)]) ∧
  ((x81_1 == (0 : Int)) = true →
  Calls Try.prog 12 #[(.int .u8 77)] w20 (Ret fun v_16 w21 => ∃ (x88 : ByteArray), v_16 = (.string x88) ∧
  ((x81_0.toList == x88.toList) = true →
  Calls Try.prog 9 #[(.int .i64 (-5))] w21 (Ret fun v_17 w22 => ∃ (x92 : Option Addr), v_17 = (.pointer x92) ∧
  Calls Try.prog 19 #[(.pointer x92)] w22 (Ret fun v_18 w23 => ∃ (x93 : Int), v_18 = (.int .i64 x93) ∧
  ((x93 == (0 : Int)) = true →
  Calls Try.prog 9 #[(.int .i64 1099511627776)] w23 (Ret fun v_19 w24 => ∃ (x97 : Option Addr), v_19 = (.pointer x97) ∧
  Calls Try.prog 19 #[(.pointer x97)] w24 (Ret fun v_20 w25 => ∃ (x98 : Int), v_20 = (.int .i64 x98) ∧
  R (.bool (x98 == (4096 : Int))) w25))) ∧
  ((x93 == (0 : Int)) = false →
  R (.bool false) w23)))) ∧
  ((x81_0.toList == x88.toList) = false →
  R (.bool false) w21))) ∧
  ((x81_1 == (0 : Int)) = false →
  R (.bool false) w20)))))))))))))))))))) ∧
  (decide (i < ((listN : Nat) : Int)) = false →
  Calls Try.prog 18 #[(.pointer x13)] w3 (Ret fun v_21 w26 => ∃ (x46_1 : ByteArray), v_21 = (.string x46_1) ∧
  Calls Try.prog 17 #[(.string x46_1)] w26 (Ret fun v_22 w27 => ∃ (x47_1 : Option Addr), v_22 = (.pointer x47_1) ∧
  Calls Try.prog 18 #[(.pointer x13)] w27 (Ret fun v_23 w28 => ∃ (x49_1 : ByteArray), v_23 = (.string x49_1) ∧
  Calls Try.prog 18 #[(.pointer x47_1)] w28 (Ret fun v_24 w29 => ∃ (x51_1 : ByteArray), v_24 = (.string x51_1) ∧
  ((!(x51_1.toList == x49_1.toList)) = true →
  R (.bool false) w29) ∧
  ((!(x51_1.toList == x49_1.toList)) = false →
  Calls Try.prog 19 #[(.pointer x47_1)] w29 (Ret fun v_25 w30 => ∃ (x56_1 : Int), v_25 = (.int .i64 x56_1) ∧
  ((x56_1 != (6 : Int)) = true →
  R (.bool false) w30) ∧
  ((x56_1 != (6 : Int)) = false →
  Calls Try.prog 16 #[(.pointer x47_1)] w30 (Ret fun v_26 w31 => ∃ (x61_1 : Int), v_26 = (.int .i64 x61_1) ∧
  ((x61_1 != (0 : Int)) = true →
  R (.bool false) w31) ∧
  ((x61_1 != (0 : Int)) = false →
  Calls Try.prog 12 #[(.int .u8 77)] w31 (Ret fun v_27 w32 => ∃ (x65_1 : ByteArray), v_27 = (.string x65_1) ∧
  Calls Try.prog 11 #[(.pointer x47_1), (.int .i64 2), (.string x65_1)] w32 (Ret fun v_28 w33 => ∃ (x66_1 : Int), v_28 = (.int .i64 x66_1) ∧
  ((x66_1 != (0 : Int)) = true →
  R (.bool false) w33) ∧
  ((x66_1 != (0 : Int)) = false →
  Calls Try.prog 10 #[(.pointer x47_1)] w33 (Ret fun v_29 w34 => ∃ (x70_1 : Int), v_29 = (.int .i64 x70_1) ∧
  ((x70_1 != (0 : Int)) = true →
  R (.bool false) w34) ∧
  ((x70_1 != (0 : Int)) = false →
  Calls Try.prog 18 #[(.pointer x13)] w34 (Ret fun v_30 w35 => ∃ (x75_1 : ByteArray), v_30 = (.string x75_1) ∧
  ((!(x75_1.toList == x49_1.toList)) = true →
  R (.bool false) w35) ∧
  ((!(x75_1.toList == x49_1.toList)) = false →
  Calls Try.prog 15 #[(.pointer x47_1), (.int .i64 2)] w35 (Ret fun v_31 w36 => ∃ (x81_0_1 : ByteArray), ∃ (x81_1_1 : Int), v_31 = (.tuple #[(.string x81_0_1), (.int .i64 x81_1_1)]) ∧
  ((x81_1_1 == (0 : Int)) = true →
  Calls Try.prog 12 #[(.int .u8 77)] w36 (Ret fun v_32 w37 => ∃ (x88_1 : ByteArray), v_32 = (.string x88_1) ∧
  ((x81_0_1.toList == x88_1.toList) = true →
  Calls Try.prog 9 #[(.int .i64 (-5))] w37 (Ret fun v_33 w38 => ∃ (x92_1 : Option Addr), v_33 = (.pointer x92_1) ∧
  Calls Try.prog 19 #[(.pointer x92_1)] w38 (Ret fun v_34 w39 => ∃ (x93_1 : Int), v_34 = (.int .i64 x93_1) ∧
  ((x93_1 == (0 : Int)) = true →
  Calls Try.prog 9 #[(.int .i64 1099511627776)] w39 (Ret fun v_35 w40 => ∃ (x97_1 : Option Addr), v_35 = (.pointer x97_1) ∧
  Calls Try.prog 19 #[(.pointer x97_1)] w40 (Ret fun v_36 w41 => ∃ (x98_1 : Int), v_36 = (.int .i64 x98_1) ∧
  R (.bool (x98_1 == (4096 : Int))) w41))) ∧
  ((x93_1 == (0 : Int)) = false →
  R (.bool false) w39)))) ∧
  ((x81_0_1.toList == x88_1.toList) = false →
  R (.bool false) w37))) ∧
  ((x81_1_1 == (0 : Int)) = false →
  R (.bool false) w36))))))))))))))))))))))
theorem coadjutorlaw04_DiskCopy.vc_eq (listA : Option Addr) (listN : Nat) (listC : Nat) (sync : Int) (w : World) (R : Value → World → Prop) : fnV Try.prog Try.f4 (.c .nil (.lp [(6, some (.int .i64)), (14, none), (15, none), (16, none), (17, none), (18, none), (19, none), (20, none), (21, none), (22, none), (23, none), (24, none), (25, none), (26, none), (27, none), (28, none), (29, none), (30, none), (31, none), (32, none), (33, none), (34, none), (35, none), (36, none), (37, none), (38, none), (39, none), (40, none), (41, none), (42, none), (43, none), (44, none)] (.at_ 5 4 (.c (.tk 0 (.tk 1 (.tk 2 (.tk 3 (.tk 4 (.tk 5 (.tk 6 (.tk 7 (.tk 8 (.tk 9 (.tk 10 (.alt 11 (.alt 12 (.fin (.c .nil .nil)) .nil) .nil)))))))))))) (.at_ 12 4 (.k .nil) (.at_ 12 9 (.k .nil) (.c .nil (.at_ 14 4 (.k .nil) (.at_ 14 9 (.k .nil) (.c .nil (.at_ 17 2 (.at_ 17 7 (.at_ 17 12 .nil .nil) .nil) .nil)))))))) (.k (.at_ 12 4 (.k .nil) (.at_ 12 9 (.k .nil) (.c .nil (.at_ 14 4 (.k .nil) (.at_ 14 9 (.k .nil) (.c .nil (.at_ 17 2 (.at_ 17 7 (.at_ 17 12 .nil .nil) .nil) .nil))))))))))) [(.slice listA listN listC), (.int .i64 sync)] w R = coadjutorlaw04_DiskCopy.vc listA listN listC sync w R := by kernel_rfl
theorem coadjutorlaw04_DiskCopy.calls (listA : Option Addr) (listN : Nat) (listC : Nat) (sync : Int) {w : World} {R : Value → World → Prop} (h : coadjutorlaw04_DiskCopy.vc listA listN listC sync w R) : Calls Try.prog 4 #[(.slice listA listN listC), (.int .i64 sync)] w (Ret R) :=
  calls_V fit Try.func4 (.c .nil (.lp [(6, some (.int .i64)), (14, none), (15, none), (16, none), (17, none), (18, none), (19, none), (20, none), (21, none), (22, none), (23, none), (24, none), (25, none), (26, none), (27, none), (28, none), (29, none), (30, none), (31, none), (32, none), (33, none), (34, none), (35, none), (36, none), (37, none), (38, none), (39, none), (40, none), (41, none), (42, none), (43, none), (44, none)] (.at_ 5 4 (.c (.tk 0 (.tk 1 (.tk 2 (.tk 3 (.tk 4 (.tk 5 (.tk 6 (.tk 7 (.tk 8 (.tk 9 (.tk 10 (.alt 11 (.alt 12 (.fin (.c .nil .nil)) .nil) .nil)))))))))))) (.at_ 12 4 (.k .nil) (.at_ 12 9 (.k .nil) (.c .nil (.at_ 14 4 (.k .nil) (.at_ 14 9 (.k .nil) (.c .nil (.at_ 17 2 (.at_ 17 7 (.at_ 17 12 .nil .nil) .nil) .nil)))))))) (.k (.at_ 12 4 (.k .nil) (.at_ 12 9 (.k .nil) (.c .nil (.at_ 14 4 (.k .nil) (.at_ 14 9 (.k .nil) (.c .nil (.at_ 17 2 (.at_ 17 7 (.at_ 17 12 .nil .nil) .nil) .nil))))))))))) (by rw [show (#[(.slice listA listN listC), (.int .i64 sync)] : Array Value).toList = [(.slice listA listN listC), (.int .i64 sync)] from rfl, coadjutorlaw04_DiskCopy.vc_eq]; exact h)
/-- function 3 -/
def coadjutorlaw04_DiskSynced.vc (listA : Option Addr) (listN : Nat) (listC : Nat) (sync : Int) (keepA : Option Addr) (keepN : Nat) (keepC : Nat) (w : World) (R : Value → World → Prop) : Prop :=
  Calls Try.prog 8 #[] w (Ret fun v w1 => ∃ (x16 : Bool), v = (.bool x16) ∧
  ((!x16) = true →
  R (.bool false) w1) ∧
  ((!x16) = false →
  (decide (((listN : Nat) : Int) > (30 : Int)) = true →
  R (.bool true) w1) ∧
  (decide (((listN : Nat) : Int) > (30 : Int)) = false →
  (decide (((keepN : Nat) : Int) > (100 : Int)) = true →
  R (.bool true) w1) ∧
  (decide (((keepN : Nat) : Int) > (100 : Int)) = false →
  Calls Try.prog 9 #[(.int .i64 8)] w1 (Ret fun v_1 w2 => ∃ (x26 : Option Addr), v_1 = (.pointer x26) ∧
  (decide (((listN : Nat) : Int) > (0 : Int)) = true →
  (IntKind.u64.wrap (IntKind.i64.wrap (((listN : Nat) : Int) + 1))) ≠ 0 ∧
  ∀ w3 : World, w3 = w2.alloc (.cells #[(.int .u8 0), (.int .u8 0), (.int .u8 0), (.int .u8 0), (.int .u8 0), (.int .u8 0), (.int .u8 0), (.int .u8 0)] 28 (0, 0)) →
  (((∃ u, w3.cell? (⟨w2.heap.size, 0, none⟩ : Addr) = some u) ∧ w3.frozen? (⟨w2.heap.size, 0, none⟩ : Addr) = false) ∧ ((∃ u, w3.cell? (⟨w2.heap.size, 1, none⟩ : Addr) = some u) ∧ w3.frozen? (⟨w2.heap.size, 1, none⟩ : Addr) = false) ∧ ((∃ u, w3.cell? (⟨w2.heap.size, 2, none⟩ : Addr) = some u) ∧ w3.frozen? (⟨w2.heap.size, 2, none⟩ : Addr) = false) ∧ ((∃ u, w3.cell? (⟨w2.heap.size, 3, none⟩ : Addr) = some u) ∧ w3.frozen? (⟨w2.heap.size, 3, none⟩ : Addr) = false) ∧ ((∃ u, w3.cell? (⟨w2.heap.size, 4, none⟩ : Addr) = some u) ∧ w3.frozen? (⟨w2.heap.size, 4, none⟩ : Addr) = false) ∧ ((∃ u, w3.cell? (⟨w2.heap.size, 5, none⟩ : Addr) = some u) ∧ w3.frozen? (⟨w2.heap.size, 5, none⟩ : Addr) = false) ∧ ((∃ u, w3.cell? (⟨w2.heap.size, 6, none⟩ : Addr) = some u) ∧ w3.frozen? (⟨w2.heap.size, 6, none⟩ : Addr) = false) ∧ ((∃ u, w3.cell? (⟨w2.heap.size, 7, none⟩ : Addr) = some u) ∧ w3.frozen? (⟨w2.heap.size, 7, none⟩ : Addr) = false)) ∧ ∀ w4 : World, w4 = ((((((((w3.setCell (⟨w2.heap.size, 0, none⟩ : Addr) (.int .u8 0)).setCell (⟨w2.heap.size, 1, none⟩ : Addr) (.int .u8 0)).setCell (⟨w2.heap.size, 2, none⟩ : Addr) (.int .u8 0)).setCell (⟨w2.heap.size, 3, none⟩ : Addr) (.int .u8 0)).setCell (⟨w2.heap.size, 4, none⟩ : Addr) (.int .u8 0)).setCell (⟨w2.heap.size, 5, none⟩ : Addr) (.int .u8 0)).setCell (⟨w2.heap.size, 6, none⟩ : Addr) (.int .u8 0)).setCell (⟨w2.heap.size, 7, none⟩ : Addr) (.int .u8 0)) →
  ∃ vI : Int → Nat → World → Prop, (∃ vk_2 : Nat, vI 0 vk_2 w4) ∧
  ∀ (jk : Nat → Value) (i : Int), ∀ (vk : Nat) (w5 : World), vI i vk w5 →
  (decide (i < ((listN : Nat) : Int)) = true →
  ((i == (IntKind.i64.wrap (Int.tmod (IntKind.u64.wrap sync) (IntKind.u64.wrap (IntKind.i64.wrap (((listN : Nat) : Int) + 1)))))) = true →
  Calls Try.prog 10 #[(.pointer x26)] w5 (Ret fun v_2 w6 => ∃ (x50 : Int), v_2 = (.int .i64 x50) ∧
  ((x50 != (0 : Int)) = true →
  R (.bool false) w6) ∧
  ((x50 != (0 : Int)) = false →
  ∃ vS : World → Prop, ∀ w7 : World, w7 = w6.drew → vS w7 ∧
  (0 ≤ i ∧ i < ((listN : Nat) : Int)) ∧ someV listA fun p =>
  ∃ (x57 : Int), (∀ w8, vS w8 → w8.cell? (p.add (i.toNat * 1)) = some (.int .u8 x57)) ∧
  (8 : Int) ≠ 0 ∧
  (0 ≤ i ∧ i < ((listN : Nat) : Int)) ∧ someV listA fun p_1 =>
  ∃ (x63 : Int), (∀ w9, vS w9 → w9.cell? (p_1.add (i.toNat * 1)) = some (.int .u8 x63)) ∧
  Calls Try.prog 12 #[(.int .u8 x63)] w7 (Ret fun v_3 w10 => ∃ (x64 : ByteArray), v_3 = (.string x64) ∧
  vS w10 ∧
  Calls Try.prog 11 #[(.pointer x26), (.int .i64 (IntKind.i64.wrap (Int.tmod x57 8))), (.string x64)] w10 (Ret fun v_4 w11 => ∃ (x65 : Int), v_4 = (.int .i64 x65) ∧
  vS w11 ∧
  ((x65 != (0 : Int)) = true →
  R (.bool false) w11) ∧
  ((x65 != (0 : Int)) = false →
  (decide (i < (IntKind.i64.wrap (Int.tmod (IntKind.u64.wrap sync) (IntKind.u64.wrap (IntKind.i64.wrap (((listN : Nat) : Int) + 1)))))) = true →
  ∃ vS_1 : World → Prop, ∀ w12 : World, w12 = w11.drew → vS_1 w12 ∧
  (0 ≤ i ∧ i < ((listN : Nat) : Int)) ∧ someV listA fun p_2 =>
  ∃ (x73 : Int), (∀ w13, vS_1 w13 → w13.cell? (p_2.add (i.toNat * 1)) = some (.int .u8 x73)) ∧
  (8 : Int) ≠ 0 ∧
  (0 ≤ i ∧ i < ((listN : Nat) : Int)) ∧ someV listA fun p_3 =>
  ∃ (x78 : Int), (∀ w14, vS_1 w14 → w14.cell? (p_3.add (i.toNat * 1)) = some (.int .u8 x78)) ∧
  (0 ≤ (Int.tmod x73 8) ∧ (Int.tmod x73 8) < (8 : Int)) ∧
  (((∃ u, w12.cell? ((⟨w2.heap.size, 0, none⟩ : Addr).add ((Int.tmod x73 8).toNat * 1)) = some u) ∧ w12.frozen? ((⟨w2.heap.size, 0, none⟩ : Addr).add ((Int.tmod x73 8).toNat * 1)) = false)) ∧ ∀ w15 : World, w15 = (w12.setCell ((⟨w2.heap.size, 0, none⟩ : Addr).add ((Int.tmod x73 8).toNat * 1)) (.int .u8 x78)) →
  vS_1 w15 ∧
  ∃ vk_1 : Nat, vk_1 < vk ∧ vI (IntKind.i64.wrap (i + 1)) vk_1 w15) ∧
  (decide (i < (IntKind.i64.wrap (Int.tmod (IntKind.u64.wrap sync) (IntKind.u64.wrap (IntKind.i64.wrap (((listN : Nat) : Int) + 1)))))) = false →
  ∃ vk_1 : Nat, vk_1 < vk ∧ vI (IntKind.i64.wrap (i + 1)) vk_1 w11))))))) ∧
  ((i == (IntKind.i64.wrap (Int.tmod (IntKind.u64.wrap sync) (IntKind.u64.wrap (IntKind.i64.wrap (((listN : Nat) : Int) + 1)))))) = false →
  ∃ vS_2 : World → Prop, ∀ w16 : World, w16 = w5.drew → vS_2 w16 ∧
  (0 ≤ i ∧ i < ((listN : Nat) : Int)) ∧ someV listA fun p_4 =>
  ∃ (x57_1 : Int), (∀ w17, vS_2 w17 → w17.cell? (p_4.add (i.toNat * 1)) = some (.int .u8 x57_1)) ∧
  (8 : Int) ≠ 0 ∧
  (0 ≤ i ∧ i < ((listN : Nat) : Int)) ∧ someV listA fun p_5 =>
  ∃ (x63_1 : Int), (∀ w18, vS_2 w18 → w18.cell? (p_5.add (i.toNat * 1)) = some (.int .u8 x63_1)) ∧
  Calls Try.prog 12 #[(.int .u8 x63_1)] w16 (Ret fun v_5 w19 => ∃ (x64_1 : ByteArray), v_5 = (.string x64_1) ∧
  vS_2 w19 ∧
  Calls Try.prog 11 #[(.pointer x26), (.int .i64 (IntKind.i64.wrap (Int.tmod x57_1 8))), (.string x64_1)] w19 (Ret fun v_6 w20 => ∃ (x65_1 : Int), v_6 = (.int .i64 x65_1) ∧
  vS_2 w20 ∧
  ((x65_1 != (0 : Int)) = true →
  R (.bool false) w20) ∧
  ((x65_1 != (0 : Int)) = false →
  (decide (i < (IntKind.i64.wrap (Int.tmod (IntKind.u64.wrap sync) (IntKind.u64.wrap (IntKind.i64.wrap (((listN : Nat) : Int) + 1)))))) = true →
  ∃ vS_3 : World → Prop, ∀ w21 : World, w21 = w20.drew → vS_3 w21 ∧
  (0 ≤ i ∧ i < ((listN : Nat) : Int)) ∧ someV listA fun p_6 =>
  ∃ (x73_1 : Int), (∀ w22, vS_3 w22 → w22.cell? (p_6.add (i.toNat * 1)) = some (.int .u8 x73_1)) ∧
  (8 : Int) ≠ 0 ∧
  (0 ≤ i ∧ i < ((listN : Nat) : Int)) ∧ someV listA fun p_7 =>
  ∃ (x78_1 : Int), (∀ w23, vS_3 w23 → w23.cell? (p_7.add (i.toNat * 1)) = some (.int .u8 x78_1)) ∧
  (0 ≤ (Int.tmod x73_1 8) ∧ (Int.tmod x73_1 8) < (8 : Int)) ∧
  (((∃ u, w21.cell? ((⟨w2.heap.size, 0, none⟩ : Addr).add ((Int.tmod x73_1 8).toNat * 1)) = some u) ∧ w21.frozen? ((⟨w2.heap.size, 0, none⟩ : Addr).add ((Int.tmod x73_1 8).toNat * 1)) = false)) ∧ ∀ w24 : World, w24 = (w21.setCell ((⟨w2.heap.size, 0, none⟩ : Addr).add ((Int.tmod x73_1 8).toNat * 1)) (.int .u8 x78_1)) →
  vS_3 w24 ∧
  ∃ vk_1 : Nat, vk_1 < vk ∧ vI (IntKind.i64.wrap (i + 1)) vk_1 w24) ∧
  (decide (i < (IntKind.i64.wrap (Int.tmod (IntKind.u64.wrap sync) (IntKind.u64.wrap (IntKind.i64.wrap (((listN : Nat) : Int) + 1)))))) = false →
  ∃ vk_1 : Nat, vk_1 < vk ∧ vI (IntKind.i64.wrap (i + 1)) vk_1 w20)))))) ∧
  (decide (i < ((listN : Nat) : Int)) = false →
  (((IntKind.i64.wrap (Int.tmod (IntKind.u64.wrap sync) (IntKind.u64.wrap (IntKind.i64.wrap (((listN : Nat) : Int) + 1))))) == ((listN : Nat) : Int)) = true →
  Calls Try.prog 10 #[(.pointer x26)] w5 (Ret fun v_7 w25 => ∃ (x86 : Int), v_7 = (.int .i64 x86) ∧
  ((x86 != (0 : Int)) = true →
  R (.bool false) w25) ∧
  ((x86 != (0 : Int)) = false →
  Calls Try.prog 13 #[(.pointer x26), (.slice keepA keepN keepC)] w25 (Ret fun v_8 w26 => v_8 = .tuple #[] ∧
  Calls Try.prog 10 #[(.pointer x26)] w26 (Ret fun v_9 w27 => ∃ (x93 : Int), v_9 = (.int .i64 x93) ∧
  ((x93 != (4 : Int)) = true →
  R (.bool false) w27) ∧
  ((x93 != (4 : Int)) = false →
  Calls Try.prog 14 #[(.pointer x26)] w27 (Ret fun v_10 w28 => v_10 = .tuple #[] ∧
  ∃ vI_1 : Int → Nat → World → Prop, (∃ vk_5 : Nat, vI_1 0 vk_5 w28) ∧
  ∀ (jk : Nat → Value) (vk_6 : Int), ∀ (vk_3 : Nat) (w29 : World), vI_1 vk_6 vk_3 w29 →
  (decide (vk_6 < (8 : Int)) = true →
  Calls Try.prog 15 #[(.pointer x26), (.int .i64 vk_6)] w29 (Ret fun v_11 w30 => ∃ (x104_0 : ByteArray), ∃ (x104_1 : Int), v_11 = (.tuple #[(.string x104_0), (.int .i64 x104_1)]) ∧
  ((x104_1 != (0 : Int)) = true →
  R (.bool false) w30) ∧
  ((x104_1 != (0 : Int)) = false →
  (0 ≤ vk_6 ∧ vk_6 < (8 : Int)) ∧
  ∃ (x112 : Int), w30.cell? ((⟨w2.heap.size, 0, none⟩ : Addr).add (vk_6.toNat * 1)) = some (.int .u8 x112) ∧
  Calls Try.prog 12 #[(.int .u8 x112)] w30 (Ret fun v_12 w31 => ∃ (x113 : ByteArray), v_12 = (.string x113) ∧
  ∃ vI_2 : Bool → Int → Nat → World → Prop, (∃ vk_9 : Nat, vI_2 (x104_0.toList == x113.toList) (IntKind.i64.wrap (Int.tmod (IntKind.u64.wrap sync) (IntKind.u64.wrap (IntKind.i64.wrap (((listN : Nat) : Int) + 1))))) vk_9 w31) ∧
  ∀ (jk : Nat → Value) (found : Bool) (i_1 : Int), ∀ (vk_7 : Nat) (w32 : World), vI_2 found i_1 vk_7 w32 →
  (decide (i_1 < ((listN : Nat) : Int)) = true →
  (found = true →
  ∃ vk_8 : Nat, vk_8 < vk_7 ∧ vI_2 true (IntKind.i64.wrap (i_1 + 1)) vk_8 w32) ∧
  (found = false →
  (0 ≤ i_1 ∧ i_1 < ((listN : Nat) : Int)) ∧ someV listA fun p_8 =>
  ∃ (x127 : Int), w32.cell? (p_8.add (i_1.toNat * 1)) = some (.int .u8 x127) ∧
  (8 : Int) ≠ 0 ∧
  (((IntKind.i64.wrap (Int.tmod x127 8)) == vk_6) = true →
  (0 ≤ i_1 ∧ i_1 < ((listN : Nat) : Int)) ∧ someV listA fun p_9 =>
  ∃ (x137 : Int), w32.cell? (p_9.add (i_1.toNat * 1)) = some (.int .u8 x137) ∧
  Calls Try.prog 12 #[(.int .u8 x137)] w32 (Ret fun v_13 w33 => ∃ (x138 : ByteArray), v_13 = (.string x138) ∧
  ∃ vk_8 : Nat, vk_8 < vk_7 ∧ vI_2 (x104_0.toList == x138.toList) (IntKind.i64.wrap (i_1 + 1)) vk_8 w33)) ∧
  (((IntKind.i64.wrap (Int.tmod x127 8)) == vk_6) = false →
  ∃ vk_8 : Nat, vk_8 < vk_7 ∧ vI_2 false (IntKind.i64.wrap (i_1 + 1)) vk_8 w32))) ∧
  (decide (i_1 < ((listN : Nat) : Int)) = false →
  ((!found) = true →
  R (.bool false) w32) ∧
  ((!found) = false →
  ∃ vk_4 : Nat, vk_4 < vk_3 ∧ vI_1 (IntKind.i64.wrap (vk_6 + 1)) vk_4 w32)))))) ∧
  (decide (vk_6 < (8 : Int)) = false →
  Calls Try.prog 16 #[(.pointer x26)] w29 (Ret fun v_14 w34 => ∃ (x145 : Int), v_14 = (.int .i64 x145) ∧
  R (.bool (x145 == (0 : Int))) w34))))))))) ∧
  (((IntKind.i64.wrap (Int.tmod (IntKind.u64.wrap sync) (IntKind.u64.wrap (IntKind.i64.wrap (((listN : Nat) : Int) + 1))))) == ((listN : Nat) : Int)) = false →
  Calls Try.prog 13 #[(.pointer x26), (.slice keepA keepN keepC)] w5 (Ret fun v_15 w35 => v_15 = .tuple #[] ∧
  Calls Try.prog 10 #[(.pointer x26)] w35 (Ret fun v_16 w36 => ∃ (x93_1 : Int), v_16 = (.int .i64 x93_1) ∧
  ((x93_1 != (4 : Int)) = true →
  R (.bool false) w36) ∧
  ((x93_1 != (4 : Int)) = false →
  Calls Try.prog 14 #[(.pointer x26)] w36 (Ret fun v_17 w37 => v_17 = .tuple #[] ∧
  ∃ vI_3 : Int → Nat → World → Prop, (∃ vk_12 : Nat, vI_3 0 vk_12 w37) ∧
  ∀ (jk : Nat → Value) (vk_13 : Int), ∀ (vk_10 : Nat) (w38 : World), vI_3 vk_13 vk_10 w38 →
  (decide (vk_13 < (8 : Int)) = true →
  Calls Try.prog 15 #[(.pointer x26), (.int .i64 vk_13)] w38 (Ret fun v_18 w39 => ∃ (x104_0_1 : ByteArray), ∃ (x104_1_1 : Int), v_18 = (.tuple #[(.string x104_0_1), (.int .i64 x104_1_1)]) ∧
  ((x104_1_1 != (0 : Int)) = true →
  R (.bool false) w39) ∧
  ((x104_1_1 != (0 : Int)) = false →
  (0 ≤ vk_13 ∧ vk_13 < (8 : Int)) ∧
  ∃ (x112_1 : Int), w39.cell? ((⟨w2.heap.size, 0, none⟩ : Addr).add (vk_13.toNat * 1)) = some (.int .u8 x112_1) ∧
  Calls Try.prog 12 #[(.int .u8 x112_1)] w39 (Ret fun v_19 w40 => ∃ (x113_1 : ByteArray), v_19 = (.string x113_1) ∧
  ∃ vI_4 : Bool → Int → Nat → World → Prop, (∃ vk_16 : Nat, vI_4 (x104_0_1.toList == x113_1.toList) (IntKind.i64.wrap (Int.tmod (IntKind.u64.wrap sync) (IntKind.u64.wrap (IntKind.i64.wrap (((listN : Nat) : Int) + 1))))) vk_16 w40) ∧
  ∀ (jk : Nat → Value) (found_1 : Bool) (i_2 : Int), ∀ (vk_14 : Nat) (w41 : World), vI_4 found_1 i_2 vk_14 w41 →
  (decide (i_2 < ((listN : Nat) : Int)) = true →
  (found_1 = true →
  ∃ vk_15 : Nat, vk_15 < vk_14 ∧ vI_4 true (IntKind.i64.wrap (i_2 + 1)) vk_15 w41) ∧
  (found_1 = false →
  (0 ≤ i_2 ∧ i_2 < ((listN : Nat) : Int)) ∧ someV listA fun p_10 =>
  ∃ (x127_1 : Int), w41.cell? (p_10.add (i_2.toNat * 1)) = some (.int .u8 x127_1) ∧
  (8 : Int) ≠ 0 ∧
  (((IntKind.i64.wrap (Int.tmod x127_1 8)) == vk_13) = true →
  (0 ≤ i_2 ∧ i_2 < ((listN : Nat) : Int)) ∧ someV listA fun p_11 =>
  ∃ (x137_1 : Int), w41.cell? (p_11.add (i_2.toNat * 1)) = some (.int .u8 x137_1) ∧
  Calls Try.prog 12 #[(.int .u8 x137_1)] w41 (Ret fun v_20 w42 => ∃ (x138_1 : ByteArray), v_20 = (.string x138_1) ∧
  ∃ vk_15 : Nat, vk_15 < vk_14 ∧ vI_4 (x104_0_1.toList == x138_1.toList) (IntKind.i64.wrap (i_2 + 1)) vk_15 w42)) ∧
  (((IntKind.i64.wrap (Int.tmod x127_1 8)) == vk_13) = false →
  ∃ vk_15 : Nat, vk_15 < vk_14 ∧ vI_4 false (IntKind.i64.wrap (i_2 + 1)) vk_15 w41))) ∧
  (decide (i_2 < ((listN : Nat) : Int)) = false →
  ((!found_1) = true →
  R (.bool false) w41) ∧
  ((!found_1) = false →
  ∃ vk_11 : Nat, vk_11 < vk_10 ∧ vI_3 (IntKind.i64.wrap (vk_13 + 1)) vk_11 w41)))))) ∧
  (decide (vk_13 < (8 : Int)) = false →
  Calls Try.prog 16 #[(.pointer x26)] w38 (Ret fun v_21 w43 => ∃ (x145_1 : Int), v_21 = (.int .i64 x145_1) ∧
  R (.bool (x145_1 == (0 : Int))) w43))))))))) ∧
  (decide (((listN : Nat) : Int) > (0 : Int)) = false →
  ∀ w44 : World, w44 = w2.alloc (.cells #[(.int .u8 0), (.int .u8 0), (.int .u8 0), (.int .u8 0), (.int .u8 0), (.int .u8 0), (.int .u8 0), (.int .u8 0)] 28 (0, 0)) →
  (((∃ u, w44.cell? (⟨w2.heap.size, 0, none⟩ : Addr) = some u) ∧ w44.frozen? (⟨w2.heap.size, 0, none⟩ : Addr) = false) ∧ ((∃ u, w44.cell? (⟨w2.heap.size, 1, none⟩ : Addr) = some u) ∧ w44.frozen? (⟨w2.heap.size, 1, none⟩ : Addr) = false) ∧ ((∃ u, w44.cell? (⟨w2.heap.size, 2, none⟩ : Addr) = some u) ∧ w44.frozen? (⟨w2.heap.size, 2, none⟩ : Addr) = false) ∧ ((∃ u, w44.cell? (⟨w2.heap.size, 3, none⟩ : Addr) = some u) ∧ w44.frozen? (⟨w2.heap.size, 3, none⟩ : Addr) = false) ∧ ((∃ u, w44.cell? (⟨w2.heap.size, 4, none⟩ : Addr) = some u) ∧ w44.frozen? (⟨w2.heap.size, 4, none⟩ : Addr) = false) ∧ ((∃ u, w44.cell? (⟨w2.heap.size, 5, none⟩ : Addr) = some u) ∧ w44.frozen? (⟨w2.heap.size, 5, none⟩ : Addr) = false) ∧ ((∃ u, w44.cell? (⟨w2.heap.size, 6, none⟩ : Addr) = some u) ∧ w44.frozen? (⟨w2.heap.size, 6, none⟩ : Addr) = false) ∧ ((∃ u, w44.cell? (⟨w2.heap.size, 7, none⟩ : Addr) = some u) ∧ w44.frozen? (⟨w2.heap.size, 7, none⟩ : Addr) = false)) ∧ ∀ w45 : World, w45 = ((((((((w44.setCell (⟨w2.heap.size, 0, none⟩ : Addr) (.int .u8 0)).setCell (⟨w2.heap.size, 1, none⟩ : Addr) (.int .u8 0)).setCell (⟨w2.heap.size, 2, none⟩ : Addr) (.int .u8 0)).setCell (⟨w2.heap.size, 3, none⟩ : Addr) (.int .u8 0)).setCell (⟨w2.heap.size, 4, none⟩ : Addr) (.int .u8 0)).setCell (⟨w2.heap.size, 5, none⟩ : Addr) (.int .u8 0)).setCell (⟨w2.heap.size, 6, none⟩ : Addr) (.int .u8 0)).setCell (⟨w2.heap.size, 7, none⟩ : Addr) (.int .u8 0)) →
  ∃ vI_5 : Int → Nat → World → Prop, (∃ vk_19 : Nat, vI_5 0 vk_19 w45) ∧
  ∀ (jk : Nat → Value) (i_3 : Int), ∀ (vk_17 : Nat) (w46 : World), vI_5 i_3 vk_17 w46 →
  (decide (i_3 < ((listN : Nat) : Int)) = true →
  ((i_3 == (0 : Int)) = true →
  Calls Try.prog 10 #[(.pointer x26)] w46 (Ret fun v_22 w47 => ∃ (x50_1 : Int), v_22 = (.int .i64 x50_1) ∧
  ((x50_1 != (0 : Int)) = true →
  R (.bool false) w47) ∧
  ((x50_1 != (0 : Int)) = false →
  ∃ vS_4 : World → Prop, ∀ w48 : World, w48 = w47.drew → vS_4 w48 ∧
  (0 ≤ i_3 ∧ i_3 < ((listN : Nat) : Int)) ∧ someV listA fun p_12 =>
  ∃ (x57_2 : Int), (∀ w49, vS_4 w49 → w49.cell? (p_12.add (i_3.toNat * 1)) = some (.int .u8 x57_2)) ∧
  (8 : Int) ≠ 0 ∧
  (0 ≤ i_3 ∧ i_3 < ((listN : Nat) : Int)) ∧ someV listA fun p_13 =>
  ∃ (x63_2 : Int), (∀ w50, vS_4 w50 → w50.cell? (p_13.add (i_3.toNat * 1)) = some (.int .u8 x63_2)) ∧
  Calls Try.prog 12 #[(.int .u8 x63_2)] w48 (Ret fun v_23 w51 => ∃ (x64_2 : ByteArray), v_23 = (.string x64_2) ∧
  vS_4 w51 ∧
  Calls Try.prog 11 #[(.pointer x26), (.int .i64 (IntKind.i64.wrap (Int.tmod x57_2 8))), (.string x64_2)] w51 (Ret fun v_24 w52 => ∃ (x65_2 : Int), v_24 = (.int .i64 x65_2) ∧
  vS_4 w52 ∧
  ((x65_2 != (0 : Int)) = true →
  R (.bool false) w52) ∧
  ((x65_2 != (0 : Int)) = false →
  (decide (i_3 < (0 : Int)) = true →
  ∃ vS_5 : World → Prop, ∀ w53 : World, w53 = w52.drew → vS_5 w53 ∧
  (0 ≤ i_3 ∧ i_3 < ((listN : Nat) : Int)) ∧ someV listA fun p_14 =>
  ∃ (x73_2 : Int), (∀ w54, vS_5 w54 → w54.cell? (p_14.add (i_3.toNat * 1)) = some (.int .u8 x73_2)) ∧
  (8 : Int) ≠ 0 ∧
  (0 ≤ i_3 ∧ i_3 < ((listN : Nat) : Int)) ∧ someV listA fun p_15 =>
  ∃ (x78_2 : Int), (∀ w55, vS_5 w55 → w55.cell? (p_15.add (i_3.toNat * 1)) = some (.int .u8 x78_2)) ∧
  (0 ≤ (Int.tmod x73_2 8) ∧ (Int.tmod x73_2 8) < (8 : Int)) ∧
  (((∃ u, w53.cell? ((⟨w2.heap.size, 0, none⟩ : Addr).add ((Int.tmod x73_2 8).toNat * 1)) = some u) ∧ w53.frozen? ((⟨w2.heap.size, 0, none⟩ : Addr).add ((Int.tmod x73_2 8).toNat * 1)) = false)) ∧ ∀ w56 : World, w56 = (w53.setCell ((⟨w2.heap.size, 0, none⟩ : Addr).add ((Int.tmod x73_2 8).toNat * 1)) (.int .u8 x78_2)) →
  vS_5 w56 ∧
  ∃ vk_18 : Nat, vk_18 < vk_17 ∧ vI_5 (IntKind.i64.wrap (i_3 + 1)) vk_18 w56) ∧
  (decide (i_3 < (0 : Int)) = false →
  ∃ vk_18 : Nat, vk_18 < vk_17 ∧ vI_5 (IntKind.i64.wrap (i_3 + 1)) vk_18 w52))))))) ∧
  ((i_3 == (0 : Int)) = false →
  ∃ vS_6 : World → Prop, ∀ w57 : World, w57 = w46.drew → vS_6 w57 ∧
  (0 ≤ i_3 ∧ i_3 < ((listN : Nat) : Int)) ∧ someV listA fun p_16 =>
  ∃ (x57_3 : Int), (∀ w58, vS_6 w58 → w58.cell? (p_16.add (i_3.toNat * 1)) = some (.int .u8 x57_3)) ∧
  (8 : Int) ≠ 0 ∧
  (0 ≤ i_3 ∧ i_3 < ((listN : Nat) : Int)) ∧ someV listA fun p_17 =>
  ∃ (x63_3 : Int), (∀ w59, vS_6 w59 → w59.cell? (p_17.add (i_3.toNat * 1)) = some (.int .u8 x63_3)) ∧
  Calls Try.prog 12 #[(.int .u8 x63_3)] w57 (Ret fun v_25 w60 => ∃ (x64_3 : ByteArray), v_25 = (.string x64_3) ∧
  vS_6 w60 ∧
  Calls Try.prog 11 #[(.pointer x26), (.int .i64 (IntKind.i64.wrap (Int.tmod x57_3 8))), (.string x64_3)] w60 (Ret fun v_26 w61 => ∃ (x65_3 : Int), v_26 = (.int .i64 x65_3) ∧
  vS_6 w61 ∧
  ((x65_3 != (0 : Int)) = true →
  R (.bool false) w61) ∧
  ((x65_3 != (0 : Int)) = false →
  (decide (i_3 < (0 : Int)) = true →
  ∃ vS_7 : World → Prop, ∀ w62 : World, w62 = w61.drew → vS_7 w62 ∧
  (0 ≤ i_3 ∧ i_3 < ((listN : Nat) : Int)) ∧ someV listA fun p_18 =>
  ∃ (x73_3 : Int), (∀ w63, vS_7 w63 → w63.cell? (p_18.add (i_3.toNat * 1)) = some (.int .u8 x73_3)) ∧
  (8 : Int) ≠ 0 ∧
  (0 ≤ i_3 ∧ i_3 < ((listN : Nat) : Int)) ∧ someV listA fun p_19 =>
  ∃ (x78_3 : Int), (∀ w64, vS_7 w64 → w64.cell? (p_19.add (i_3.toNat * 1)) = some (.int .u8 x78_3)) ∧
  (0 ≤ (Int.tmod x73_3 8) ∧ (Int.tmod x73_3 8) < (8 : Int)) ∧
  (((∃ u, w62.cell? ((⟨w2.heap.size, 0, none⟩ : Addr).add ((Int.tmod x73_3 8).toNat * 1)) = some u) ∧ w62.frozen? ((⟨w2.heap.size, 0, none⟩ : Addr).add ((Int.tmod x73_3 8).toNat * 1)) = false)) ∧ ∀ w65 : World, w65 = (w62.setCell ((⟨w2.heap.size, 0, none⟩ : Addr).add ((Int.tmod x73_3 8).toNat * 1)) (.int .u8 x78_3)) →
  vS_7 w65 ∧
  ∃ vk_18 : Nat, vk_18 < vk_17 ∧ vI_5 (IntKind.i64.wrap (i_3 + 1)) vk_18 w65) ∧
  (decide (i_3 < (0 : Int)) = false →
  ∃ vk_18 : Nat, vk_18 < vk_17 ∧ vI_5 (IntKind.i64.wrap (i_3 + 1)) vk_18 w61)))))) ∧
  (decide (i_3 < ((listN : Nat) : Int)) = false →
  (((0 : Int) == ((listN : Nat) : Int)) = true →
  Calls Try.prog 10 #[(.pointer x26)] w46 (Ret fun v_27 w66 => ∃ (x86_1 : Int), v_27 = (.int .i64 x86_1) ∧
  ((x86_1 != (0 : Int)) = true →
  R (.bool false) w66) ∧
  ((x86_1 != (0 : Int)) = false →
  Calls Try.prog 13 #[(.pointer x26), (.slice keepA keepN keepC)] w66 (Ret fun v_28 w67 => v_28 = .tuple #[] ∧
  Calls Try.prog 10 #[(.pointer x26)] w67 (Ret fun v_29 w68 => ∃ (x93_2 : Int), v_29 = (.int .i64 x93_2) ∧
  ((x93_2 != (4 : Int)) = true →
  R (.bool false) w68) ∧
  ((x93_2 != (4 : Int)) = false →
  Calls Try.prog 14 #[(.pointer x26)] w68 (Ret fun v_30 w69 => v_30 = .tuple #[] ∧
  ∃ vI_6 : Int → Nat → World → Prop, (∃ vk_22 : Nat, vI_6 0 vk_22 w69) ∧
  ∀ (jk : Nat → Value) (vk_23 : Int), ∀ (vk_20 : Nat) (w70 : World), vI_6 vk_23 vk_20 w70 →
  (decide (vk_23 < (8 : Int)) = true →
  Calls Try.prog 15 #[(.pointer x26), (.int .i64 vk_23)] w70 (Ret fun v_31 w71 => ∃ (x104_0_2 : ByteArray), ∃ (x104_1_2 : Int), v_31 = (.tuple #[(.string x104_0_2), (.int .i64 x104_1_2)]) ∧
  ((x104_1_2 != (0 : Int)) = true →
  R (.bool false) w71) ∧
  ((x104_1_2 != (0 : Int)) = false →
  (0 ≤ vk_23 ∧ vk_23 < (8 : Int)) ∧
  ∃ (x112_2 : Int), w71.cell? ((⟨w2.heap.size, 0, none⟩ : Addr).add (vk_23.toNat * 1)) = some (.int .u8 x112_2) ∧
  Calls Try.prog 12 #[(.int .u8 x112_2)] w71 (Ret fun v_32 w72 => ∃ (x113_2 : ByteArray), v_32 = (.string x113_2) ∧
  ∃ vI_7 : Bool → Int → Nat → World → Prop, (∃ vk_26 : Nat, vI_7 (x104_0_2.toList == x113_2.toList) 0 vk_26 w72) ∧
  ∀ (jk : Nat → Value) (found_2 : Bool) (i_4 : Int), ∀ (vk_24 : Nat) (w73 : World), vI_7 found_2 i_4 vk_24 w73 →
  (decide (i_4 < ((listN : Nat) : Int)) = true →
  (found_2 = true →
  ∃ vk_25 : Nat, vk_25 < vk_24 ∧ vI_7 true (IntKind.i64.wrap (i_4 + 1)) vk_25 w73) ∧
  (found_2 = false →
  (0 ≤ i_4 ∧ i_4 < ((listN : Nat) : Int)) ∧ someV listA fun p_20 =>
  ∃ (x127_2 : Int), w73.cell? (p_20.add (i_4.toNat * 1)) = some (.int .u8 x127_2) ∧
  (8 : Int) ≠ 0 ∧
  (((IntKind.i64.wrap (Int.tmod x127_2 8)) == vk_23) = true →
  (0 ≤ i_4 ∧ i_4 < ((listN : Nat) : Int)) ∧ someV listA fun p_21 =>
  ∃ (x137_2 : Int), w73.cell? (p_21.add (i_4.toNat * 1)) = some (.int .u8 x137_2) ∧
  Calls Try.prog 12 #[(.int .u8 x137_2)] w73 (Ret fun v_33 w74 => ∃ (x138_2 : ByteArray), v_33 = (.string x138_2) ∧
  ∃ vk_25 : Nat, vk_25 < vk_24 ∧ vI_7 (x104_0_2.toList == x138_2.toList) (IntKind.i64.wrap (i_4 + 1)) vk_25 w74)) ∧
  (((IntKind.i64.wrap (Int.tmod x127_2 8)) == vk_23) = false →
  ∃ vk_25 : Nat, vk_25 < vk_24 ∧ vI_7 false (IntKind.i64.wrap (i_4 + 1)) vk_25 w73))) ∧
  (decide (i_4 < ((listN : Nat) : Int)) = false →
  ((!found_2) = true →
  R (.bool false) w73) ∧
  ((!found_2) = false →
  ∃ vk_21 : Nat, vk_21 < vk_20 ∧ vI_6 (IntKind.i64.wrap (vk_23 + 1)) vk_21 w73)))))) ∧
  (decide (vk_23 < (8 : Int)) = false →
  Calls Try.prog 16 #[(.pointer x26)] w70 (Ret fun v_34 w75 => ∃ (x145_2 : Int), v_34 = (.int .i64 x145_2) ∧
  R (.bool (x145_2 == (0 : Int))) w75))))))))) ∧
  (((0 : Int) == ((listN : Nat) : Int)) = false →
  Calls Try.prog 13 #[(.pointer x26), (.slice keepA keepN keepC)] w46 (Ret fun v_35 w76 => v_35 = .tuple #[] ∧
  Calls Try.prog 10 #[(.pointer x26)] w76 (Ret fun v_36 w77 => ∃ (x93_3 : Int), v_36 = (.int .i64 x93_3) ∧
  ((x93_3 != (4 : Int)) = true →
  R (.bool false) w77) ∧
  ((x93_3 != (4 : Int)) = false →
  Calls Try.prog 14 #[(.pointer x26)] w77 (Ret fun v_37 w78 => v_37 = .tuple #[] ∧
  ∃ vI_8 : Int → Nat → World → Prop, (∃ vk_29 : Nat, vI_8 0 vk_29 w78) ∧
  ∀ (jk : Nat → Value) (vk_30 : Int), ∀ (vk_27 : Nat) (w79 : World), vI_8 vk_30 vk_27 w79 →
  (decide (vk_30 < (8 : Int)) = true →
  Calls Try.prog 15 #[(.pointer x26), (.int .i64 vk_30)] w79 (Ret fun v_38 w80 => ∃ (x104_0_3 : ByteArray), ∃ (x104_1_3 : Int), v_38 = (.tuple #[(.string x104_0_3), (.int .i64 x104_1_3)]) ∧
  ((x104_1_3 != (0 : Int)) = true →
  R (.bool false) w80) ∧
  ((x104_1_3 != (0 : Int)) = false →
  (0 ≤ vk_30 ∧ vk_30 < (8 : Int)) ∧
  ∃ (x112_3 : Int), w80.cell? ((⟨w2.heap.size, 0, none⟩ : Addr).add (vk_30.toNat * 1)) = some (.int .u8 x112_3) ∧
  Calls Try.prog 12 #[(.int .u8 x112_3)] w80 (Ret fun v_39 w81 => ∃ (x113_3 : ByteArray), v_39 = (.string x113_3) ∧
  ∃ vI_9 : Bool → Int → Nat → World → Prop, (∃ vk_33 : Nat, vI_9 (x104_0_3.toList == x113_3.toList) 0 vk_33 w81) ∧
  ∀ (jk : Nat → Value) (found_3 : Bool) (i_5 : Int), ∀ (vk_31 : Nat) (w82 : World), vI_9 found_3 i_5 vk_31 w82 →
  (decide (i_5 < ((listN : Nat) : Int)) = true →
  (found_3 = true →
  ∃ vk_32 : Nat, vk_32 < vk_31 ∧ vI_9 true (IntKind.i64.wrap (i_5 + 1)) vk_32 w82) ∧
  (found_3 = false →
  (0 ≤ i_5 ∧ i_5 < ((listN : Nat) : Int)) ∧ someV listA fun p_22 =>
  ∃ (x127_3 : Int), w82.cell? (p_22.add (i_5.toNat * 1)) = some (.int .u8 x127_3) ∧
  (8 : Int) ≠ 0 ∧
  (((IntKind.i64.wrap (Int.tmod x127_3 8)) == vk_30) = true →
  (0 ≤ i_5 ∧ i_5 < ((listN : Nat) : Int)) ∧ someV listA fun p_23 =>
  ∃ (x137_3 : Int), w82.cell? (p_23.add (i_5.toNat * 1)) = some (.int .u8 x137_3) ∧
  Calls Try.prog 12 #[(.int .u8 x137_3)] w82 (Ret fun v_40 w83 => ∃ (x138_3 : ByteArray), v_40 = (.string x138_3) ∧
  ∃ vk_32 : Nat, vk_32 < vk_31 ∧ vI_9 (x104_0_3.toList == x138_3.toList) (IntKind.i64.wrap (i_5 + 1)) vk_32 w83)) ∧
  (((IntKind.i64.wrap (Int.tmod x127_3 8)) == vk_30) = false →
  ∃ vk_32 : Nat, vk_32 < vk_31 ∧ vI_9 false (IntKind.i64.wrap (i_5 + 1)) vk_32 w82))) ∧
  (decide (i_5 < ((listN : Nat) : Int)) = false →
  ((!found_3) = true →
  R (.bool false) w82) ∧
  ((!found_3) = false →
  ∃ vk_28 : Nat, vk_28 < vk_27 ∧ vI_8 (IntKind.i64.wrap (vk_30 + 1)) vk_28 w82)))))) ∧
  (decide (vk_30 < (8 : Int)) = false →
  Calls Try.prog 16 #[(.pointer x26)] w79 (Ret fun v_41 w84 => ∃ (x145_3 : Int), v_41 = (.int .i64 x145_3) ∧
  R (.bool (x145_3 == (0 : Int))) w84))))))))))))))
theorem coadjutorlaw04_DiskSynced.vc_eq (listA : Option Addr) (listN : Nat) (listC : Nat) (sync : Int) (keepA : Option Addr) (keepN : Nat) (keepC : Nat) (w : World) (R : Value → World → Prop) : fnV Try.prog Try.f3 (.c .nil (.at_ 3 3 (.k .nil) (.c .nil (.c (.lp [(6, none), (10, some (.int .i64)), (39, none), (40, none), (41, none), (42, none), (43, none), (44, none), (45, none), (46, none), (47, none), (48, none), (49, none), (50, none), (51, none), (52, none), (53, none), (54, none), (55, none), (56, none), (57, none), (58, none), (59, none), (60, none), (61, none), (62, none), (63, none), (64, none), (65, none), (66, none), (67, none), (68, none), (69, none), (70, none), (71, none), (72, none), (73, none), (74, none), (75, none), (76, none), (77, none), (78, none), (79, none)] (.c (.at_ 13 3 (.c .nil (.tk 0 (.tk 1 (.tk 2 (.tk 3 (.tk 4 (.tk 5 (.tk 6 (.tk 7 (.tk 8 (.tk 9 (.tk 10 (.alt 11 (.alt 12 (.tk 13 (.fin (.c .nil (.c (.tk 0 (.tk 1 (.tk 2 (.tk 3 (.tk 4 (.tk 5 (.tk 6 (.tk 7 (.tk 8 (.tk 9 (.alt 10 (.fin .nil) .nil))))))))))) .nil)))) .nil) .nil))))))))))))) (.k (.tk 0 (.tk 1 (.tk 2 (.tk 3 (.tk 4 (.tk 5 (.tk 6 (.tk 7 (.tk 8 (.tk 9 (.tk 10 (.alt 11 (.alt 12 (.tk 13 (.fin (.c .nil (.c (.tk 0 (.tk 1 (.tk 2 (.tk 3 (.tk 4 (.tk 5 (.tk 6 (.tk 7 (.tk 8 (.tk 9 (.alt 10 (.fin .nil) .nil))))))))))) .nil)))) .nil) .nil)))))))))))))) (.at_ 19 4 (.c .nil (.c .nil (.lp [(6, none), (11, some (.int .i64)), (12, none), (13, none), (14, none), (15, none), (97, none), (98, none), (99, none), (100, none), (101, none), (102, none), (103, none), (104, none), (105, none), (106, none), (107, none), (108, none), (109, none), (110, none), (111, none), (112, none), (113, none), (114, none), (115, none), (116, none), (117, none), (118, none), (119, none), (120, none), (121, none), (122, none), (123, none), (124, none), (125, none), (126, none), (127, none), (128, none), (129, none), (130, none), (131, none), (132, none), (133, none), (134, none), (135, none), (136, none), (137, none), (138, none), (139, none), (140, none), (141, none), (142, none), (143, none)] (.c (.c .nil (.lp [(14, some (.bool)), (15, some (.int .i64)), (116, none), (117, none), (118, none), (119, none), (120, none), (121, none), (122, none), (123, none), (124, none), (125, none), (126, none), (127, none), (128, none), (129, none), (130, none), (131, none), (132, none), (133, none), (134, none), (135, none), (136, none), (137, none), (138, none), (139, none), (140, none), (141, none)] (.c (.at_ 35 1 .nil (.at_ 35 10 .nil .nil)) (.c .nil .nil)))) .nil)))) (.k (.c .nil (.lp [(6, none), (11, some (.int .i64)), (12, none), (13, none), (14, none), (15, none), (97, none), (98, none), (99, none), (100, none), (101, none), (102, none), (103, none), (104, none), (105, none), (106, none), (107, none), (108, none), (109, none), (110, none), (111, none), (112, none), (113, none), (114, none), (115, none), (116, none), (117, none), (118, none), (119, none), (120, none), (121, none), (122, none), (123, none), (124, none), (125, none), (126, none), (127, none), (128, none), (129, none), (130, none), (131, none), (132, none), (133, none), (134, none), (135, none), (136, none), (137, none), (138, none), (139, none), (140, none), (141, none), (142, none), (143, none)] (.c (.c .nil (.lp [(14, some (.bool)), (15, some (.int .i64)), (116, none), (117, none), (118, none), (119, none), (120, none), (121, none), (122, none), (123, none), (124, none), (125, none), (126, none), (127, none), (128, none), (129, none), (130, none), (131, none), (132, none), (133, none), (134, none), (135, none), (136, none), (137, none), (138, none), (139, none), (140, none), (141, none)] (.c (.at_ 35 1 .nil (.at_ 35 10 .nil .nil)) (.c .nil .nil)))) .nil))))))) (.lp [(6, none), (10, some (.int .i64)), (39, none), (40, none), (41, none), (42, none), (43, none), (44, none), (45, none), (46, none), (47, none), (48, none), (49, none), (50, none), (51, none), (52, none), (53, none), (54, none), (55, none), (56, none), (57, none), (58, none), (59, none), (60, none), (61, none), (62, none), (63, none), (64, none), (65, none), (66, none), (67, none), (68, none), (69, none), (70, none), (71, none), (72, none), (73, none), (74, none), (75, none), (76, none), (77, none), (78, none), (79, none)] (.c (.at_ 13 3 (.c .nil (.tk 0 (.tk 1 (.tk 2 (.tk 3 (.tk 4 (.tk 5 (.tk 6 (.tk 7 (.tk 8 (.tk 9 (.tk 10 (.alt 11 (.alt 12 (.tk 13 (.fin (.c .nil (.c (.tk 0 (.tk 1 (.tk 2 (.tk 3 (.tk 4 (.tk 5 (.tk 6 (.tk 7 (.tk 8 (.tk 9 (.alt 10 (.fin .nil) .nil))))))))))) .nil)))) .nil) .nil))))))))))))) (.k (.tk 0 (.tk 1 (.tk 2 (.tk 3 (.tk 4 (.tk 5 (.tk 6 (.tk 7 (.tk 8 (.tk 9 (.tk 10 (.alt 11 (.alt 12 (.tk 13 (.fin (.c .nil (.c (.tk 0 (.tk 1 (.tk 2 (.tk 3 (.tk 4 (.tk 5 (.tk 6 (.tk 7 (.tk 8 (.tk 9 (.alt 10 (.fin .nil) .nil))))))))))) .nil)))) .nil) .nil)))))))))))))) (.at_ 19 4 (.c .nil (.c .nil (.lp [(6, none), (11, some (.int .i64)), (12, none), (13, none), (14, none), (15, none), (97, none), (98, none), (99, none), (100, none), (101, none), (102, none), (103, none), (104, none), (105, none), (106, none), (107, none), (108, none), (109, none), (110, none), (111, none), (112, none), (113, none), (114, none), (115, none), (116, none), (117, none), (118, none), (119, none), (120, none), (121, none), (122, none), (123, none), (124, none), (125, none), (126, none), (127, none), (128, none), (129, none), (130, none), (131, none), (132, none), (133, none), (134, none), (135, none), (136, none), (137, none), (138, none), (139, none), (140, none), (141, none), (142, none), (143, none)] (.c (.c .nil (.lp [(14, some (.bool)), (15, some (.int .i64)), (116, none), (117, none), (118, none), (119, none), (120, none), (121, none), (122, none), (123, none), (124, none), (125, none), (126, none), (127, none), (128, none), (129, none), (130, none), (131, none), (132, none), (133, none), (134, none), (135, none), (136, none), (137, none), (138, none), (139, none), (140, none), (141, none)] (.c (.at_ 35 1 .nil (.at_ 35 10 .nil .nil)) (.c .nil .nil)))) .nil)))) (.k (.c .nil (.lp [(6, none), (11, some (.int .i64)), (12, none), (13, none), (14, none), (15, none), (97, none), (98, none), (99, none), (100, none), (101, none), (102, none), (103, none), (104, none), (105, none), (106, none), (107, none), (108, none), (109, none), (110, none), (111, none), (112, none), (113, none), (114, none), (115, none), (116, none), (117, none), (118, none), (119, none), (120, none), (121, none), (122, none), (123, none), (124, none), (125, none), (126, none), (127, none), (128, none), (129, none), (130, none), (131, none), (132, none), (133, none), (134, none), (135, none), (136, none), (137, none), (138, none), (139, none), (140, none), (141, none), (142, none), (143, none)] (.c (.c .nil (.lp [(14, some (.bool)), (15, some (.int .i64)), (116, none), (117, none), (118, none), (119, none), (120, none), (121, none), (122, none), (123, none), (124, none), (125, none), (126, none), (127, none), (128, none), (129, none), (130, none), (131, none), (132, none), (133, none), (134, none), (135, none), (136, none), (137, none), (138, none), (139, none), (140, none), (141, none)] (.c (.at_ 35 1 .nil (.at_ 35 10 .nil .nil)) (.c .nil .nil)))) .nil))))))))))) [(.slice listA listN listC), (.int .i64 sync), (.slice keepA keepN keepC)] w R = coadjutorlaw04_DiskSynced.vc listA listN listC sync keepA keepN keepC w R := by kernel_rfl
theorem coadjutorlaw04_DiskSynced.calls (listA : Option Addr) (listN : Nat) (listC : Nat) (sync : Int) (keepA : Option Addr) (keepN : Nat) (keepC : Nat) {w : World} {R : Value → World → Prop} (h : coadjutorlaw04_DiskSynced.vc listA listN listC sync keepA keepN keepC w R) : Calls Try.prog 3 #[(.slice listA listN listC), (.int .i64 sync), (.slice keepA keepN keepC)] w (Ret R) :=
  calls_V fit Try.func3 (.c .nil (.at_ 3 3 (.k .nil) (.c .nil (.c (.lp [(6, none), (10, some (.int .i64)), (39, none), (40, none), (41, none), (42, none), (43, none), (44, none), (45, none), (46, none), (47, none), (48, none), (49, none), (50, none), (51, none), (52, none), (53, none), (54, none), (55, none), (56, none), (57, none), (58, none), (59, none), (60, none), (61, none), (62, none), (63, none), (64, none), (65, none), (66, none), (67, none), (68, none), (69, none), (70, none), (71, none), (72, none), (73, none), (74, none), (75, none), (76, none), (77, none), (78, none), (79, none)] (.c (.at_ 13 3 (.c .nil (.tk 0 (.tk 1 (.tk 2 (.tk 3 (.tk 4 (.tk 5 (.tk 6 (.tk 7 (.tk 8 (.tk 9 (.tk 10 (.alt 11 (.alt 12 (.tk 13 (.fin (.c .nil (.c (.tk 0 (.tk 1 (.tk 2 (.tk 3 (.tk 4 (.tk 5 (.tk 6 (.tk 7 (.tk 8 (.tk 9 (.alt 10 (.fin .nil) .nil))))))))))) .nil)))) .nil) .nil))))))))))))) (.k (.tk 0 (.tk 1 (.tk 2 (.tk 3 (.tk 4 (.tk 5 (.tk 6 (.tk 7 (.tk 8 (.tk 9 (.tk 10 (.alt 11 (.alt 12 (.tk 13 (.fin (.c .nil (.c (.tk 0 (.tk 1 (.tk 2 (.tk 3 (.tk 4 (.tk 5 (.tk 6 (.tk 7 (.tk 8 (.tk 9 (.alt 10 (.fin .nil) .nil))))))))))) .nil)))) .nil) .nil)))))))))))))) (.at_ 19 4 (.c .nil (.c .nil (.lp [(6, none), (11, some (.int .i64)), (12, none), (13, none), (14, none), (15, none), (97, none), (98, none), (99, none), (100, none), (101, none), (102, none), (103, none), (104, none), (105, none), (106, none), (107, none), (108, none), (109, none), (110, none), (111, none), (112, none), (113, none), (114, none), (115, none), (116, none), (117, none), (118, none), (119, none), (120, none), (121, none), (122, none), (123, none), (124, none), (125, none), (126, none), (127, none), (128, none), (129, none), (130, none), (131, none), (132, none), (133, none), (134, none), (135, none), (136, none), (137, none), (138, none), (139, none), (140, none), (141, none), (142, none), (143, none)] (.c (.c .nil (.lp [(14, some (.bool)), (15, some (.int .i64)), (116, none), (117, none), (118, none), (119, none), (120, none), (121, none), (122, none), (123, none), (124, none), (125, none), (126, none), (127, none), (128, none), (129, none), (130, none), (131, none), (132, none), (133, none), (134, none), (135, none), (136, none), (137, none), (138, none), (139, none), (140, none), (141, none)] (.c (.at_ 35 1 .nil (.at_ 35 10 .nil .nil)) (.c .nil .nil)))) .nil)))) (.k (.c .nil (.lp [(6, none), (11, some (.int .i64)), (12, none), (13, none), (14, none), (15, none), (97, none), (98, none), (99, none), (100, none), (101, none), (102, none), (103, none), (104, none), (105, none), (106, none), (107, none), (108, none), (109, none), (110, none), (111, none), (112, none), (113, none), (114, none), (115, none), (116, none), (117, none), (118, none), (119, none), (120, none), (121, none), (122, none), (123, none), (124, none), (125, none), (126, none), (127, none), (128, none), (129, none), (130, none), (131, none), (132, none), (133, none), (134, none), (135, none), (136, none), (137, none), (138, none), (139, none), (140, none), (141, none), (142, none), (143, none)] (.c (.c .nil (.lp [(14, some (.bool)), (15, some (.int .i64)), (116, none), (117, none), (118, none), (119, none), (120, none), (121, none), (122, none), (123, none), (124, none), (125, none), (126, none), (127, none), (128, none), (129, none), (130, none), (131, none), (132, none), (133, none), (134, none), (135, none), (136, none), (137, none), (138, none), (139, none), (140, none), (141, none)] (.c (.at_ 35 1 .nil (.at_ 35 10 .nil .nil)) (.c .nil .nil)))) .nil))))))) (.lp [(6, none), (10, some (.int .i64)), (39, none), (40, none), (41, none), (42, none), (43, none), (44, none), (45, none), (46, none), (47, none), (48, none), (49, none), (50, none), (51, none), (52, none), (53, none), (54, none), (55, none), (56, none), (57, none), (58, none), (59, none), (60, none), (61, none), (62, none), (63, none), (64, none), (65, none), (66, none), (67, none), (68, none), (69, none), (70, none), (71, none), (72, none), (73, none), (74, none), (75, none), (76, none), (77, none), (78, none), (79, none)] (.c (.at_ 13 3 (.c .nil (.tk 0 (.tk 1 (.tk 2 (.tk 3 (.tk 4 (.tk 5 (.tk 6 (.tk 7 (.tk 8 (.tk 9 (.tk 10 (.alt 11 (.alt 12 (.tk 13 (.fin (.c .nil (.c (.tk 0 (.tk 1 (.tk 2 (.tk 3 (.tk 4 (.tk 5 (.tk 6 (.tk 7 (.tk 8 (.tk 9 (.alt 10 (.fin .nil) .nil))))))))))) .nil)))) .nil) .nil))))))))))))) (.k (.tk 0 (.tk 1 (.tk 2 (.tk 3 (.tk 4 (.tk 5 (.tk 6 (.tk 7 (.tk 8 (.tk 9 (.tk 10 (.alt 11 (.alt 12 (.tk 13 (.fin (.c .nil (.c (.tk 0 (.tk 1 (.tk 2 (.tk 3 (.tk 4 (.tk 5 (.tk 6 (.tk 7 (.tk 8 (.tk 9 (.alt 10 (.fin .nil) .nil))))))))))) .nil)))) .nil) .nil)))))))))))))) (.at_ 19 4 (.c .nil (.c .nil (.lp [(6, none), (11, some (.int .i64)), (12, none), (13, none), (14, none), (15, none), (97, none), (98, none), (99, none), (100, none), (101, none), (102, none), (103, none), (104, none), (105, none), (106, none), (107, none), (108, none), (109, none), (110, none), (111, none), (112, none), (113, none), (114, none), (115, none), (116, none), (117, none), (118, none), (119, none), (120, none), (121, none), (122, none), (123, none), (124, none), (125, none), (126, none), (127, none), (128, none), (129, none), (130, none), (131, none), (132, none), (133, none), (134, none), (135, none), (136, none), (137, none), (138, none), (139, none), (140, none), (141, none), (142, none), (143, none)] (.c (.c .nil (.lp [(14, some (.bool)), (15, some (.int .i64)), (116, none), (117, none), (118, none), (119, none), (120, none), (121, none), (122, none), (123, none), (124, none), (125, none), (126, none), (127, none), (128, none), (129, none), (130, none), (131, none), (132, none), (133, none), (134, none), (135, none), (136, none), (137, none), (138, none), (139, none), (140, none), (141, none)] (.c (.at_ 35 1 .nil (.at_ 35 10 .nil .nil)) (.c .nil .nil)))) .nil)))) (.k (.c .nil (.lp [(6, none), (11, some (.int .i64)), (12, none), (13, none), (14, none), (15, none), (97, none), (98, none), (99, none), (100, none), (101, none), (102, none), (103, none), (104, none), (105, none), (106, none), (107, none), (108, none), (109, none), (110, none), (111, none), (112, none), (113, none), (114, none), (115, none), (116, none), (117, none), (118, none), (119, none), (120, none), (121, none), (122, none), (123, none), (124, none), (125, none), (126, none), (127, none), (128, none), (129, none), (130, none), (131, none), (132, none), (133, none), (134, none), (135, none), (136, none), (137, none), (138, none), (139, none), (140, none), (141, none), (142, none), (143, none)] (.c (.c .nil (.lp [(14, some (.bool)), (15, some (.int .i64)), (116, none), (117, none), (118, none), (119, none), (120, none), (121, none), (122, none), (123, none), (124, none), (125, none), (126, none), (127, none), (128, none), (129, none), (130, none), (131, none), (132, none), (133, none), (134, none), (135, none), (136, none), (137, none), (138, none), (139, none), (140, none), (141, none)] (.c (.at_ 35 1 .nil (.at_ 35 10 .nil .nil)) (.c .nil .nil)))) .nil))))))))))) (by rw [show (#[(.slice listA listN listC), (.int .i64 sync), (.slice keepA keepN keepC)] : Array Value).toList = [(.slice listA listN listC), (.int .i64 sync), (.slice keepA keepN keepC)] from rfl, coadjutorlaw04_DiskSynced.vc_eq]; exact h)
end Go.Proofs.Ytpefegcdcojokaa.Vc
