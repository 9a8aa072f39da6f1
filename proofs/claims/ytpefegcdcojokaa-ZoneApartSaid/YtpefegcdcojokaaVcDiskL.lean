import Derived.Test.YtpefegcdcojokaaVc
import Derived.Test.YtpefegcdcojokaaH
import Derived.Test.YtpefegcdcojokaaProg
import Derived.KernelRfl
set_option linter.unusedVariables false
set_option maxRecDepth 100000
namespace Go.Proofs.Ytpefegcdcojokaa.Vc
open Go Go.Proofs Go.Proofs.Ytpefegcdcojokaa.V
/-- function 12 -/
def coadjutorlaw04_of.vc (b : Int) (w : World) (R : Value → World → Prop) : Prop :=
  ((32 : Int) = (32 : Int) ∧ 0 ≤ (32 : Int) ∧ (32 : Int) * (1 : Int) ≤ 140737488355328) ∧ ∀ w1 : World, w1 = w.alloc (.cells (zeroRow [(.int .u8 0)] (32 : Int).toNat).toArray 5 (0, 0)) →
  ∃ vI : Int → Nat → World → Prop, (∃ vk_2 : Nat, vI 0 vk_2 w1) ∧
  ∀ (jk : Nat → Value) (i : Int), ∀ (vk : Nat) (w2 : World), vI i vk w2 →
  (decide (i < (((32 : Int).toNat : Nat) : Int)) = true →
  (0 ≤ i ∧ i < (((32 : Int).toNat : Nat) : Int)) ∧
  (((∃ u, w2.cell? ((⟨w.heap.size, 0, none⟩ : Addr).add (i.toNat * 1)) = some u) ∧ w2.frozen? ((⟨w.heap.size, 0, none⟩ : Addr).add (i.toNat * 1)) = false)) ∧ ∀ w3 : World, w3 = (w2.setCell ((⟨w.heap.size, 0, none⟩ : Addr).add (i.toNat * 1)) (.int .u8 b)) →
  ∃ vk_1 : Nat, vk_1 < vk ∧ vI (IntKind.i64.wrap (i + 1)) vk_1 w3) ∧
  (decide (i < (((32 : Int).toNat : Nat) : Int)) = false →
  ∃ (x17 : ByteArray), ∃ w4 : World, (convert 22 9 (.slice (some (⟨w.heap.size, 0, none⟩ : Addr)) ((32 : Int).toNat) ((32 : Int).toNat))).run Try.prog w2 = .ok (.string x17) w4 ∧
  R (.string x17) w4)
theorem coadjutorlaw04_of.vc_eq (b : Int) (w : World) (R : Value → World → Prop) : fnV Try.prog Try.f12 (.lp [(4, some (.int .i64)), (6, none), (7, none), (8, none), (9, none), (10, none), (11, none), (12, none), (13, none), (14, none), (15, none)] (.c .nil .nil)) [(.int .u8 b)] w R = coadjutorlaw04_of.vc b w R := by kernel_rfl
theorem coadjutorlaw04_of.calls (b : Int) {w : World} {R : Value → World → Prop} (h : coadjutorlaw04_of.vc b w R) : Calls Try.prog 12 #[(.int .u8 b)] w (Ret R) :=
  calls_V fit Try.func12 (.lp [(4, some (.int .i64)), (6, none), (7, none), (8, none), (9, none), (10, none), (11, none), (12, none), (13, none), (14, none), (15, none)] (.c .nil .nil)) (by rw [show (#[(.int .u8 b)] : Array Value).toList = [(.int .u8 b)] from rfl, coadjutorlaw04_of.vc_eq]; exact h)
/-- function 8 -/
def coadjutorlaw04_awake.vc (w : World) (R : Value → World → Prop) : Prop :=
  Calls Try.prog 9 #[(.int .i64 3)] w (Ret fun v w1 => ∃ (x8 : Option Addr), v = (.pointer x8) ∧
  (x8.isNone = true →
  R (.bool false) w1) ∧
  (x8.isNone = false →
  Calls Try.prog 12 #[(.int .u8 97)] w1 (Ret fun v_1 w2 => ∃ (x12 : ByteArray), v_1 = (.string x12) ∧
  Calls Try.prog 11 #[(.pointer x8), (.int .i64 0), (.string x12)] w2 (Ret fun v_2 w3 => ∃ (x13 : Int), v_2 = (.int .i64 x13) ∧
  Calls Try.prog 12 #[(.int .u8 98)] w3 (Ret fun v_3 w4 => ∃ (x15 : ByteArray), v_3 = (.string x15) ∧
  Calls Try.prog 11 #[(.pointer x8), (.int .i64 1), (.string x15)] w4 (Ret fun v_4 w5 => ∃ (x16 : Int), v_4 = (.int .i64 x16) ∧
  Calls Try.prog 16 #[(.pointer x8)] w5 (Ret fun v_5 w6 => ∃ (x18 : Int), v_5 = (.int .i64 x18) ∧
  ∀ w7 : World, w7 = w6.alloc (.cells #[(.bool false), (.bool true)] 4 (0, 0)) →
  Calls Try.prog 13 #[(.pointer x8), (.slice (some (⟨w6.heap.size, 0, none⟩ : Addr)) 2 2)] w7 (Ret fun v_6 w8 => v_6 = .tuple #[] ∧
  Calls Try.prog 21 #[(.pointer x8)] w8 (Ret fun v_7 w9 => ∃ (x23 : Bool), v_7 = (.bool x23) ∧
  Calls Try.prog 14 #[(.pointer x8)] w9 (Ret fun v_8 w10 => v_8 = .tuple #[] ∧
  Calls Try.prog 15 #[(.pointer x8), (.int .i64 1)] w10 (Ret fun v_9 w11 => ∃ (x28_0 : ByteArray), ∃ (x28_1 : Int), v_9 = (.tuple #[(.string x28_0), (.int .i64 x28_1)]) ∧
  ((x13 == (0 : Int)) = true →
  ((x16 == (0 : Int)) = true →
  ((x18 == (2 : Int)) = true →
  ((!x23) = true →
  ((x28_1 == (0 : Int)) = true →
  Calls Try.prog 12 #[(.int .u8 98)] w11 (Ret fun v_10 w12 => ∃ (x51 : ByteArray), v_10 = (.string x51) ∧
  ((x28_0.toList == x51.toList) = true →
  Calls Try.prog 18 #[(.pointer x8)] w12 (Ret fun v_11 w13 => ∃ (x56 : ByteArray), v_11 = (.string x56) ∧
  Calls Try.prog 12 #[(.int .u8 0)] w13 (Ret fun v_12 w14 => ∃ (x57 : ByteArray), v_12 = (.string x57) ∧
  Calls Try.prog 12 #[(.int .u8 98)] w14 (Ret fun v_13 w15 => ∃ (x58 : ByteArray), v_13 = (.string x58) ∧
  ((x57.size + x58.size : Nat) : Int) ≤ 9223372036854775807 ∧
  Calls Try.prog 12 #[(.int .u8 0)] w15 (Ret fun v_14 w16 => ∃ (x60 : ByteArray), v_14 = (.string x60) ∧
  (((x57 ++ x58).size + x60.size : Nat) : Int) ≤ 9223372036854775807 ∧
  ((x56.toList == ((x57 ++ x58) ++ x60).toList) = true →
  Calls Try.prog 19 #[(.pointer x8)] w16 (Ret fun v_15 w17 => ∃ (x66 : Int), v_15 = (.int .i64 x66) ∧
  ((x66 == (3 : Int)) = true →
  Calls Try.prog 22 #[(.pointer x8)] w17 (Ret fun v_16 w18 => ∃ (x71 : Int), v_16 = (.int .i64 x71) ∧
  R (.bool (x71 == (2 : Int))) w18)) ∧
  ((x66 == (3 : Int)) = false →
  R (.bool false) w17))) ∧
  ((x56.toList == ((x57 ++ x58) ++ x60).toList) = false →
  R (.bool false) w16)))))) ∧
  ((x28_0.toList == x51.toList) = false →
  R (.bool false) w12))) ∧
  ((x28_1 == (0 : Int)) = false →
  R (.bool false) w11)) ∧
  ((!x23) = false →
  R (.bool false) w11)) ∧
  ((x18 == (2 : Int)) = false →
  R (.bool false) w11)) ∧
  ((x16 == (0 : Int)) = false →
  R (.bool false) w11)) ∧
  ((x13 == (0 : Int)) = false →
  R (.bool false) w11))))))))))))
theorem coadjutorlaw04_awake.vc_eq (w : World) (R : Value → World → Prop) : fnV Try.prog Try.f8 (.c .nil (.at_ 11 2 (.at_ 11 6 (.at_ 11 10 (.at_ 11 14 (.at_ 11 18 (.at_ 11 23 (.at_ 11 33 (.at_ 11 38 .nil .nil) .nil) .nil) .nil) .nil) .nil) .nil) .nil)) [] w R = coadjutorlaw04_awake.vc  w R := by kernel_rfl
theorem coadjutorlaw04_awake.calls {w : World} {R : Value → World → Prop} (h : coadjutorlaw04_awake.vc  w R) : Calls Try.prog 8 #[] w (Ret R) :=
  calls_V fit Try.func8 (.c .nil (.at_ 11 2 (.at_ 11 6 (.at_ 11 10 (.at_ 11 14 (.at_ 11 18 (.at_ 11 23 (.at_ 11 33 (.at_ 11 38 .nil .nil) .nil) .nil) .nil) .nil) .nil) .nil) .nil)) (by rw [show (#[] : Array Value).toList = [] from rfl, coadjutorlaw04_awake.vc_eq]; exact h)
/-- function 5 -/
def coadjutorlaw04_DiskFuse.vc (listA : Option Addr) (listN : Nat) (listC : Nat) (fuse : Int) (w : World) (R : Value → World → Prop) : Prop :=
  Calls Try.prog 8 #[] w (Ret fun v w1 => ∃ (x9 : Bool), v = (.bool x9) ∧
  ((!x9) = true →
  R (.bool false) w1) ∧
  ((!x9) = false →
  Calls Try.prog 9 #[(.int .i64 4)] w1 (Ret fun v_1 w2 => ∃ (x11 : Option Addr), v_1 = (.pointer x11) ∧
  (31 : Int) ≠ 0 ∧
  ∀ w3 : World, w3 = w2.alloc (.cells #[(.bool true), (.bool true), (.bool true), (.bool true), (.bool true), (.bool true), (.bool true), (.bool true), (.bool true), (.bool true)] 4 (0, 0)) →
  Calls Try.prog 20 #[(.pointer x11), (.int .i64 (IntKind.i64.wrap (Int.tmod (IntKind.u64.wrap fuse) 31))), (.slice (some (⟨w2.heap.size, 0, none⟩ : Addr)) 10 10)] w3 (Ret fun v_2 w4 => v_2 = .tuple #[] ∧
  ∃ vI : Int → Nat → World → Prop, (∃ vk_2 : Nat, vI 0 vk_2 w4) ∧
  ∀ (jk : Nat → Value) (i : Int), ∀ (vk : Nat) (w5 : World), vI i vk w5 →
  (decide (i < ((listN : Nat) : Int)) = true →
  (decide (i < (30 : Int)) = true →
  (0 ≤ i ∧ i < ((listN : Nat) : Int)) ∧ someV listA fun p =>
  ∃ (x33 : Int), w5.cell? (p.add (i.toNat * 1)) = some (.int .u8 x33) ∧
  (5 : Int) ≠ 0 ∧
  (((Int.tmod x33 5) == (0 : Int)) = true →
  Calls Try.prog 10 #[(.pointer x11)] w5 (Ret fun v_3 w6 => ∃ (x37 : Int), v_3 = (.int .i64 x37) ∧
  ((!((x37 == (0 : Int)) == (decide (i < (IntKind.i64.wrap (Int.tmod (IntKind.u64.wrap fuse) 31)))))) = true →
  R (.bool false) w6) ∧
  ((!((x37 == (0 : Int)) == (decide (i < (IntKind.i64.wrap (Int.tmod (IntKind.u64.wrap fuse) 31)))))) = false →
  ((x37 != (0 : Int)) = true →
  ((x37 != (4 : Int)) = true →
  R (.bool false) w6) ∧
  ((x37 != (4 : Int)) = false →
  Calls Try.prog 21 #[(.pointer x11)] w6 (Ret fun v_4 w7 => ∃ (x67 : Bool), v_4 = (.bool x67) ∧
  ((!(x67 == (decide (i < (IntKind.i64.wrap (Int.tmod (IntKind.u64.wrap fuse) 31)))))) = true →
  R (.bool false) w7) ∧
  ((!(x67 == (decide (i < (IntKind.i64.wrap (Int.tmod (IntKind.u64.wrap fuse) 31)))))) = false →
  ∃ vk_1 : Nat, vk_1 < vk ∧ vI (IntKind.i64.wrap (i + 1)) vk_1 w7)))) ∧
  ((x37 != (0 : Int)) = false →
  Calls Try.prog 21 #[(.pointer x11)] w6 (Ret fun v_5 w8 => ∃ (x67_1 : Bool), v_5 = (.bool x67_1) ∧
  ((!(x67_1 == (decide (i < (IntKind.i64.wrap (Int.tmod (IntKind.u64.wrap fuse) 31)))))) = true →
  R (.bool false) w8) ∧
  ((!(x67_1 == (decide (i < (IntKind.i64.wrap (Int.tmod (IntKind.u64.wrap fuse) 31)))))) = false →
  ∃ vk_1 : Nat, vk_1 < vk ∧ vI (IntKind.i64.wrap (i + 1)) vk_1 w8)))))) ∧
  (((Int.tmod x33 5) == (0 : Int)) = false →
  ∃ vS : World → Prop, ∀ w9 : World, w9 = w5.drew → vS w9 ∧
  (0 ≤ i ∧ i < ((listN : Nat) : Int)) ∧ someV listA fun p_1 =>
  ∃ (x42 : Int), (∀ w10, vS w10 → w10.cell? (p_1.add (i.toNat * 1)) = some (.int .u8 x42)) ∧
  (4 : Int) ≠ 0 ∧
  (0 ≤ i ∧ i < ((listN : Nat) : Int)) ∧ someV listA fun p_2 =>
  ∃ (x48 : Int), (∀ w11, vS w11 → w11.cell? (p_2.add (i.toNat * 1)) = some (.int .u8 x48)) ∧
  Calls Try.prog 12 #[(.int .u8 x48)] w9 (Ret fun v_6 w12 => ∃ (x49 : ByteArray), v_6 = (.string x49) ∧
  vS w12 ∧
  Calls Try.prog 11 #[(.pointer x11), (.int .i64 (IntKind.i64.wrap (Int.tmod x42 4))), (.string x49)] w12 (Ret fun v_7 w13 => ∃ (x50 : Int), v_7 = (.int .i64 x50) ∧
  vS w13 ∧
  ((!((x50 == (0 : Int)) == (decide (i < (IntKind.i64.wrap (Int.tmod (IntKind.u64.wrap fuse) 31)))))) = true →
  R (.bool false) w13) ∧
  ((!((x50 == (0 : Int)) == (decide (i < (IntKind.i64.wrap (Int.tmod (IntKind.u64.wrap fuse) 31)))))) = false →
  ((x50 != (0 : Int)) = true →
  ((x50 != (4 : Int)) = true →
  R (.bool false) w13) ∧
  ((x50 != (4 : Int)) = false →
  Calls Try.prog 21 #[(.pointer x11)] w13 (Ret fun v_8 w14 => ∃ (x67_2 : Bool), v_8 = (.bool x67_2) ∧
  ((!(x67_2 == (decide (i < (IntKind.i64.wrap (Int.tmod (IntKind.u64.wrap fuse) 31)))))) = true →
  R (.bool false) w14) ∧
  ((!(x67_2 == (decide (i < (IntKind.i64.wrap (Int.tmod (IntKind.u64.wrap fuse) 31)))))) = false →
  ∃ vk_1 : Nat, vk_1 < vk ∧ vI (IntKind.i64.wrap (i + 1)) vk_1 w14)))) ∧
  ((x50 != (0 : Int)) = false →
  Calls Try.prog 21 #[(.pointer x11)] w13 (Ret fun v_9 w15 => ∃ (x67_3 : Bool), v_9 = (.bool x67_3) ∧
  ((!(x67_3 == (decide (i < (IntKind.i64.wrap (Int.tmod (IntKind.u64.wrap fuse) 31)))))) = true →
  R (.bool false) w15) ∧
  ((!(x67_3 == (decide (i < (IntKind.i64.wrap (Int.tmod (IntKind.u64.wrap fuse) 31)))))) = false →
  ∃ vk_1 : Nat, vk_1 < vk ∧ vI (IntKind.i64.wrap (i + 1)) vk_1 w15)))))))) ∧
  (decide (i < (30 : Int)) = false →
  Calls Try.prog 22 #[(.pointer x11)] w5 (Ret fun v_10 w16 => ∃ (x74 : Int), v_10 = (.int .i64 x74) ∧
  R (.bool (x74 == (if (if (30 : Int) < ((listN : Nat) : Int) then (30 : Int) else ((listN : Nat) : Int)) < (IntKind.i64.wrap (Int.tmod (IntKind.u64.wrap fuse) 31)) then (if (30 : Int) < ((listN : Nat) : Int) then (30 : Int) else ((listN : Nat) : Int)) else (IntKind.i64.wrap (Int.tmod (IntKind.u64.wrap fuse) 31))))) w16))) ∧
  (decide (i < ((listN : Nat) : Int)) = false →
  Calls Try.prog 22 #[(.pointer x11)] w5 (Ret fun v_11 w17 => ∃ (x74_1 : Int), v_11 = (.int .i64 x74_1) ∧
  R (.bool (x74_1 == (if (if (30 : Int) < ((listN : Nat) : Int) then (30 : Int) else ((listN : Nat) : Int)) < (IntKind.i64.wrap (Int.tmod (IntKind.u64.wrap fuse) 31)) then (if (30 : Int) < ((listN : Nat) : Int) then (30 : Int) else ((listN : Nat) : Int)) else (IntKind.i64.wrap (Int.tmod (IntKind.u64.wrap fuse) 31))))) w17))))))
theorem coadjutorlaw04_DiskFuse.vc_eq (listA : Option Addr) (listN : Nat) (listC : Nat) (fuse : Int) (w : World) (R : Value → World → Prop) : fnV Try.prog Try.f5 (.c .nil (.lp [(4, none), (7, some (.int .i64)), (8, none), (20, none), (21, none), (22, none), (23, none), (24, none), (25, none), (26, none), (27, none), (28, none), (29, none), (30, none), (31, none), (32, none), (33, none), (34, none), (35, none), (36, none), (37, none), (38, none), (39, none), (40, none), (41, none), (42, none), (43, none), (44, none), (45, none), (46, none), (47, none), (48, none), (49, none), (50, none), (51, none), (52, none), (53, none), (54, none), (55, none), (56, none), (57, none), (58, none), (59, none), (60, none), (61, none), (62, none), (63, none), (64, none), (65, none), (66, none), (67, none), (68, none), (69, none), (70, none), (71, none), (72, none)] (.at_ 7 4 (.c (.c (.at_ 13 6 (.k .nil) (.at_ 13 9 (.at_ 13 14 (.k .nil) (.c .nil .nil)) (.c .nil .nil))) (.tk 0 (.tk 1 (.tk 2 (.tk 3 (.tk 4 (.tk 5 (.tk 6 (.tk 7 (.tk 8 (.tk 9 (.tk 10 (.alt 11 (.alt 12 (.tk 13 (.fin (.at_ 13 6 (.k .nil) (.at_ 13 9 (.at_ 13 14 (.k .nil) (.c .nil .nil)) (.c .nil .nil))))) .nil) .nil))))))))))))) .nil) (.k .nil)))) [(.slice listA listN listC), (.int .i64 fuse)] w R = coadjutorlaw04_DiskFuse.vc listA listN listC fuse w R := by kernel_rfl
theorem coadjutorlaw04_DiskFuse.calls (listA : Option Addr) (listN : Nat) (listC : Nat) (fuse : Int) {w : World} {R : Value → World → Prop} (h : coadjutorlaw04_DiskFuse.vc listA listN listC fuse w R) : Calls Try.prog 5 #[(.slice listA listN listC), (.int .i64 fuse)] w (Ret R) :=
  calls_V fit Try.func5 (.c .nil (.lp [(4, none), (7, some (.int .i64)), (8, none), (20, none), (21, none), (22, none), (23, none), (24, none), (25, none), (26, none), (27, none), (28, none), (29, none), (30, none), (31, none), (32, none), (33, none), (34, none), (35, none), (36, none), (37, none), (38, none), (39, none), (40, none), (41, none), (42, none), (43, none), (44, none), (45, none), (46, none), (47, none), (48, none), (49, none), (50, none), (51, none), (52, none), (53, none), (54, none), (55, none), (56, none), (57, none), (58, none), (59, none), (60, none), (61, none), (62, none), (63, none), (64, none), (65, none), (66, none), (67, none), (68, none), (69, none), (70, none), (71, none), (72, none)] (.at_ 7 4 (.c (.c (.at_ 13 6 (.k .nil) (.at_ 13 9 (.at_ 13 14 (.k .nil) (.c .nil .nil)) (.c .nil .nil))) (.tk 0 (.tk 1 (.tk 2 (.tk 3 (.tk 4 (.tk 5 (.tk 6 (.tk 7 (.tk 8 (.tk 9 (.tk 10 (.alt 11 (.alt 12 (.tk 13 (.fin (.at_ 13 6 (.k .nil) (.at_ 13 9 (.at_ 13 14 (.k .nil) (.c .nil .nil)) (.c .nil .nil))))) .nil) .nil))))))))))))) .nil) (.k .nil)))) (by rw [show (#[(.slice listA listN listC), (.int .i64 fuse)] : Array Value).toList = [(.slice listA listN listC), (.int .i64 fuse)] from rfl, coadjutorlaw04_DiskFuse.vc_eq]; exact h)
/-- function 4 -/
def coadjutorlaw04_DiskCopy.vc (listA : Option Addr) (listN : Nat) (listC : Nat) (sync : Int) (w : World) (R : Value → World → Prop) : Prop :=
  Calls Try.prog 8 #[] w (Ret fun v w1 => ∃ (x11 : Bool), v = (.bool x11) ∧
  ((!x11) = true →
  R (.bool false) w1) ∧
  ((!x11) = false →
  Calls Try.prog 9 #[(.int .i64 6)] w1 (Ret fun v_1 w2 => ∃ (x13 : Option Addr), v_1 = (.pointer x13) ∧
  ∃ vI : Int → Nat → World → Prop, (∃ vk_2 : Nat, vI 0 vk_2 w2) ∧
  ∀ (jk : Nat → Value) (i : Int), ∀ (vk : Nat) (w3 : World), vI i vk w3 →
  (decide (i < ((listN : Nat) : Int)) = true →
  (decide (i < (20 : Int)) = true →
  ∃ vS : World → Prop, ∀ w4 : World, w4 = w3.drew → vS w4 ∧
  (0 ≤ i ∧ i < ((listN : Nat) : Int)) ∧ someV listA fun p =>
  ∃ (x28 : Int), (∀ w5, vS w5 → w5.cell? (p.add (i.toNat * 1)) = some (.int .u8 x28)) ∧
  (6 : Int) ≠ 0 ∧
  (0 ≤ i ∧ i < ((listN : Nat) : Int)) ∧ someV listA fun p_1 =>
  ∃ (x34 : Int), (∀ w6, vS w6 → w6.cell? (p_1.add (i.toNat * 1)) = some (.int .u8 x34)) ∧
  Calls Try.prog 12 #[(.int .u8 x34)] w4 (Ret fun v_2 w7 => ∃ (x35 : ByteArray), v_2 = (.string x35) ∧
  vS w7 ∧
  Calls Try.prog 11 #[(.pointer x13), (.int .i64 (IntKind.i64.wrap (Int.tmod x28 6))), (.string x35)] w7 (Ret fun v_3 w8 => ∃ (x36 : Int), v_3 = (.int .i64 x36) ∧
  vS w8 ∧
  0 ≤ i ∧
  (((Go.bits .and .u64 (Int.fdiv (IntKind.u64.wrap sync) (2 ^ (min i.toNat IntKind.u64.bits))) 1) == (1 : Int)) = true →
  Calls Try.prog 10 #[(.pointer x13)] w8 (Ret fun v_4 w9 => ∃ (x44 : Int), v_4 = (.int .i64 x44) ∧
  ∃ vk_1 : Nat, vk_1 < vk ∧ vI (IntKind.i64.wrap (i + 1)) vk_1 w9)) ∧
  (((Go.bits .and .u64 (Int.fdiv (IntKind.u64.wrap sync) (2 ^ (min i.toNat IntKind.u64.bits))) 1) == (1 : Int)) = false →
  ∃ vk_1 : Nat, vk_1 < vk ∧ vI (IntKind.i64.wrap (i + 1)) vk_1 w8)))) ∧
  (decide (i < (20 : Int)) = false →
  Calls Try.prog 18 #[(.pointer x13)] w3 (Ret fun v_5 w10 => ∃ (x46 : ByteArray), v_5 = (.string x46) ∧
  Calls Try.prog 17 #[(.string x46)] w10 (Ret fun v_6 w11 => ∃ (x47 : Option Addr), v_6 = (.pointer x47) ∧
  Calls Try.prog 18 #[(.pointer x13)] w11 (Ret fun v_7 w12 => ∃ (x49 : ByteArray), v_7 = (.string x49) ∧
  Calls Try.prog 18 #[(.pointer x47)] w12 (Ret fun v_8 w13 => ∃ (x51 : ByteArray), v_8 = (.string x51) ∧
  ((!(x51.toList == x49.toList)) = true →
  R (.bool false) w13) ∧
  ((!(x51.toList == x49.toList)) = false →
  Calls Try.prog 19 #[(.pointer x47)] w13 (Ret fun v_9 w14 => ∃ (x56 : Int), v_9 = (.int .i64 x56) ∧
  ((x56 != (6 : Int)) = true →
  R (.bool false) w14) ∧
  ((x56 != (6 : Int)) = false →
  Calls Try.prog 16 #[(.pointer x47)] w14 (Ret fun v_10 w15 => ∃ (x61 : Int), v_10 = (.int .i64 x61) ∧
  ((x61 != (0 : Int)) = true →
  R (.bool false) w15) ∧
  ((x61 != (0 : Int)) = false →
  Calls Try.prog 12 #[(.int .u8 77)] w15 (Ret fun v_11 w16 => ∃ (x65 : ByteArray), v_11 = (.string x65) ∧
  Calls Try.prog 11 #[(.pointer x47), (.int .i64 2), (.string x65)] w16 (Ret fun v_12 w17 => ∃ (x66 : Int), v_12 = (.int .i64 x66) ∧
  ((x66 != (0 : Int)) = true →
  R (.bool false) w17) ∧
  ((x66 != (0 : Int)) = false →
  Calls Try.prog 10 #[(.pointer x47)] w17 (Ret fun v_13 w18 => ∃ (x70 : Int), v_13 = (.int .i64 x70) ∧
  ((x70 != (0 : Int)) = true →
  R (.bool false) w18) ∧
  ((x70 != (0 : Int)) = false →
  Calls Try.prog 18 #[(.pointer x13)] w18 (Ret fun v_14 w19 => ∃ (x75 : ByteArray), v_14 = (.string x75) ∧
  ((!(x75.toList == x49.toList)) = true →
  R (.bool false) w19) ∧
  ((!(x75.toList == x49.toList)) = false →
  Calls Try.prog 15 #[(.pointer x47), (.int .i64 2)] w19 (Ret fun v_15 w20 => ∃ (x81_0 : ByteArray), ∃ (x81_1 : Int), v_15 = (.tuple #[(.string x81_0), (.int .i64 x81_1)]) ∧
  ((x81_1 == (0 : Int)) = true →
  Calls Try.prog 12 #[(.int .u8 77)] w20 (Ret fun v_16 w21 => ∃ (x88 : ByteArray), v_16 = (.string x88) ∧
  ((x81_0.toList == x88.toList) = true →
  Calls Try.prog 9 #[(.int .i64 (-5))] w21 (Ret fun v_17 w22 => ∃ (x92 : Option Addr), v_17 = (.pointer x92) ∧
  Calls Try.prog 19 #[(.pointer x92)] w22 (Ret fun v_18 w23 => ∃ (x93 : Int), v_18 = (.int .i64 x93) ∧
  ((x93 == (0 : Int)) = true →
  Calls Try.prog 9 #[(.int .i64 1099511627776)] w23 (Ret fun v_19 w24 => ∃ (x97 : Option Addr), v_19 = (.pointer x97) ∧
  Calls Try.prog 19 #[(.pointer x97)] w24 (Ret fun v_20 w25 => ∃ (x98 : Int), v_20 = (.int .i64 x98) ∧
  R (.bool (x98 == (4096 : Int))) w25))) ∧
  ((x93 == (0 : Int)) = false →
  R (.bool false) w23)))) ∧
  ((x81_0.toList == x88.toList) = false →
  R (.bool false) w21))) ∧
  ((x81_1 == (0 : Int)) = false →
  R (.bool false) w20)))))))))))))))))))) ∧
  (decide (i < ((listN : Nat) : Int)) = false →
  Calls Try.prog 18 #[(.pointer x13)] w3 (Ret fun v_21 w26 => ∃ (x46_1 : ByteArray), v_21 = (.string x46_1) ∧
  Calls Try.prog 17 #[(.string x46_1)] w26 (Ret fun v_22 w27 => ∃ (x47_1 : Option Addr), v_22 = (.pointer x47_1) ∧
  Calls Try.prog 18 #[(.pointer x13)] w27 (Ret fun v_23 w28 => ∃ (x49_1 : ByteArray), v_23 = (.string x49_1) ∧
  Calls Try.prog 18 #[(.pointer x47_1)] w28 (Ret fun v_24 w29 => ∃ (x51_1 : ByteArray), v_24 = (.string x51_1) ∧
  ((!(x51_1.toList == x49_1.toList)) = true →
  R (.bool false) w29) ∧
  ((!(x51_1.toList == x49_1.toList)) = false →
  Calls Try.prog 19 #[(.pointer x47_1)] w29 (Ret fun v_25 w30 => ∃ (x56_1 : Int), v_25 = (.int .i64 x56_1) ∧
  ((x56_1 != (6 : Int)) = true →
  R (.bool false) w30) ∧
  ((x56_1 != (6 : Int)) = false →
  Calls Try.prog 16 #[(.pointer x47_1)] w30 (Ret fun v_26 w31 => ∃ (x61_1 : Int), v_26 = (.int .i64 x61_1) ∧
  ((x61_1 != (0 : Int)) = true →
  R (.bool false) w31) ∧
  ((x61_1 != (0 : Int)) = false →
  Calls Try.prog 12 #[(.int .u8 77)] w31 (Ret fun v_27 w32 => ∃ (x65_1 : ByteArray), v_27 = (.string x65_1) ∧
  Calls Try.prog 11 #[(.pointer x47_1), (.int .i64 2), (.string x65_1)] w32 (Ret fun v_28 w33 => ∃ (x66_1 : Int), v_28 = (.int .i64 x66_1) ∧
  ((x66_1 != (0 : Int)) = true →
  R (.bool false) w33) ∧
  ((x66_1 != (0 : Int)) = false →
  Calls Try.prog 10 #[(.pointer x47_1)] w33 (Ret fun v_29 w34 => ∃ (x70_1 : Int), v_29 = (.int .i64 x70_1) ∧
  ((x70_1 != (0 : Int)) = true →
  R (.bool false) w34) ∧
  ((x70_1 != (0 : Int)) = false →
  Calls Try.prog 18 #[(.pointer x13)] w34 (Ret fun v_30 w35 => ∃ (x75_1 : ByteArray), v_30 = (.string x75_1) ∧
  ((!(x75_1.toList == x49_1.toList)) = true →
  R (.bool false) w35) ∧
  ((!(x75_1.toList == x49_1.toList)) = false →
  Calls Try.prog 15 #[(.pointer x47_1), (.int .i64 2)] w35 (Ret fun v_31 w36 => ∃ (x81_0_1 : ByteArray), ∃ (x81_1_1 : Int), v_31 = (.tuple #[(.string x81_0_1), (.int .i64 x81_1_1)]) ∧
  ((x81_1_1 == (0 : Int)) = true →
  Calls Try.prog 12 #[(.int .u8 77)] w36 (Ret fun v_32 w37 => ∃ (x88_1 : ByteArray), v_32 = (.string x88_1) ∧
  ((x81_0_1.toList == x88_1.toList) = true →
  Calls Try.prog 9 #[(.int .i64 (-5))] w37 (Ret fun v_33 w38 => ∃ (x92_1 : Option Addr), v_33 = (.pointer x92_1) ∧
  Calls Try.prog 19 #[(.pointer x92_1)] w38 (Ret fun v_34 w39 => ∃ (x93_1 : Int), v_34 = (.int .i64 x93_1) ∧
  ((x93_1 == (0 : Int)) = true →
  Calls Try.prog 9 #[(.int .i64 1099511627776)] w39 (Ret fun v_35 w40 => ∃ (x97_1 : Option Addr), v_35 = (.pointer x97_1) ∧
  Calls Try.prog 19 #[(.pointer x97_1)] w40 (Ret fun v_36 w41 => ∃ (x98_1 : Int), v_36 = (.int .i64 x98_1) ∧
  R (.bool (x98_1 == (4096 : Int))) w41))) ∧
  ((x93_1 == (0 : Int)) = false →
  R (.bool false) w39)))) ∧
  ((x81_0_1.toList == x88_1.toList) = false →
  R (.bool false) w37))) ∧
  ((x81_1_1 == (0 : Int)) = false →
  R (.bool false) w36))))))))))))))))))))))
theorem coadjutorlaw04_DiskCopy.vc_eq (listA : Option Addr) (listN : Nat) (listC : Nat) (sync : Int) (w : World) (R : Value → World → Prop) : fnV Try.prog Try.f4 (.c .nil (.lp [(6, some (.int .i64)), (14, none), (15, none), (16, none), (17, none), (18, none), (19, none), (20, none), (21, none), (22, none), (23, none), (24, none), (25, none), (26, none), (27, none), (28, none), (29, none), (30, none), (31, none), (32, none), (33, none), (34, none), (35, none), (36, none), (37, none), (38, none), (39, none), (40, none), (41, none), (42, none), (43, none), (44, none)] (.at_ 5 4 (.c (.tk 0 (.tk 1 (.tk 2 (.tk 3 (.tk 4 (.tk 5 (.tk 6 (.tk 7 (.tk 8 (.tk 9 (.tk 10 (.alt 11 (.alt 12 (.fin (.c .nil .nil)) .nil) .nil)))))))))))) (.at_ 12 4 (.k .nil) (.at_ 12 9 (.k .nil) (.c .nil (.at_ 14 4 (.k .nil) (.at_ 14 9 (.k .nil) (.c .nil (.at_ 17 2 (.at_ 17 7 (.at_ 17 12 .nil .nil) .nil) .nil)))))))) (.k (.at_ 12 4 (.k .nil) (.at_ 12 9 (.k .nil) (.c .nil (.at_ 14 4 (.k .nil) (.at_ 14 9 (.k .nil) (.c .nil (.at_ 17 2 (.at_ 17 7 (.at_ 17 12 .nil .nil) .nil) .nil))))))))))) [(.slice listA listN listC), (.int .i64 sync)] w R = coadjutorlaw04_DiskCopy.vc listA listN listC sync w R := by kernel_rfl
theorem coadjutorlaw04_DiskCopy.calls (listA : Option Addr) (listN : Nat) (listC : Nat) (sync : Int) {w : World} {R : Value → World → Prop} (h : coadjutorlaw04_DiskCopy.vc listA listN listC sync w R) : Calls Try.prog 4 #[(.slice listA listN listC), (.int .i64 sync)] w (Ret R) :=
  calls_V fit Try.func4 (.c .nil (.lp [(6, some (.int .i64)), (14, none), (15, none), (16, none), (17, none), (18, none), (19, none), (20, none), (21, none), (22, none), (23, none), (24, none), (25, none), (26, none), (27, none), (28, none), (29, none), (30, none), (31, none), (32, none), (33, none), (34, none), (35, none), (36, none), (37, none), (38, none), (39, none), (40, none), (41, none), (42, none), (43, none), (44, none)] (.at_ 5 4 (.c (.tk 0 (.tk 1 (.tk 2 (.tk 3 (.tk 4 (.tk 5 (.tk 6 (.tk 7 (.tk 8 (.tk 9 (.tk 10 (.alt 11 (.alt 12 (.fin (.c .nil .nil)) .nil) .nil)))))))))))) (.at_ 12 4 (.k .nil) (.at_ 12 9 (.k .nil) (.c .nil (.at_ 14 4 (.k .nil) (.at_ 14 9 (.k .nil) (.c .nil (.at_ 17 2 (.at_ 17 7 (.at_ 17 12 .nil .nil) .nil) .nil)))))))) (.k (.at_ 12 4 (.k .nil) (.at_ 12 9 (.k .nil) (.c .nil (.at_ 14 4 (.k .nil) (.at_ 14 9 (.k .nil) (.c .nil (.at_ 17 2 (.at_ 17 7 (.at_ 17 12 .nil .nil) .nil) .nil))))))))))) (by rw [show (#[(.slice listA listN listC), (.int .i64 sync)] : Array Value).toList = [(.slice listA listN listC), (.int .i64 sync)] from rfl, coadjutorlaw04_DiskCopy.vc_eq]; exact h)
end Go.Proofs.Ytpefegcdcojokaa.Vc
