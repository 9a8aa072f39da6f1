import Derived.Test.YtefidalhijpmdaaVc
import Derived.Test.YtefidalhijpmdaaH
import Derived.Test.YtefidalhijpmdaaProg
import Derived.KernelRfl
set_option linter.unusedVariables false
set_option maxRecDepth 100000
namespace Go.Proofs.Ytefidalhijpmdaa.Vc
open Go Go.Proofs Go.Proofs.Ytefidalhijpmdaa.V
/-- function 12 -/
def coadjutorlaw11_VecsTables.vc (t0 : Int) (t1 : Int) (t2A : Option Addr) (t2N : Nat) (t2C : Nat) (s : ByteArray) (vat : Int) (w : World) (R : Value → World → Prop) : Prop :=
  ∀ w1 : World, w1 = w.alloc (.cells #[(.int .i64 t0), (.int .i64 t1), (.slice t2A t2N t2C)] 55 (0, 0)) →
  Calls Try.prog 42 #[] w1 (Ret fun v w2 => ∃ (x14 : Bool), v = (.bool x14) ∧
  ((!x14) = true →
  R (.bool false) w2) ∧
  ((!x14) = false →
  ∃ (x17A : Option Addr), ∃ (x17N : Nat), ∃ (x17C : Nat), w2.cell? (⟨w.heap.size, 2, none⟩ : Addr) = some (.slice x17A x17N x17C) ∧
  (decide (((x17N : Nat) : Int) > (4096 : Int)) = true →
  R (.bool true) w2) ∧
  (decide (((x17N : Nat) : Int) > (4096 : Int)) = false →
  (decide (((s.size : Nat) : Int) > (4096 : Int)) = true →
  R (.bool true) w2) ∧
  (decide (((s.size : Nat) : Int) > (4096 : Int)) = false →
  ∃ (x26 : Int), w2.cell? (⟨w.heap.size, 0, none⟩ : Addr) = some (.int .i64 x26) ∧
  ∃ (x28 : Int), w2.cell? (⟨w.heap.size, 1, none⟩ : Addr) = some (.int .i64 x28) ∧
  ∃ (x30A : Option Addr), ∃ (x30N : Nat), ∃ (x30C : Nat), w2.cell? (⟨w.heap.size, 2, none⟩ : Addr) = some (.slice x30A x30N x30C) ∧
  Calls Try.prog 47 #[(.int .i64 x26), (.int .i64 x28), (.int .i64 ((x30N : Nat) : Int))] w2 (Ret fun v_1 w3 => ∃ (x32 : Bool), v_1 = (.bool x32) ∧
  ∃ (x330 : Int), ∃ (x331 : Int), ∃ (x332A : Option Addr), ∃ (x332N : Nat), ∃ (x332C : Nat), (w3.cell? (⟨w.heap.size, 0, none⟩ : Addr) = some (.int .i64 x330) ∧ w3.cell? (⟨w.heap.size, 1, none⟩ : Addr) = some (.int .i64 x331) ∧ w3.cell? (⟨w.heap.size, 2, none⟩ : Addr) = some (.slice x332A x332N x332C)) ∧
  Calls Try.prog 48 #[(.agg #[(.int .i64 x330), (.int .i64 x331), (.slice x332A x332N x332C)])] w3 (Ret fun v_2 w4 => ∃ (x34 : ByteArray), v_2 = (.string x34) ∧
  ∃ (x350 : Int), ∃ (x351 : Int), ∃ (x352A : Option Addr), ∃ (x352N : Nat), ∃ (x352C : Nat), (w4.cell? (⟨w.heap.size, 0, none⟩ : Addr) = some (.int .i64 x350) ∧ w4.cell? (⟨w.heap.size, 1, none⟩ : Addr) = some (.int .i64 x351) ∧ w4.cell? (⟨w.heap.size, 2, none⟩ : Addr) = some (.slice x352A x352N x352C)) ∧
  Calls Try.prog 43 #[(.agg #[(.int .i64 x350), (.int .i64 x351), (.slice x352A x352N x352C)])] w4 (Ret fun v_3 w5 => ∃ (x36 : Bool), v_3 = (.bool x36) ∧
  ((!(x36 == x32)) = true →
  R (.bool false) w5) ∧
  ((!(x36 == x32)) = false →
  ∃ (x43A : Option Addr), ∃ (x43N : Nat), ∃ (x43C : Nat), w5.cell? (⟨w.heap.size, 2, none⟩ : Addr) = some (.slice x43A x43N x43C) ∧
  ((((x34.size : Nat) : Int) != ((x43N : Nat) : Int)) = true →
  R (.bool false) w5) ∧
  ((((x34.size : Nat) : Int) != ((x43N : Nat) : Int)) = false →
  ∃ vI : Int → Nat → World → Prop, (∃ vk_2 : Nat, vI 0 vk_2 w5) ∧
  ∀ (jk : Nat → Value) (i : Int), ∀ (vk : Nat) (w6 : World), vI i vk w6 →
  (decide (i < ((x34.size : Nat) : Int)) = true →
  ∃ vS : World → Prop, ∀ w7 : World, w7 = w6.drew → vS w7 ∧
  (0 ≤ i ∧ i < ((x34.size : Nat) : Int)) ∧
  ∃ (x57A : Option Addr), ∃ (x57N : Nat), ∃ (x57C : Nat), (∀ w8, vS w8 → w8.cell? (⟨w.heap.size, 2, none⟩ : Addr) = some (.slice x57A x57N x57C)) ∧
  (0 ≤ i ∧ i < ((x57N : Nat) : Int)) ∧ someV x57A fun p =>
  ∃ (x60 : Int), (∀ w9, vS w9 → w9.cell? (p.add (i.toNat * 1)) = some (.int .i8 x60)) ∧
  (((bt x34 i) != (IntKind.u8.wrap x60)) = true →
  R (.bool false) w7) ∧
  (((bt x34 i) != (IntKind.u8.wrap x60)) = false →
  ∃ vk_1 : Nat, vk_1 < vk ∧ vI (IntKind.i64.wrap (i + 1)) vk_1 w7)) ∧
  (decide (i < ((x34.size : Nat) : Int)) = false →
  ∃ (x630 : Int), ∃ (x631 : Int), ∃ (x632A : Option Addr), ∃ (x632N : Nat), ∃ (x632C : Nat), (w6.cell? (⟨w.heap.size, 0, none⟩ : Addr) = some (.int .i64 x630) ∧ w6.cell? (⟨w.heap.size, 1, none⟩ : Addr) = some (.int .i64 x631) ∧ w6.cell? (⟨w.heap.size, 2, none⟩ : Addr) = some (.slice x632A x632N x632C)) ∧
  Calls Try.prog 49 #[(.agg #[(.int .i64 x630), (.int .i64 x631), (.slice x632A x632N x632C)]), (.int .i64 vat)] w6 (Ret fun v_4 w10 => ∃ (x65A : Option Addr), ∃ (x65N : Nat), ∃ (x65C : Nat), v_4 = (.slice x65A x65N x65C) ∧
  ∃ J : World → Prop, (((!x32) = true →
  ((((x65N : Nat) : Int) != (0 : Int)) = true →
  R (.bool false) w10) ∧
  ((((x65N : Nat) : Int) != (0 : Int)) = false →
  J w10)) ∧
  ((!x32) = false →
  (decide (vat < (0 : Int)) = true →
  ((((x65N : Nat) : Int) != (0 : Int)) = true →
  R (.bool false) w10) ∧
  ((((x65N : Nat) : Int) != (0 : Int)) = false →
  J w10)) ∧
  (decide (vat < (0 : Int)) = false →
  ∃ (x75 : Int), w10.cell? (⟨w.heap.size, 0, none⟩ : Addr) = some (.int .i64 x75) ∧
  (decide (vat ≥ x75) = true →
  ((((x65N : Nat) : Int) != (0 : Int)) = true →
  R (.bool false) w10) ∧
  ((((x65N : Nat) : Int) != (0 : Int)) = false →
  J w10)) ∧
  (decide (vat ≥ x75) = false →
  ∃ (x84 : Int), w10.cell? (⟨w.heap.size, 1, none⟩ : Addr) = some (.int .i64 x84) ∧
  ((((x65N : Nat) : Int) != x84) = true →
  R (.bool false) w10) ∧
  ((((x65N : Nat) : Int) != x84) = false →
  ∃ vI_1 : Int → Nat → World → Prop, (∃ vk_5 : Nat, vI_1 0 vk_5 w10) ∧
  ∀ (jk : Nat → Value) (vk_6 : Int), ∀ (vk_3 : Nat) (w11 : World), vI_1 vk_6 vk_3 w11 →
  ∃ (x88 : Int), w11.cell? (⟨w.heap.size, 1, none⟩ : Addr) = some (.int .i64 x88) ∧
  (decide (vk_6 < x88) = true →
  ∃ vS_1 : World → Prop, ∀ w12 : World, w12 = w11.drew → vS_1 w12 ∧
  (0 ≤ vk_6 ∧ vk_6 < ((x65N : Nat) : Int)) ∧ someV x65A fun p_1 =>
  ∃ (x95 : Int), (∀ w13, vS_1 w13 → w13.cell? (p_1.add (vk_6.toNat * 1)) = some (.int .i64 x95)) ∧
  ∃ (x97A : Option Addr), ∃ (x97N : Nat), ∃ (x97C : Nat), (∀ w14, vS_1 w14 → w14.cell? (⟨w.heap.size, 2, none⟩ : Addr) = some (.slice x97A x97N x97C)) ∧
  ∃ (x100 : Int), (∀ w15, vS_1 w15 → w15.cell? (⟨w.heap.size, 1, none⟩ : Addr) = some (.int .i64 x100)) ∧
  (0 ≤ (IntKind.i64.wrap ((IntKind.i64.wrap (vat * x100)) + vk_6)) ∧ (IntKind.i64.wrap ((IntKind.i64.wrap (vat * x100)) + vk_6)) < ((x97N : Nat) : Int)) ∧ someV x97A fun p_2 =>
  ∃ (x105 : Int), (∀ w16, vS_1 w16 → w16.cell? (p_2.add ((IntKind.i64.wrap ((IntKind.i64.wrap (vat * x100)) + vk_6)).toNat * 1)) = some (.int .i8 x105)) ∧
  ((x95 != (IntKind.i64.wrap x105)) = true →
  R (.bool false) w12) ∧
  ((x95 != (IntKind.i64.wrap x105)) = false →
  ∃ vk_4 : Nat, vk_4 < vk_3 ∧ vI_1 (IntKind.i64.wrap (vk_6 + 1)) vk_4 w12)) ∧
  (decide (vk_6 < x88) = false →
  J w11)))))) ∧
  ∀ (jk : Nat → Value), ∀ w17 : World, J w17 →
  ∃ (x110 : Int), w17.cell? (⟨w.heap.size, 0, none⟩ : Addr) = some (.int .i64 x110) ∧
  ∃ (x112 : Int), w17.cell? (⟨w.heap.size, 1, none⟩ : Addr) = some (.int .i64 x112) ∧
  Calls Try.prog 50 #[(.int .i64 x110), (.int .i64 x112), (.string s)] w17 (Ret fun v_5 w18 => ∃ (x114_00 : Int), ∃ (x114_01 : Int), ∃ (x114_02A : Option Addr), ∃ (x114_02N : Nat), ∃ (x114_02C : Nat), ∃ (x114_1 : Int), v_5 = (.tuple #[(.agg #[(.int .i64 x114_00), (.int .i64 x114_01), (.slice x114_02A x114_02N x114_02C)]), (.int .i64 x114_1)]) ∧
  ∀ w19 : World, w19 = w18.alloc (.cells #[(.int .i64 0), (.int .i64 0), (.slice none 0 0)] 55 (0, 0)) →
  (((∃ u, w19.cell? (⟨w18.heap.size, 0, none⟩ : Addr) = some u) ∧ w19.frozen? (⟨w18.heap.size, 0, none⟩ : Addr) = false) ∧ ((∃ u, w19.cell? (⟨w18.heap.size, 1, none⟩ : Addr) = some u) ∧ w19.frozen? (⟨w18.heap.size, 1, none⟩ : Addr) = false) ∧ ((∃ u, w19.cell? (⟨w18.heap.size, 2, none⟩ : Addr) = some u) ∧ w19.frozen? (⟨w18.heap.size, 2, none⟩ : Addr) = false)) ∧ ∀ w20 : World, w20 = (((w19.setCell (⟨w18.heap.size, 0, none⟩ : Addr) (.int .i64 x114_00)).setCell (⟨w18.heap.size, 1, none⟩ : Addr) (.int .i64 x114_01)).setCell (⟨w18.heap.size, 2, none⟩ : Addr) (.slice x114_02A x114_02N x114_02C)) →
  ∃ (x118 : Int), w20.cell? (⟨w.heap.size, 0, none⟩ : Addr) = some (.int .i64 x118) ∧
  (decide (x118 < (1 : Int)) = true →
  ((x114_1 == (1 : Int)) = true →
  ∃ (x139A : Option Addr), ∃ (x139N : Nat), ∃ (x139C : Nat), w20.cell? (⟨w18.heap.size, 2, none⟩ : Addr) = some (.slice x139A x139N x139C) ∧
  R (.bool (((x139N : Nat) : Int) == (0 : Int))) w20) ∧
  ((x114_1 == (1 : Int)) = false →
  R (.bool false) w20)) ∧
  (decide (x118 < (1 : Int)) = false →
  ∃ (x122 : Int), w20.cell? (⟨w.heap.size, 0, none⟩ : Addr) = some (.int .i64 x122) ∧
  (decide (x122 > (64 : Int)) = true →
  ((x114_1 == (1 : Int)) = true →
  ∃ (x139A_1 : Option Addr), ∃ (x139N_1 : Nat), ∃ (x139C_1 : Nat), w20.cell? (⟨w18.heap.size, 2, none⟩ : Addr) = some (.slice x139A_1 x139N_1 x139C_1) ∧
  R (.bool (((x139N_1 : Nat) : Int) == (0 : Int))) w20) ∧
  ((x114_1 == (1 : Int)) = false →
  R (.bool false) w20)) ∧
  (decide (x122 > (64 : Int)) = false →
  ∃ (x127 : Int), w20.cell? (⟨w.heap.size, 1, none⟩ : Addr) = some (.int .i64 x127) ∧
  (decide (x127 < (1 : Int)) = true →
  ((x114_1 == (1 : Int)) = true →
  ∃ (x139A_2 : Option Addr), ∃ (x139N_2 : Nat), ∃ (x139C_2 : Nat), w20.cell? (⟨w18.heap.size, 2, none⟩ : Addr) = some (.slice x139A_2 x139N_2 x139C_2) ∧
  R (.bool (((x139N_2 : Nat) : Int) == (0 : Int))) w20) ∧
  ((x114_1 == (1 : Int)) = false →
  R (.bool false) w20)) ∧
  (decide (x127 < (1 : Int)) = false →
  ∃ (x132 : Int), w20.cell? (⟨w.heap.size, 1, none⟩ : Addr) = some (.int .i64 x132) ∧
  (decide (x132 > (64 : Int)) = true →
  ((x114_1 == (1 : Int)) = true →
  ∃ (x139A_3 : Option Addr), ∃ (x139N_3 : Nat), ∃ (x139C_3 : Nat), w20.cell? (⟨w18.heap.size, 2, none⟩ : Addr) = some (.slice x139A_3 x139N_3 x139C_3) ∧
  R (.bool (((x139N_3 : Nat) : Int) == (0 : Int))) w20) ∧
  ((x114_1 == (1 : Int)) = false →
  R (.bool false) w20)) ∧
  (decide (x132 > (64 : Int)) = false →
  ∃ (x146 : Int), w20.cell? (⟨w.heap.size, 0, none⟩ : Addr) = some (.int .i64 x146) ∧
  ∃ (x148 : Int), w20.cell? (⟨w.heap.size, 1, none⟩ : Addr) = some (.int .i64 x148) ∧
  ((((s.size : Nat) : Int) != (IntKind.i64.wrap (x146 * x148))) = true →
  ((x114_1 == (5 : Int)) = true →
  ∃ (x155A : Option Addr), ∃ (x155N : Nat), ∃ (x155C : Nat), w20.cell? (⟨w18.heap.size, 2, none⟩ : Addr) = some (.slice x155A x155N x155C) ∧
  ((((x155N : Nat) : Int) == (0 : Int)) = true →
  ∃ (x161 : Int), w20.cell? (⟨w18.heap.size, 0, none⟩ : Addr) = some (.int .i64 x161) ∧
  R (.bool (x161 == (0 : Int))) w20) ∧
  ((((x155N : Nat) : Int) == (0 : Int)) = false →
  R (.bool false) w20)) ∧
  ((x114_1 == (5 : Int)) = false →
  R (.bool false) w20)) ∧
  ((((s.size : Nat) : Int) != (IntKind.i64.wrap (x146 * x148))) = false →
  ((x114_1 == (0 : Int)) = true →
  ∃ (x168 : Int), w20.cell? (⟨w18.heap.size, 0, none⟩ : Addr) = some (.int .i64 x168) ∧
  ∃ (x170 : Int), w20.cell? (⟨w.heap.size, 0, none⟩ : Addr) = some (.int .i64 x170) ∧
  ((x168 == x170) = true →
  ∃ (x175 : Int), w20.cell? (⟨w18.heap.size, 1, none⟩ : Addr) = some (.int .i64 x175) ∧
  ∃ (x177 : Int), w20.cell? (⟨w.heap.size, 1, none⟩ : Addr) = some (.int .i64 x177) ∧
  ((x175 == x177) = true →
  ∃ (x1810 : Int), ∃ (x1811 : Int), ∃ (x1812A : Option Addr), ∃ (x1812N : Nat), ∃ (x1812C : Nat), (w20.cell? (⟨w18.heap.size, 0, none⟩ : Addr) = some (.int .i64 x1810) ∧ w20.cell? (⟨w18.heap.size, 1, none⟩ : Addr) = some (.int .i64 x1811) ∧ w20.cell? (⟨w18.heap.size, 2, none⟩ : Addr) = some (.slice x1812A x1812N x1812C)) ∧
  Calls Try.prog 48 #[(.agg #[(.int .i64 x1810), (.int .i64 x1811), (.slice x1812A x1812N x1812C)])] w20 (Ret fun v_6 w21 => ∃ (x182 : ByteArray), v_6 = (.string x182) ∧
  ((x182.toList == s.toList) = true →
  ∃ (x1870 : Int), ∃ (x1871 : Int), ∃ (x1872A : Option Addr), ∃ (x1872N : Nat), ∃ (x1872C : Nat), (w21.cell? (⟨w18.heap.size, 0, none⟩ : Addr) = some (.int .i64 x1870) ∧ w21.cell? (⟨w18.heap.size, 1, none⟩ : Addr) = some (.int .i64 x1871) ∧ w21.cell? (⟨w18.heap.size, 2, none⟩ : Addr) = some (.slice x1872A x1872N x1872C)) ∧
  Calls Try.prog 43 #[(.agg #[(.int .i64 x1870), (.int .i64 x1871), (.slice x1872A x1872N x1872C)])] w21 (Ret fun v_7 w22 => ∃ (x188 : Bool), v_7 = (.bool x188) ∧
  R (.bool x188) w22)) ∧
  ((x182.toList == s.toList) = false →
  R (.bool false) w21))) ∧
  ((x175 == x177) = false →
  R (.bool false) w20)) ∧
  ((x168 == x170) = false →
  R (.bool false) w20)) ∧
  ((x114_1 == (0 : Int)) = false →
  R (.bool false) w20))))))))))))))))))
theorem coadjutorlaw11_VecsTables.vc_eq (t0 : Int) (t1 : Int) (t2A : Option Addr) (t2N : Nat) (t2C : Nat) (s : ByteArray) (vat : Int) (w : World) (R : Value → World → Prop) : fnV Try.prog Try.f12 (.c .nil (.at_ 3 4 (.k .nil) (.c .nil (.at_ 7 4 (.k .nil) (.c .nil (.lp [(6, none), (9, some (.int .i64)), (47, none), (48, none), (49, none), (50, none), (51, none), (52, none), (53, none), (54, none), (55, none), (56, none), (57, none), (58, none), (59, none), (60, none), (61, none), (62, none)] (.c (.tk 0 (.tk 1 (.tk 2 (.tk 3 (.tk 4 (.tk 5 (.tk 6 (.tk 7 (.tk 8 (.tk 9 (.fin (.c .nil .nil)))))))))))) (.cut 1 [(6, none), (11, none), (66, none), (67, none), (68, none), (69, none), (70, none), (71, none), (72, none), (73, none), (74, none), (75, none), (76, none), (77, none), (78, none), (79, none), (80, none), (81, none), (82, none), (83, none), (84, none), (85, none), (86, none), (87, none), (88, none), (89, none), (90, none), (91, none), (92, none), (93, none), (94, none), (95, none), (96, none), (97, none), (98, none), (99, none), (100, none), (101, none), (102, none), (103, none), (104, none), (105, none), (106, none), (107, none)] (.at_ 15 2 (.k (.c .nil .nil)) (.at_ 15 6 (.k (.c .nil .nil)) (.c (.c .nil .nil) (.c .nil (.lp [(6, none), (11, some (.int .i64)), (86, none), (87, none), (88, none), (89, none), (90, none), (91, none), (92, none), (93, none), (94, none), (95, none), (96, none), (97, none), (98, none), (99, none), (100, none), (101, none), (102, none), (103, none), (104, none), (105, none), (106, none), (107, none)] (.c (.tk 0 (.tk 1 (.tk 2 (.tk 3 (.tk 4 (.tk 5 (.tk 6 (.tk 7 (.tk 8 (.tk 9 (.tk 10 (.tk 11 (.tk 12 (.tk 13 (.tk 14 (.tk 15 (.fin (.c .nil .nil)))))))))))))))))) .nil)))))) (.at_ 26 3 (.k (.at_ 27 2 .nil .nil)) (.at_ 26 8 (.k (.at_ 27 2 .nil .nil)) (.at_ 26 13 (.k (.at_ 27 2 .nil .nil)) (.c (.at_ 27 2 .nil .nil) (.c (.at_ 29 2 (.at_ 29 8 .nil .nil) .nil) (.at_ 30 2 (.at_ 30 9 (.at_ 30 16 (.at_ 30 22 .nil .nil) .nil) .nil) .nil)))))))))))))) [(.agg #[(.int .i64 t0), (.int .i64 t1), (.slice t2A t2N t2C)]), (.string s), (.int .i64 vat)] w R = coadjutorlaw11_VecsTables.vc t0 t1 t2A t2N t2C s vat w R := by kernel_rfl
theorem coadjutorlaw11_VecsTables.calls (t0 : Int) (t1 : Int) (t2A : Option Addr) (t2N : Nat) (t2C : Nat) (s : ByteArray) (vat : Int) {w : World} {R : Value → World → Prop} (h : coadjutorlaw11_VecsTables.vc t0 t1 t2A t2N t2C s vat w R) : Calls Try.prog 12 #[(.agg #[(.int .i64 t0), (.int .i64 t1), (.slice t2A t2N t2C)]), (.string s), (.int .i64 vat)] w (Ret R) :=
  calls_V fit Try.func12 (.c .nil (.at_ 3 4 (.k .nil) (.c .nil (.at_ 7 4 (.k .nil) (.c .nil (.lp [(6, none), (9, some (.int .i64)), (47, none), (48, none), (49, none), (50, none), (51, none), (52, none), (53, none), (54, none), (55, none), (56, none), (57, none), (58, none), (59, none), (60, none), (61, none), (62, none)] (.c (.tk 0 (.tk 1 (.tk 2 (.tk 3 (.tk 4 (.tk 5 (.tk 6 (.tk 7 (.tk 8 (.tk 9 (.fin (.c .nil .nil)))))))))))) (.cut 1 [(6, none), (11, none), (66, none), (67, none), (68, none), (69, none), (70, none), (71, none), (72, none), (73, none), (74, none), (75, none), (76, none), (77, none), (78, none), (79, none), (80, none), (81, none), (82, none), (83, none), (84, none), (85, none), (86, none), (87, none), (88, none), (89, none), (90, none), (91, none), (92, none), (93, none), (94, none), (95, none), (96, none), (97, none), (98, none), (99, none), (100, none), (101, none), (102, none), (103, none), (104, none), (105, none), (106, none), (107, none)] (.at_ 15 2 (.k (.c .nil .nil)) (.at_ 15 6 (.k (.c .nil .nil)) (.c (.c .nil .nil) (.c .nil (.lp [(6, none), (11, some (.int .i64)), (86, none), (87, none), (88, none), (89, none), (90, none), (91, none), (92, none), (93, none), (94, none), (95, none), (96, none), (97, none), (98, none), (99, none), (100, none), (101, none), (102, none), (103, none), (104, none), (105, none), (106, none), (107, none)] (.c (.tk 0 (.tk 1 (.tk 2 (.tk 3 (.tk 4 (.tk 5 (.tk 6 (.tk 7 (.tk 8 (.tk 9 (.tk 10 (.tk 11 (.tk 12 (.tk 13 (.tk 14 (.tk 15 (.fin (.c .nil .nil)))))))))))))))))) .nil)))))) (.at_ 26 3 (.k (.at_ 27 2 .nil .nil)) (.at_ 26 8 (.k (.at_ 27 2 .nil .nil)) (.at_ 26 13 (.k (.at_ 27 2 .nil .nil)) (.c (.at_ 27 2 .nil .nil) (.c (.at_ 29 2 (.at_ 29 8 .nil .nil) .nil) (.at_ 30 2 (.at_ 30 9 (.at_ 30 16 (.at_ 30 22 .nil .nil) .nil) .nil) .nil)))))))))))))) (by rw [show (#[(.agg #[(.int .i64 t0), (.int .i64 t1), (.slice t2A t2N t2C)]), (.string s), (.int .i64 vat)] : Array Value).toList = [(.agg #[(.int .i64 t0), (.int .i64 t1), (.slice t2A t2N t2C)]), (.string s), (.int .i64 vat)] from rfl, coadjutorlaw11_VecsTables.vc_eq]; exact h)
/-- function 13 -/
def coadjutorlaw11_VecsExact.vc (t0 : Int) (t1 : Int) (t2A : Option Addr) (t2N : Nat) (t2C : Nat) (listA : Option Addr) (listN : Nat) (listC : Nat) (n : Int) (shift : Int) (w : World) (R : Value → World → Prop) : Prop :=
  ∀ w1 : World, w1 = w.alloc (.cells #[(.int .i64 t0), (.int .i64 t1), (.slice t2A t2N t2C)] 55 (0, 0)) →
  Calls Try.prog 42 #[] w1 (Ret fun v w2 => ∃ (x18 : Bool), v = (.bool x18) ∧
  ((!x18) = true →
  R (.bool false) w2) ∧
  ((!x18) = false →
  ∃ (x21A : Option Addr), ∃ (x21N : Nat), ∃ (x21C : Nat), w2.cell? (⟨w.heap.size, 2, none⟩ : Addr) = some (.slice x21A x21N x21C) ∧
  (decide (((x21N : Nat) : Int) > (1024 : Int)) = true →
  R (.bool true) w2) ∧
  (decide (((x21N : Nat) : Int) > (1024 : Int)) = false →
  (decide (((listN : Nat) : Int) > (10 : Int)) = true →
  R (.bool true) w2) ∧
  (decide (((listN : Nat) : Int) > (10 : Int)) = false →
  ∃ vI : Int → Nat → World → Prop, (∃ vk_2 : Nat, vI 0 vk_2 w2) ∧
  ∀ (jk : Nat → Value) (i : Int), ∀ (vk : Nat) (w3 : World), vI i vk w3 →
  (decide (i < ((listN : Nat) : Int)) = true →
  (0 ≤ i ∧ i < ((listN : Nat) : Int)) ∧ someV listA fun p =>
  ∃ (x38A : Option Addr), ∃ (x38N : Nat), ∃ (x38C : Nat), w3.cell? (p.add (i.toNat * 1)) = some (.slice x38A x38N x38C) ∧
  (decide (((x38N : Nat) : Int) > (64 : Int)) = true →
  R (.bool true) w3) ∧
  (decide (((x38N : Nat) : Int) > (64 : Int)) = false →
  ∃ vS : World → Prop, ∀ w4 : World, w4 = w3.drew → vS w4 ∧
  ∃ (x420 : Int), ∃ (x421 : Int), ∃ (x422A : Option Addr), ∃ (x422N : Nat), ∃ (x422C : Nat), ((∀ w5, vS w5 → w5.cell? (⟨w.heap.size, 0, none⟩ : Addr) = some (.int .i64 x420)) ∧ (∀ w5, vS w5 → w5.cell? (⟨w.heap.size, 1, none⟩ : Addr) = some (.int .i64 x421)) ∧ (∀ w5, vS w5 → w5.cell? (⟨w.heap.size, 2, none⟩ : Addr) = some (.slice x422A x422N x422C))) ∧
  (0 ≤ i ∧ i < ((listN : Nat) : Int)) ∧ someV listA fun p_1 =>
  ∃ (x46A : Option Addr), ∃ (x46N : Nat), ∃ (x46C : Nat), (∀ w6, vS w6 → w6.cell? (p_1.add (i.toNat * 1)) = some (.slice x46A x46N x46C)) ∧
  Calls Try.prog 45 #[(.agg #[(.int .i64 x420), (.int .i64 x421), (.slice x422A x422N x422C)]), (.slice x46A x46N x46C), (.int .i64 shift)] w4 (Ret fun v_1 w7 => ∃ (x48_0A : Option Addr), ∃ (x48_0N : Nat), ∃ (x48_0C : Nat), ∃ (x48_1 : Int), v_1 = (.tuple #[(.slice x48_0A x48_0N x48_0C), (.int .i64 x48_1)]) ∧
  vS w7 ∧
  ∃ vS_1 : World → Prop, ∀ w8 : World, w8 = w7.drew → vS_1 w8 ∧
  ∃ (x53 : Int), (∀ w9, vS_1 w9 → w9.cell? (⟨w.heap.size, 0, none⟩ : Addr) = some (.int .i64 x53)) ∧
  ∃ (x55 : Int), (∀ w10, vS_1 w10 → w10.cell? (⟨w.heap.size, 1, none⟩ : Addr) = some (.int .i64 x55)) ∧
  ∃ (x57A : Option Addr), ∃ (x57N : Nat), ∃ (x57C : Nat), (∀ w11, vS_1 w11 → w11.cell? (⟨w.heap.size, 2, none⟩ : Addr) = some (.slice x57A x57N x57C)) ∧
  (0 ≤ i ∧ i < ((listN : Nat) : Int)) ∧ someV listA fun p_2 =>
  ∃ (x61A : Option Addr), ∃ (x61N : Nat), ∃ (x61C : Nat), (∀ w12, vS_1 w12 → w12.cell? (p_2.add (i.toNat * 1)) = some (.slice x61A x61N x61C)) ∧
  Calls Try.prog 51 #[(.int .i64 x53), (.int .i64 x55), (.slice x57A x57N x57C), (.slice x61A x61N x61C), (.int .i64 shift)] w8 (Ret fun v_2 w13 => ∃ (x63_0A : Option Addr), ∃ (x63_0N : Nat), ∃ (x63_0C : Nat), ∃ (x63_1 : Bool), v_2 = (.tuple #[(.slice x63_0A x63_0N x63_0C), (.bool x63_1)]) ∧
  vS_1 w13 ∧
  ∃ vS_2 : World → Prop, ∀ w14 : World, w14 = w13.drew → vS_2 w14 ∧
  ((!(x63_1 == (x48_1 == (0 : Int)))) = true →
  R (.bool false) w14) ∧
  ((!(x63_1 == (x48_1 == (0 : Int)))) = false →
  ((!x63_1) = true →
  ((x48_1 != (1 : Int)) = true →
  R (.bool false) w14) ∧
  ((x48_1 != (1 : Int)) = false →
  Calls Try.prog 46 #[(.slice x48_0A x48_0N x48_0C), (.slice x63_0A x63_0N x63_0C)] w14 (Ret fun v_3 w15 => ∃ (x81 : Bool), v_3 = (.bool x81) ∧
  vS_2 w15 ∧
  ((!x81) = true →
  R (.bool false) w15) ∧
  ((!x81) = false →
  (0 ≤ i ∧ i < ((listN : Nat) : Int)) ∧ someV listA fun p_3 =>
  ∃ (x88A : Option Addr), ∃ (x88N : Nat), ∃ (x88C : Nat), (∀ w16, vS_2 w16 → w16.cell? (p_3.add (i.toNat * 1)) = some (.slice x88A x88N x88C)) ∧
  (0 ≤ i ∧ i < ((listN : Nat) : Int)) ∧ someV listA fun p_4 =>
  ∃ (x95A : Option Addr), ∃ (x95N : Nat), ∃ (x95C : Nat), (∀ w17, vS_2 w17 → w17.cell? (p_4.add (i.toNat * 1)) = some (.slice x95A x95N x95C)) ∧
  Calls Try.prog 52 #[(.slice x88A x88N x88C), (.int .i64 n), (.int .i64 shift)] w15 (Ret fun v_4 w18 => ∃ (x91A : Option Addr), ∃ (x91N : Nat), ∃ (x91C : Nat), v_4 = (.slice x91A x91N x91C) ∧
  vS_2 w18 ∧
  Calls Try.prog 53 #[(.slice x95A x95N x95C), (.int .i64 n), (.int .i64 shift)] w18 (Ret fun v_5 w19 => ∃ (x98A : Option Addr), ∃ (x98N : Nat), ∃ (x98C : Nat), v_5 = (.slice x98A x98N x98C) ∧
  vS_2 w19 ∧
  Calls Try.prog 46 #[(.slice x91A x91N x91C), (.slice x98A x98N x98C)] w19 (Ret fun v_6 w20 => ∃ (x99 : Bool), v_6 = (.bool x99) ∧
  vS_2 w20 ∧
  ((!x99) = true →
  R (.bool false) w20) ∧
  ((!x99) = false →
  ∃ vk_1 : Nat, vk_1 < vk ∧ vI (IntKind.i64.wrap (i + 1)) vk_1 w20)))))))) ∧
  ((!x63_1) = false →
  Calls Try.prog 46 #[(.slice x48_0A x48_0N x48_0C), (.slice x63_0A x63_0N x63_0C)] w14 (Ret fun v_7 w21 => ∃ (x81_1 : Bool), v_7 = (.bool x81_1) ∧
  vS_2 w21 ∧
  ((!x81_1) = true →
  R (.bool false) w21) ∧
  ((!x81_1) = false →
  (0 ≤ i ∧ i < ((listN : Nat) : Int)) ∧ someV listA fun p_5 =>
  ∃ (x88A_1 : Option Addr), ∃ (x88N_1 : Nat), ∃ (x88C_1 : Nat), (∀ w22, vS_2 w22 → w22.cell? (p_5.add (i.toNat * 1)) = some (.slice x88A_1 x88N_1 x88C_1)) ∧
  (0 ≤ i ∧ i < ((listN : Nat) : Int)) ∧ someV listA fun p_6 =>
  ∃ (x95A_1 : Option Addr), ∃ (x95N_1 : Nat), ∃ (x95C_1 : Nat), (∀ w23, vS_2 w23 → w23.cell? (p_6.add (i.toNat * 1)) = some (.slice x95A_1 x95N_1 x95C_1)) ∧
  Calls Try.prog 52 #[(.slice x88A_1 x88N_1 x88C_1), (.int .i64 n), (.int .i64 shift)] w21 (Ret fun v_8 w24 => ∃ (x91A_1 : Option Addr), ∃ (x91N_1 : Nat), ∃ (x91C_1 : Nat), v_8 = (.slice x91A_1 x91N_1 x91C_1) ∧
  vS_2 w24 ∧
  Calls Try.prog 53 #[(.slice x95A_1 x95N_1 x95C_1), (.int .i64 n), (.int .i64 shift)] w24 (Ret fun v_9 w25 => ∃ (x98A_1 : Option Addr), ∃ (x98N_1 : Nat), ∃ (x98C_1 : Nat), v_9 = (.slice x98A_1 x98N_1 x98C_1) ∧
  vS_2 w25 ∧
  Calls Try.prog 46 #[(.slice x91A_1 x91N_1 x91C_1), (.slice x98A_1 x98N_1 x98C_1)] w25 (Ret fun v_10 w26 => ∃ (x99_1 : Bool), v_10 = (.bool x99_1) ∧
  vS_2 w26 ∧
  ((!x99_1) = true →
  R (.bool false) w26) ∧
  ((!x99_1) = false →
  ∃ vk_1 : Nat, vk_1 < vk ∧ vI (IntKind.i64.wrap (i + 1)) vk_1 w26)))))))))))) ∧
  (decide (i < ((listN : Nat) : Int)) = false →
  Calls Try.prog 44 #[(.slice listA listN listC)] w3 (Ret fun v_11 w27 => ∃ (x104_0A : Option Addr), ∃ (x104_0N : Nat), ∃ (x104_0C : Nat), ∃ (x104_1 : Int), v_11 = (.tuple #[(.slice x104_0A x104_0N x104_0C), (.int .i64 x104_1)]) ∧
  Calls Try.prog 54 #[(.slice listA listN listC)] w27 (Ret fun v_12 w28 => ∃ (x109_0A : Option Addr), ∃ (x109_0N : Nat), ∃ (x109_0C : Nat), ∃ (x109_1 : Bool), v_12 = (.tuple #[(.slice x109_0A x109_0N x109_0C), (.bool x109_1)]) ∧
  ((x109_1 == (x104_1 == (0 : Int))) = true →
  (x109_1 = true →
  Calls Try.prog 46 #[(.slice x104_0A x104_0N x104_0C), (.slice x109_0A x109_0N x109_0C)] w28 (Ret fun v_13 w29 => ∃ (x126 : Bool), v_13 = (.bool x126) ∧
  R (.bool x126) w29)) ∧
  (x109_1 = false →
  ((x104_1 == (1 : Int)) = true →
  Calls Try.prog 46 #[(.slice x104_0A x104_0N x104_0C), (.slice x109_0A x109_0N x109_0C)] w28 (Ret fun v_14 w30 => ∃ (x126_1 : Bool), v_14 = (.bool x126_1) ∧
  R (.bool x126_1) w30)) ∧
  ((x104_1 == (1 : Int)) = false →
  R (.bool false) w28))) ∧
  ((x109_1 == (x104_1 == (0 : Int))) = false →
  R (.bool false) w28))))))))
theorem coadjutorlaw11_VecsExact.vc_eq (t0 : Int) (t1 : Int) (t2A : Option Addr) (t2N : Nat) (t2C : Nat) (listA : Option Addr) (listN : Nat) (listC : Nat) (n : Int) (shift : Int) (w : World) (R : Value → World → Prop) : fnV Try.prog Try.f13 (.c .nil (.at_ 3 4 (.k .nil) (.c .nil (.lp [(8, none), (9, some (.int .i64)), (10, none), (11, none), (12, none), (13, none), (29, none), (30, none), (31, none), (32, none), (33, none), (34, none), (35, none), (36, none), (37, none), (38, none), (39, none), (40, none), (41, none), (42, none), (43, none), (44, none), (45, none), (46, none), (47, none), (48, none), (49, none), (50, none), (51, none), (52, none), (53, none), (54, none), (55, none), (56, none), (57, none), (58, none), (59, none), (60, none), (61, none), (62, none), (63, none), (64, none), (65, none), (66, none), (67, none), (68, none), (69, none), (70, none), (71, none), (72, none), (73, none), (74, none), (75, none), (76, none), (77, none), (78, none), (79, none), (80, none), (81, none), (82, none), (83, none), (84, none), (85, none), (86, none), (87, none), (88, none), (89, none), (90, none), (91, none), (92, none), (93, none), (94, none), (95, none), (96, none), (97, none), (98, none), (99, none), (100, none), (101, none)] (.c (.c .nil (.tk 0 (.tk 1 (.tk 2 (.tk 3 (.tk 4 (.tk 5 (.alt 6 (.tk 7 (.tk 8 (.tk 9 (.tk 10 (.tk 11 (.fin (.tk 0 (.tk 1 (.tk 2 (.tk 3 (.tk 4 (.tk 5 (.tk 6 (.tk 7 (.tk 8 (.tk 9 (.tk 10 (.alt 11 (.tk 12 (.tk 13 (.tk 14 (.tk 15 (.tk 16 (.fin (.tk 0 (.tk 1 (.tk 2 (.tk 3 (.tks 4 (.tk 5 (.tk 6 (.tk 7 (.tk 8 (.tk 9 (.tk 10 (.tk 11 (.tk 12 (.tk 13 (.tk 14 (.tk 15 (.tk 16 (.tk 17 (.tk 18 (.tk 19 (.tk 20 (.tk 21 (.tk 22 (.tk 23 (.tk 24 (.tk 25 (.tk 26 (.tk 27 (.tk 28 (.tk 29 (.tk 30 (.tk 31 (.tk 32 (.tk 33 (.tk 34 (.tk 35 (.fin (.k .nil))))))))))))))))))))))))))))))))) (.tk 5 (.tk 6 (.tks 7 (.tk 8 (.tk 9 (.tk 10 (.tk 11 (.tks 12 (.tk 13 (.tk 14 (.tk 15 (.tk 16 (.tk 17 (.tk 18 (.tk 19 (.tk 20 (.tk 21 (.tk 22 (.tk 23 (.tk 24 (.tk 25 (.tk 26 (.tk 27 (.tk 28 (.tk 29 (.tk 30 (.tk 31 (.tk 32 (.tk 33 (.tk 34 (.tk 35 (.fin (.k .nil))))))))))))))))))))))))) (.tk 13 (.tk 14 (.alt 15 (.tk 16 (.tk 17 (.tks 18 (.tk 19 (.tk 20 (.tk 21 (.tk 22 (.tk 23 (.tk 24 (.tk 25 (.tk 26 (.tk 27 (.tk 28 (.tk 29 (.tk 30 (.tk 31 (.tk 32 (.tk 33 (.tk 34 (.tk 35 (.fin (.k .nil))))))))))))))))))) (.tk 19 (.tk 20 (.tk 21 (.tk 22 (.tk 23 (.tk 24 (.tk 26 (.tk 27 (.tk 28 (.tk 29 (.tk 30 (.tk 31 (.alt 25 (.alt 32 (.alt 33 (.tk 34 (.tk 35 (.fin (.c .nil .nil)))) .nil) .nil) .nil)))))))))))))))) .nil)))))))) (.tk 8 (.tk 9 (.tk 10 (.tk 11 (.tk 12 (.tk 13 (.tk 14 (.alt 15 (.tk 16 (.tk 17 (.tks 18 (.tk 19 (.tk 20 (.tk 21 (.tk 22 (.tk 23 (.tk 24 (.tk 25 (.tk 26 (.tk 27 (.tk 28 (.tk 29 (.tk 30 (.tk 31 (.tk 32 (.tk 33 (.tk 34 (.tk 35 (.fin (.k .nil))))))))))))))))))) (.tk 19 (.tk 20 (.tk 21 (.tk 22 (.tk 23 (.tk 24 (.tk 26 (.tk 27 (.tk 28 (.tk 29 (.tk 30 (.tk 31 (.alt 25 (.alt 32 (.alt 33 (.tk 34 (.tk 35 (.fin (.c .nil .nil)))) .nil) .nil) .nil)))))))))))))))) .nil)))))))))))))))))))))) .nil)))))))))))))))))) .nil)))))))) (.at_ 16 4 (.at_ 16 6 .nil (.at_ 16 11 .nil .nil)) .nil)))))) [(.agg #[(.int .i64 t0), (.int .i64 t1), (.slice t2A t2N t2C)]), (.slice listA listN listC), (.int .i64 n), (.int .i64 shift)] w R = coadjutorlaw11_VecsExact.vc t0 t1 t2A t2N t2C listA listN listC n shift w R := by kernel_rfl
theorem coadjutorlaw11_VecsExact.calls (t0 : Int) (t1 : Int) (t2A : Option Addr) (t2N : Nat) (t2C : Nat) (listA : Option Addr) (listN : Nat) (listC : Nat) (n : Int) (shift : Int) {w : World} {R : Value → World → Prop} (h : coadjutorlaw11_VecsExact.vc t0 t1 t2A t2N t2C listA listN listC n shift w R) : Calls Try.prog 13 #[(.agg #[(.int .i64 t0), (.int .i64 t1), (.slice t2A t2N t2C)]), (.slice listA listN listC), (.int .i64 n), (.int .i64 shift)] w (Ret R) :=
  calls_V fit Try.func13 (.c .nil (.at_ 3 4 (.k .nil) (.c .nil (.lp [(8, none), (9, some (.int .i64)), (10, none), (11, none), (12, none), (13, none), (29, none), (30, none), (31, none), (32, none), (33, none), (34, none), (35, none), (36, none), (37, none), (38, none), (39, none), (40, none), (41, none), (42, none), (43, none), (44, none), (45, none), (46, none), (47, none), (48, none), (49, none), (50, none), (51, none), (52, none), (53, none), (54, none), (55, none), (56, none), (57, none), (58, none), (59, none), (60, none), (61, none), (62, none), (63, none), (64, none), (65, none), (66, none), (67, none), (68, none), (69, none), (70, none), (71, none), (72, none), (73, none), (74, none), (75, none), (76, none), (77, none), (78, none), (79, none), (80, none), (81, none), (82, none), (83, none), (84, none), (85, none), (86, none), (87, none), (88, none), (89, none), (90, none), (91, none), (92, none), (93, none), (94, none), (95, none), (96, none), (97, none), (98, none), (99, none), (100, none), (101, none)] (.c (.c .nil (.tk 0 (.tk 1 (.tk 2 (.tk 3 (.tk 4 (.tk 5 (.alt 6 (.tk 7 (.tk 8 (.tk 9 (.tk 10 (.tk 11 (.fin (.tk 0 (.tk 1 (.tk 2 (.tk 3 (.tk 4 (.tk 5 (.tk 6 (.tk 7 (.tk 8 (.tk 9 (.tk 10 (.alt 11 (.tk 12 (.tk 13 (.tk 14 (.tk 15 (.tk 16 (.fin (.tk 0 (.tk 1 (.tk 2 (.tk 3 (.tks 4 (.tk 5 (.tk 6 (.tk 7 (.tk 8 (.tk 9 (.tk 10 (.tk 11 (.tk 12 (.tk 13 (.tk 14 (.tk 15 (.tk 16 (.tk 17 (.tk 18 (.tk 19 (.tk 20 (.tk 21 (.tk 22 (.tk 23 (.tk 24 (.tk 25 (.tk 26 (.tk 27 (.tk 28 (.tk 29 (.tk 30 (.tk 31 (.tk 32 (.tk 33 (.tk 34 (.tk 35 (.fin (.k .nil))))))))))))))))))))))))))))))))) (.tk 5 (.tk 6 (.tks 7 (.tk 8 (.tk 9 (.tk 10 (.tk 11 (.tks 12 (.tk 13 (.tk 14 (.tk 15 (.tk 16 (.tk 17 (.tk 18 (.tk 19 (.tk 20 (.tk 21 (.tk 22 (.tk 23 (.tk 24 (.tk 25 (.tk 26 (.tk 27 (.tk 28 (.tk 29 (.tk 30 (.tk 31 (.tk 32 (.tk 33 (.tk 34 (.tk 35 (.fin (.k .nil))))))))))))))))))))))))) (.tk 13 (.tk 14 (.alt 15 (.tk 16 (.tk 17 (.tks 18 (.tk 19 (.tk 20 (.tk 21 (.tk 22 (.tk 23 (.tk 24 (.tk 25 (.tk 26 (.tk 27 (.tk 28 (.tk 29 (.tk 30 (.tk 31 (.tk 32 (.tk 33 (.tk 34 (.tk 35 (.fin (.k .nil))))))))))))))))))) (.tk 19 (.tk 20 (.tk 21 (.tk 22 (.tk 23 (.tk 24 (.tk 26 (.tk 27 (.tk 28 (.tk 29 (.tk 30 (.tk 31 (.alt 25 (.alt 32 (.alt 33 (.tk 34 (.tk 35 (.fin (.c .nil .nil)))) .nil) .nil) .nil)))))))))))))))) .nil)))))))) (.tk 8 (.tk 9 (.tk 10 (.tk 11 (.tk 12 (.tk 13 (.tk 14 (.alt 15 (.tk 16 (.tk 17 (.tks 18 (.tk 19 (.tk 20 (.tk 21 (.tk 22 (.tk 23 (.tk 24 (.tk 25 (.tk 26 (.tk 27 (.tk 28 (.tk 29 (.tk 30 (.tk 31 (.tk 32 (.tk 33 (.tk 34 (.tk 35 (.fin (.k .nil))))))))))))))))))) (.tk 19 (.tk 20 (.tk 21 (.tk 22 (.tk 23 (.tk 24 (.tk 26 (.tk 27 (.tk 28 (.tk 29 (.tk 30 (.tk 31 (.alt 25 (.alt 32 (.alt 33 (.tk 34 (.tk 35 (.fin (.c .nil .nil)))) .nil) .nil) .nil)))))))))))))))) .nil)))))))))))))))))))))) .nil)))))))))))))))))) .nil)))))))) (.at_ 16 4 (.at_ 16 6 .nil (.at_ 16 11 .nil .nil)) .nil)))))) (by rw [show (#[(.agg #[(.int .i64 t0), (.int .i64 t1), (.slice t2A t2N t2C)]), (.slice listA listN listC), (.int .i64 n), (.int .i64 shift)] : Array Value).toList = [(.agg #[(.int .i64 t0), (.int .i64 t1), (.slice t2A t2N t2C)]), (.slice listA listN listC), (.int .i64 n), (.int .i64 shift)] from rfl, coadjutorlaw11_VecsExact.vc_eq]; exact h)
/-- function 11 -/
def coadjutorlaw11_VecsLinear.vc (t0 : Int) (t1 : Int) (t2A : Option Addr) (t2N : Nat) (t2C : Nat) (aA : Option Addr) (aN : Nat) (aC : Nat) (bA : Option Addr) (bN : Nat) (bC : Nat) (w : World) (R : Value → World → Prop) : Prop :=
  ∀ w1 : World, w1 = w.alloc (.cells #[(.int .i64 t0), (.int .i64 t1), (.slice t2A t2N t2C)] 55 (0, 0)) →
  Calls Try.prog 42 #[] w1 (Ret fun v w2 => ∃ (x20 : Bool), v = (.bool x20) ∧
  ((!x20) = true →
  R (.bool false) w2) ∧
  ((!x20) = false →
  ∃ (x220 : Int), ∃ (x221 : Int), ∃ (x222A : Option Addr), ∃ (x222N : Nat), ∃ (x222C : Nat), (w2.cell? (⟨w.heap.size, 0, none⟩ : Addr) = some (.int .i64 x220) ∧ w2.cell? (⟨w.heap.size, 1, none⟩ : Addr) = some (.int .i64 x221) ∧ w2.cell? (⟨w.heap.size, 2, none⟩ : Addr) = some (.slice x222A x222N x222C)) ∧
  Calls Try.prog 43 #[(.agg #[(.int .i64 x220), (.int .i64 x221), (.slice x222A x222N x222C)])] w2 (Ret fun v_1 w3 => ∃ (x23 : Bool), v_1 = (.bool x23) ∧
  ((!x23) = true →
  R (.bool true) w3) ∧
  ((!x23) = false →
  ∃ (x29 : Int), w3.cell? (⟨w.heap.size, 1, none⟩ : Addr) = some (.int .i64 x29) ∧
  ((((aN : Nat) : Int) != x29) = true →
  R (.bool true) w3) ∧
  ((((aN : Nat) : Int) != x29) = false →
  ∃ (x36 : Int), w3.cell? (⟨w.heap.size, 1, none⟩ : Addr) = some (.int .i64 x36) ∧
  ((((bN : Nat) : Int) != x36) = true →
  R (.bool true) w3) ∧
  ((((bN : Nat) : Int) != x36) = false →
  ∃ (x41 : Int), w3.cell? (⟨w.heap.size, 1, none⟩ : Addr) = some (.int .i64 x41) ∧
  (decide (x41 > (16 : Int)) = true →
  R (.bool true) w3) ∧
  (decide (x41 > (16 : Int)) = false →
  ∃ vI : Int → Nat → World → Prop, (∃ vk_2 : Nat, vI 0 vk_2 w3) ∧
  ∀ (jk : Nat → Value) (i : Int), ∀ (vk : Nat) (w4 : World), vI i vk w4 →
  ∃ (x46 : Int), w4.cell? (⟨w.heap.size, 1, none⟩ : Addr) = some (.int .i64 x46) ∧
  (decide (i < x46) = true →
  (0 ≤ i ∧ i < ((aN : Nat) : Int)) ∧ someV aA fun p =>
  ∃ (x53 : Int), w4.cell? (p.add (i.toNat * 1)) = some (.int .i64 x53) ∧
  (decide (x53 > (7 : Int)) = true →
  R (.bool true) w4) ∧
  (decide (x53 > (7 : Int)) = false →
  (0 ≤ i ∧ i < ((aN : Nat) : Int)) ∧ someV aA fun p_1 =>
  ∃ (x59 : Int), w4.cell? (p_1.add (i.toNat * 1)) = some (.int .i64 x59) ∧
  (decide (x59 < (-7 : Int)) = true →
  R (.bool true) w4) ∧
  (decide (x59 < (-7 : Int)) = false →
  (0 ≤ i ∧ i < ((bN : Nat) : Int)) ∧ someV bA fun p_2 =>
  ∃ (x66 : Int), w4.cell? (p_2.add (i.toNat * 1)) = some (.int .i64 x66) ∧
  (decide (x66 > (7 : Int)) = true →
  R (.bool true) w4) ∧
  (decide (x66 > (7 : Int)) = false →
  (0 ≤ i ∧ i < ((bN : Nat) : Int)) ∧ someV bA fun p_3 =>
  ∃ (x73 : Int), w4.cell? (p_3.add (i.toNat * 1)) = some (.int .i64 x73) ∧
  (decide (x73 < (-7 : Int)) = true →
  R (.bool true) w4) ∧
  (decide (x73 < (-7 : Int)) = false →
  ∃ vk_1 : Nat, vk_1 < vk ∧ vI (IntKind.i64.wrap (i + 1)) vk_1 w4))))) ∧
  (decide (i < x46) = false →
  ∀ w5 : World, w5 = w4.alloc (.cells #[(.slice aA aN aC), (.slice bA bN bC)] 29 (0, 0)) →
  Calls Try.prog 44 #[(.slice (some (⟨w4.heap.size, 0, none⟩ : Addr)) 2 2)] w5 (Ret fun v_2 w6 => ∃ (x80_0A : Option Addr), ∃ (x80_0N : Nat), ∃ (x80_0C : Nat), ∃ (x80_1 : Int), v_2 = (.tuple #[(.slice x80_0A x80_0N x80_0C), (.int .i64 x80_1)]) ∧
  ∃ (x840 : Int), ∃ (x841 : Int), ∃ (x842A : Option Addr), ∃ (x842N : Nat), ∃ (x842C : Nat), (w6.cell? (⟨w.heap.size, 0, none⟩ : Addr) = some (.int .i64 x840) ∧ w6.cell? (⟨w.heap.size, 1, none⟩ : Addr) = some (.int .i64 x841) ∧ w6.cell? (⟨w.heap.size, 2, none⟩ : Addr) = some (.slice x842A x842N x842C)) ∧
  Calls Try.prog 45 #[(.agg #[(.int .i64 x840), (.int .i64 x841), (.slice x842A x842N x842C)]), (.slice aA aN aC), (.int .i64 0)] w6 (Ret fun v_3 w7 => ∃ (x86_0A : Option Addr), ∃ (x86_0N : Nat), ∃ (x86_0C : Nat), ∃ (x86_1 : Int), v_3 = (.tuple #[(.slice x86_0A x86_0N x86_0C), (.int .i64 x86_1)]) ∧
  ∃ (x900 : Int), ∃ (x901 : Int), ∃ (x902A : Option Addr), ∃ (x902N : Nat), ∃ (x902C : Nat), (w7.cell? (⟨w.heap.size, 0, none⟩ : Addr) = some (.int .i64 x900) ∧ w7.cell? (⟨w.heap.size, 1, none⟩ : Addr) = some (.int .i64 x901) ∧ w7.cell? (⟨w.heap.size, 2, none⟩ : Addr) = some (.slice x902A x902N x902C)) ∧
  Calls Try.prog 45 #[(.agg #[(.int .i64 x900), (.int .i64 x901), (.slice x902A x902N x902C)]), (.slice bA bN bC), (.int .i64 0)] w7 (Ret fun v_4 w8 => ∃ (x92_0A : Option Addr), ∃ (x92_0N : Nat), ∃ (x92_0C : Nat), ∃ (x92_1 : Int), v_4 = (.tuple #[(.slice x92_0A x92_0N x92_0C), (.int .i64 x92_1)]) ∧
  ∃ (x960 : Int), ∃ (x961 : Int), ∃ (x962A : Option Addr), ∃ (x962N : Nat), ∃ (x962C : Nat), (w8.cell? (⟨w.heap.size, 0, none⟩ : Addr) = some (.int .i64 x960) ∧ w8.cell? (⟨w.heap.size, 1, none⟩ : Addr) = some (.int .i64 x961) ∧ w8.cell? (⟨w.heap.size, 2, none⟩ : Addr) = some (.slice x962A x962N x962C)) ∧
  Calls Try.prog 45 #[(.agg #[(.int .i64 x960), (.int .i64 x961), (.slice x962A x962N x962C)]), (.slice x80_0A x80_0N x80_0C), (.int .i64 0)] w8 (Ret fun v_5 w9 => ∃ (x98_0A : Option Addr), ∃ (x98_0N : Nat), ∃ (x98_0C : Nat), ∃ (x98_1 : Int), v_5 = (.tuple #[(.slice x98_0A x98_0N x98_0C), (.int .i64 x98_1)]) ∧
  ((x80_1 != (0 : Int)) = true →
  R (.bool false) w9) ∧
  ((x80_1 != (0 : Int)) = false →
  ((x86_1 != (0 : Int)) = true →
  R (.bool false) w9) ∧
  ((x86_1 != (0 : Int)) = false →
  ((x92_1 != (0 : Int)) = true →
  R (.bool false) w9) ∧
  ((x92_1 != (0 : Int)) = false →
  ((x98_1 != (0 : Int)) = true →
  R (.bool false) w9) ∧
  ((x98_1 != (0 : Int)) = false →
  ∀ w10 : World, w10 = w9.alloc (.cells #[(.slice x86_0A x86_0N x86_0C), (.slice x92_0A x92_0N x92_0C)] 29 (0, 0)) →
  Calls Try.prog 44 #[(.slice (some (⟨w9.heap.size, 0, none⟩ : Addr)) 2 2)] w10 (Ret fun v_6 w11 => ∃ (x119_0A : Option Addr), ∃ (x119_0N : Nat), ∃ (x119_0C : Nat), ∃ (x119_1 : Int), v_6 = (.tuple #[(.slice x119_0A x119_0N x119_0C), (.int .i64 x119_1)]) ∧
  ∀ w12 : World, w12 = w11.alloc (.cells #[(.slice x92_0A x92_0N x92_0C), (.slice x86_0A x86_0N x86_0C)] 29 (0, 0)) →
  Calls Try.prog 44 #[(.slice (some (⟨w11.heap.size, 0, none⟩ : Addr)) 2 2)] w12 (Ret fun v_7 w13 => ∃ (x126_0A : Option Addr), ∃ (x126_0N : Nat), ∃ (x126_0C : Nat), ∃ (x126_1 : Int), v_7 = (.tuple #[(.slice x126_0A x126_0N x126_0C), (.int .i64 x126_1)]) ∧
  ((x119_1 == (0 : Int)) = true →
  ((x126_1 == (0 : Int)) = true →
  Calls Try.prog 46 #[(.slice x119_0A x119_0N x119_0C), (.slice x98_0A x98_0N x98_0C)] w13 (Ret fun v_8 w14 => ∃ (x138 : Bool), v_8 = (.bool x138) ∧
  (x138 = true →
  Calls Try.prog 46 #[(.slice x126_0A x126_0N x126_0C), (.slice x98_0A x98_0N x98_0C)] w14 (Ret fun v_9 w15 => ∃ (x143 : Bool), v_9 = (.bool x143) ∧
  R (.bool x143) w15)) ∧
  (x138 = false →
  R (.bool false) w14))) ∧
  ((x126_1 == (0 : Int)) = false →
  R (.bool false) w13)) ∧
  ((x119_1 == (0 : Int)) = false →
  R (.bool false) w13)))))))))))))))))))
theorem coadjutorlaw11_VecsLinear.vc_eq (t0 : Int) (t1 : Int) (t2A : Option Addr) (t2N : Nat) (t2C : Nat) (aA : Option Addr) (aN : Nat) (aC : Nat) (bA : Option Addr) (bN : Nat) (bC : Nat) (w : World) (R : Value → World → Prop) : fnV Try.prog Try.f11 (.c .nil (.at_ 3 3 (.k .nil) (.at_ 3 10 (.k .nil) (.at_ 3 17 (.k .nil) (.c .nil (.lp [(6, none), (7, some (.int .i64)), (44, none), (45, none), (46, none), (47, none), (48, none), (49, none), (50, none), (51, none), (52, none), (53, none), (54, none), (55, none), (56, none), (57, none), (58, none), (59, none), (60, none), (61, none), (62, none), (63, none), (64, none), (65, none), (66, none), (67, none), (68, none), (69, none), (70, none), (71, none), (72, none), (73, none), (74, none), (75, none)] (.c (.at_ 8 5 (.k .nil) (.at_ 8 12 (.k .nil) (.at_ 8 19 (.k .nil) (.c .nil .nil)))) (.at_ 14 2 (.k .nil) (.at_ 14 6 (.k .nil) (.at_ 14 10 (.k .nil) (.c .nil (.at_ 18 2 (.at_ 18 6 (.at_ 18 11 .nil .nil) .nil) .nil)))))))))))) [(.agg #[(.int .i64 t0), (.int .i64 t1), (.slice t2A t2N t2C)]), (.slice aA aN aC), (.slice bA bN bC)] w R = coadjutorlaw11_VecsLinear.vc t0 t1 t2A t2N t2C aA aN aC bA bN bC w R := by kernel_rfl
theorem coadjutorlaw11_VecsLinear.calls (t0 : Int) (t1 : Int) (t2A : Option Addr) (t2N : Nat) (t2C : Nat) (aA : Option Addr) (aN : Nat) (aC : Nat) (bA : Option Addr) (bN : Nat) (bC : Nat) {w : World} {R : Value → World → Prop} (h : coadjutorlaw11_VecsLinear.vc t0 t1 t2A t2N t2C aA aN aC bA bN bC w R) : Calls Try.prog 11 #[(.agg #[(.int .i64 t0), (.int .i64 t1), (.slice t2A t2N t2C)]), (.slice aA aN aC), (.slice bA bN bC)] w (Ret R) :=
  calls_V fit Try.func11 (.c .nil (.at_ 3 3 (.k .nil) (.at_ 3 10 (.k .nil) (.at_ 3 17 (.k .nil) (.c .nil (.lp [(6, none), (7, some (.int .i64)), (44, none), (45, none), (46, none), (47, none), (48, none), (49, none), (50, none), (51, none), (52, none), (53, none), (54, none), (55, none), (56, none), (57, none), (58, none), (59, none), (60, none), (61, none), (62, none), (63, none), (64, none), (65, none), (66, none), (67, none), (68, none), (69, none), (70, none), (71, none), (72, none), (73, none), (74, none), (75, none)] (.c (.at_ 8 5 (.k .nil) (.at_ 8 12 (.k .nil) (.at_ 8 19 (.k .nil) (.c .nil .nil)))) (.at_ 14 2 (.k .nil) (.at_ 14 6 (.k .nil) (.at_ 14 10 (.k .nil) (.c .nil (.at_ 18 2 (.at_ 18 6 (.at_ 18 11 .nil .nil) .nil) .nil)))))))))))) (by rw [show (#[(.agg #[(.int .i64 t0), (.int .i64 t1), (.slice t2A t2N t2C)]), (.slice aA aN aC), (.slice bA bN bC)] : Array Value).toList = [(.agg #[(.int .i64 t0), (.int .i64 t1), (.slice t2A t2N t2C)]), (.slice aA aN aC), (.slice bA bN bC)] from rfl, coadjutorlaw11_VecsLinear.vc_eq]; exact h)
end Go.Proofs.Ytefidalhijpmdaa.Vc
