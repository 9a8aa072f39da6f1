import Derived.Test.YtfhnegfoglngoaaVc
import Derived.Test.YtfhnegfoglngoaaH
import Derived.Test.YtfhnegfoglngoaaProg
import Derived.KernelRfl
set_option linter.unusedVariables false
set_option maxRecDepth 100000
namespace Go.Proofs.Ytfhnegfoglngoaa.Vc
open Go Go.Proofs Go.Proofs.Ytfhnegfoglngoaa.V
/-- function 4 -/
def coadjutorlaw17_StepOrder.vc (c0 : Int) (c1 : Int) (c2 : Int) (c3 : Int) (c4 : Int) (c5 : Int) (weights : ByteArray) (tokensA : Option Addr) (tokensN : Nat) (tokensC : Nat) (turn : Int) (w : World) (R : Value → World → Prop) : Prop :=
  ∀ w1 : World, w1 = w.alloc (.cells #[(.int .i64 c0), (.int .i64 c1), (.int .i64 c2), (.int .i64 c3), (.int .i64 c4), (.int .i64 c5)] 23 (0, 0)) →
  Calls Try.prog 9 #[] w1 (Ret fun v w2 => ∃ (x25 : Bool), v = (.bool x25) ∧
  ((!x25) = true →
  R (.bool false) w2) ∧
  ((!x25) = false →
  (decide (((tokensN : Nat) : Int) > (6 : Int)) = true →
  R (.bool true) w2) ∧
  (decide (((tokensN : Nat) : Int) > (6 : Int)) = false →
  (decide ((IntKind.i64.wrap (((tokensN : Nat) : Int) - 1)) < (1 : Int)) = true →
  R (.bool true) w2) ∧
  (decide ((IntKind.i64.wrap (((tokensN : Nat) : Int) - 1)) < (1 : Int)) = false →
  ∃ (x380 : Int), ∃ (x381 : Int), ∃ (x382 : Int), ∃ (x383 : Int), ∃ (x384 : Int), ∃ (x385 : Int), (w2.cell? (⟨w.heap.size, 0, none⟩ : Addr) = some (.int .i64 x380) ∧ w2.cell? (⟨w.heap.size, 1, none⟩ : Addr) = some (.int .i64 x381) ∧ w2.cell? (⟨w.heap.size, 2, none⟩ : Addr) = some (.int .i64 x382) ∧ w2.cell? (⟨w.heap.size, 3, none⟩ : Addr) = some (.int .i64 x383) ∧ w2.cell? (⟨w.heap.size, 4, none⟩ : Addr) = some (.int .i64 x384) ∧ w2.cell? (⟨w.heap.size, 5, none⟩ : Addr) = some (.int .i64 x385)) ∧
  Calls Try.prog 10 #[(.agg #[(.int .i64 x380), (.int .i64 x381), (.int .i64 x382), (.int .i64 x383), (.int .i64 x384), (.int .i64 x385)])] w2 (Ret fun v_1 w3 => ∃ (x39 : Bool), v_1 = (.bool x39) ∧
  ((!x39) = true →
  R (.bool true) w3) ∧
  ((!x39) = false →
  ∃ (x44 : Int), w3.cell? (⟨w.heap.size, 3, none⟩ : Addr) = some (.int .i64 x44) ∧
  ((x44 != (1 : Int)) = true →
  R (.bool true) w3) ∧
  ((x44 != (1 : Int)) = false →
  (decide (((weights.size : Nat) : Int) > (2048 : Int)) = true →
  R (.bool true) w3) ∧
  (decide (((weights.size : Nat) : Int) > (2048 : Int)) = false →
  ∃ (x53A : Option Addr), ∃ (x53N : Nat), ∃ (x53C : Nat), ∃ w4 : World, (convert 9 43 (.string weights)).run Try.prog w3 = .ok (.slice x53A x53N x53C) w4 ∧
  ∃ J : World → Prop, (∃ (x55 : Int), w4.cell? (⟨w.heap.size, 0, none⟩ : Addr) = some (.int .i64 x55) ∧
  ∃ (x57 : Int), w4.cell? (⟨w.heap.size, 1, none⟩ : Addr) = some (.int .i64 x57) ∧
  ∃ vI : Int → Nat → World → Prop, (∃ vk_2 : Nat, vI (IntKind.i64.wrap (x55 * x57)) vk_2 w4) ∧
  ∀ (jk : Nat → Value) (i : Int), ∀ (vk : Nat) (w5 : World), vI i vk w5 →
  ∃ (x61 : Int), w5.cell? (⟨w.heap.size, 0, none⟩ : Addr) = some (.int .i64 x61) ∧
  ∃ (x63 : Int), w5.cell? (⟨w.heap.size, 5, none⟩ : Addr) = some (.int .i64 x63) ∧
  ∃ (x66 : Int), w5.cell? (⟨w.heap.size, 1, none⟩ : Addr) = some (.int .i64 x66) ∧
  (decide (i < (IntKind.i64.wrap ((IntKind.i64.wrap (x61 + x63)) * x66))) = true →
  (decide (i < ((x53N : Nat) : Int)) = true →
  (decide (i ≥ (0 : Int)) = true →
  (0 ≤ i ∧ i < ((x53N : Nat) : Int)) ∧ someV x53A fun p =>
  (((∃ u, w5.cell? (p.add (i.toNat * 1)) = some u) ∧ w5.frozen? (p.add (i.toNat * 1)) = false)) ∧ ∀ w6 : World, w6 = (w5.setCell (p.add (i.toNat * 1)) (.int .u8 0)) →
  ∃ vk_1 : Nat, vk_1 < vk ∧ vI (IntKind.i64.wrap (i + 1)) vk_1 w6) ∧
  (decide (i ≥ (0 : Int)) = false →
  J w5)) ∧
  (decide (i < ((x53N : Nat) : Int)) = false →
  J w5)) ∧
  (decide (i < (IntKind.i64.wrap ((IntKind.i64.wrap (x61 + x63)) * x66))) = false →
  J w5)) ∧
  ∀ (jk : Nat → Value), ∀ w7 : World, J w7 →
  ∃ (x850 : Int), ∃ (x851 : Int), ∃ (x852 : Int), ∃ (x853 : Int), ∃ (x854 : Int), ∃ (x855 : Int), (w7.cell? (⟨w.heap.size, 0, none⟩ : Addr) = some (.int .i64 x850) ∧ w7.cell? (⟨w.heap.size, 1, none⟩ : Addr) = some (.int .i64 x851) ∧ w7.cell? (⟨w.heap.size, 2, none⟩ : Addr) = some (.int .i64 x852) ∧ w7.cell? (⟨w.heap.size, 3, none⟩ : Addr) = some (.int .i64 x853) ∧ w7.cell? (⟨w.heap.size, 4, none⟩ : Addr) = some (.int .i64 x854) ∧ w7.cell? (⟨w.heap.size, 5, none⟩ : Addr) = some (.int .i64 x855)) ∧
  ∃ (x87 : ByteArray), ∃ w8 : World, (convert 43 9 (.slice x53A x53N x53C)).run Try.prog w7 = .ok (.string x87) w8 ∧
  Calls Try.prog 11 #[(.agg #[(.int .i64 x850), (.int .i64 x851), (.int .i64 x852), (.int .i64 x853), (.int .i64 x854), (.int .i64 x855)]), (.string x87)] w8 (Ret fun v_2 w9 => ∃ (x88_0 : Option Addr), ∃ (x88_1 : Int), v_2 = (.tuple #[(.pointer x88_0), (.int .i64 x88_1)]) ∧
  ((x88_1 != (0 : Int)) = true →
  R (.bool true) w9) ∧
  ((x88_1 != (0 : Int)) = false →
  (0 ≤ (IntKind.i64.wrap (((tokensN : Nat) : Int) - 1)) ∧ (IntKind.i64.wrap (((tokensN : Nat) : Int) - 1)) ≤ ((tokensC : Nat) : Int)) ∧
  Calls Try.prog 12 #[(.pointer x88_0), (.slice none 0 0), (.slice (if tokensC = 0 then tokensA else tokensA.map (·.add (0 * 1))) ((IntKind.i64.wrap (((tokensN : Nat) : Int) - 1)).toNat - 0) (tokensC - 0))] w9 (Ret fun v_3 w10 => ∃ (x98_0A : Option Addr), ∃ (x98_0N : Nat), ∃ (x98_0C : Nat), ∃ (x98_1A : Option Addr), ∃ (x98_1N : Nat), ∃ (x98_1C : Nat), ∃ (x98_2 : Int), v_3 = (.tuple #[(.slice x98_0A x98_0N x98_0C), (.slice x98_1A x98_1N x98_1C), (.int .i64 x98_2)]) ∧
  ((x98_2 != (0 : Int)) = true →
  R (.bool true) w10) ∧
  ((x98_2 != (0 : Int)) = false →
  (IntKind.u64.wrap (IntKind.i64.wrap (((tokensN : Nat) : Int) - 1))) ≠ 0 ∧
  ∃ vS : World → Prop, ∀ w11 : World, w11 = w10.drew → vS w11 ∧
  (0 ≤ (IntKind.i64.wrap (Int.tmod (IntKind.u64.wrap turn) (IntKind.u64.wrap (IntKind.i64.wrap (((tokensN : Nat) : Int) - 1))))) ∧ (IntKind.i64.wrap (Int.tmod (IntKind.u64.wrap turn) (IntKind.u64.wrap (IntKind.i64.wrap (((tokensN : Nat) : Int) - 1))))) ≤ ((x98_0N : Nat) : Int)) ∧
  (0 ≤ (IntKind.i64.wrap (Int.tmod (IntKind.u64.wrap turn) (IntKind.u64.wrap (IntKind.i64.wrap (((tokensN : Nat) : Int) - 1))))) ∧ (IntKind.i64.wrap (Int.tmod (IntKind.u64.wrap turn) (IntKind.u64.wrap (IntKind.i64.wrap (((tokensN : Nat) : Int) - 1))))) ≤ ((x98_0C : Nat) : Int)) ∧
  ∀ w12 : World, w12 = w11.alloc (.cells #[] 36 (0, 0)) →
  vS w12 ∧
  ∃ (x114A : Option Addr), ∃ (x114N : Nat), ∃ (x114C : Nat), ∃ w13 : World, (Builtin.append_ #[31, 31] 31 #[(.slice (some (⟨w11.heap.size, 0, none⟩ : Addr)) 0 0), (.slice (if x98_0C = (IntKind.i64.wrap (Int.tmod (IntKind.u64.wrap turn) (IntKind.u64.wrap (IntKind.i64.wrap (((tokensN : Nat) : Int) - 1))))).toNat then x98_0A else x98_0A.map (·.add ((IntKind.i64.wrap (Int.tmod (IntKind.u64.wrap turn) (IntKind.u64.wrap (IntKind.i64.wrap (((tokensN : Nat) : Int) - 1))))).toNat * 2))) (x98_0N - (IntKind.i64.wrap (Int.tmod (IntKind.u64.wrap turn) (IntKind.u64.wrap (IntKind.i64.wrap (((tokensN : Nat) : Int) - 1))))).toNat) (x98_0C - (IntKind.i64.wrap (Int.tmod (IntKind.u64.wrap turn) (IntKind.u64.wrap (IntKind.i64.wrap (((tokensN : Nat) : Int) - 1))))).toNat))]).run Try.prog w12 = .ok (.slice x114A x114N x114C) w13 ∧
  vS w13 ∧
  ∃ (x118A : Option Addr), ∃ (x118N : Nat), ∃ (x118C : Nat), ∃ w14 : World, (Builtin.append_ #[31, 31] 31 #[(.slice x114A x114N x114C), (.slice (if x98_0C = 0 then x98_0A else x98_0A.map (·.add (0 * 2))) ((IntKind.i64.wrap (Int.tmod (IntKind.u64.wrap turn) (IntKind.u64.wrap (IntKind.i64.wrap (((tokensN : Nat) : Int) - 1))))).toNat - 0) (x98_0C - 0))]).run Try.prog w13 = .ok (.slice x118A x118N x118C) w14 ∧
  vS w14 ∧
  (0 ≤ (IntKind.i64.wrap (((tokensN : Nat) : Int) - 1)) ∧ (IntKind.i64.wrap (((tokensN : Nat) : Int) - 1)) < ((tokensN : Nat) : Int)) ∧ someV tokensA fun p_1 =>
  ∃ (x125 : Int), w14.cell? (p_1.add ((IntKind.i64.wrap (((tokensN : Nat) : Int) - 1)).toNat * 1)) = some (.int .i64 x125) ∧
  Calls Try.prog 13 #[(.pointer x88_0), (.slice x98_0A x98_0N x98_0C), (.int .i64 x125)] w14 (Ret fun v_4 w15 => ∃ (x126_00A : Option Addr), ∃ (x126_00N : Nat), ∃ (x126_00C : Nat), ∃ (x126_01A : Option Addr), ∃ (x126_01N : Nat), ∃ (x126_01C : Nat), ∃ (x126_1A : Option Addr), ∃ (x126_1N : Nat), ∃ (x126_1C : Nat), ∃ (x126_2 : Int), v_4 = (.tuple #[(.agg #[(.slice x126_00A x126_00N x126_00C), (.slice x126_01A x126_01N x126_01C)]), (.slice x126_1A x126_1N x126_1C), (.int .i64 x126_2)]) ∧
  ∀ w16 : World, w16 = w15.alloc (.cells #[(.slice none 0 0), (.slice none 0 0)] 36 (0, 0)) →
  (((∃ u, w16.cell? (⟨w15.heap.size, 0, none⟩ : Addr) = some u) ∧ w16.frozen? (⟨w15.heap.size, 0, none⟩ : Addr) = false) ∧ ((∃ u, w16.cell? (⟨w15.heap.size, 1, none⟩ : Addr) = some u) ∧ w16.frozen? (⟨w15.heap.size, 1, none⟩ : Addr) = false)) ∧ ∀ w17 : World, w17 = ((w16.setCell (⟨w15.heap.size, 0, none⟩ : Addr) (.slice x126_00A x126_00N x126_00C)).setCell (⟨w15.heap.size, 1, none⟩ : Addr) (.slice x126_01A x126_01N x126_01C)) →
  (0 ≤ (IntKind.i64.wrap (((tokensN : Nat) : Int) - 1)) ∧ (IntKind.i64.wrap (((tokensN : Nat) : Int) - 1)) < ((tokensN : Nat) : Int)) ∧ someV tokensA fun p_2 =>
  ∃ (x136 : Int), w17.cell? (p_2.add ((IntKind.i64.wrap (((tokensN : Nat) : Int) - 1)).toNat * 1)) = some (.int .i64 x136) ∧
  Calls Try.prog 13 #[(.pointer x88_0), (.slice x118A x118N x118C), (.int .i64 x136)] w17 (Ret fun v_5 w18 => ∃ (x137_00A : Option Addr), ∃ (x137_00N : Nat), ∃ (x137_00C : Nat), ∃ (x137_01A : Option Addr), ∃ (x137_01N : Nat), ∃ (x137_01C : Nat), ∃ (x137_1A : Option Addr), ∃ (x137_1N : Nat), ∃ (x137_1C : Nat), ∃ (x137_2 : Int), v_5 = (.tuple #[(.agg #[(.slice x137_00A x137_00N x137_00C), (.slice x137_01A x137_01N x137_01C)]), (.slice x137_1A x137_1N x137_1C), (.int .i64 x137_2)]) ∧
  ∀ w19 : World, w19 = w18.alloc (.cells #[(.slice none 0 0), (.slice none 0 0)] 36 (0, 0)) →
  (((∃ u, w19.cell? (⟨w18.heap.size, 0, none⟩ : Addr) = some u) ∧ w19.frozen? (⟨w18.heap.size, 0, none⟩ : Addr) = false) ∧ ((∃ u, w19.cell? (⟨w18.heap.size, 1, none⟩ : Addr) = some u) ∧ w19.frozen? (⟨w18.heap.size, 1, none⟩ : Addr) = false)) ∧ ∀ w20 : World, w20 = ((w19.setCell (⟨w18.heap.size, 0, none⟩ : Addr) (.slice x137_00A x137_00N x137_00C)).setCell (⟨w18.heap.size, 1, none⟩ : Addr) (.slice x137_01A x137_01N x137_01C)) →
  ((x126_2 == x137_2) = true →
  ∃ (x1450A : Option Addr), ∃ (x1450N : Nat), ∃ (x1450C : Nat), ∃ (x1451A : Option Addr), ∃ (x1451N : Nat), ∃ (x1451C : Nat), (w20.cell? (⟨w15.heap.size, 0, none⟩ : Addr) = some (.slice x1450A x1450N x1450C) ∧ w20.cell? (⟨w15.heap.size, 1, none⟩ : Addr) = some (.slice x1451A x1451N x1451C)) ∧
  ∃ (x1460A : Option Addr), ∃ (x1460N : Nat), ∃ (x1460C : Nat), ∃ (x1461A : Option Addr), ∃ (x1461N : Nat), ∃ (x1461C : Nat), (w20.cell? (⟨w18.heap.size, 0, none⟩ : Addr) = some (.slice x1460A x1460N x1460C) ∧ w20.cell? (⟨w18.heap.size, 1, none⟩ : Addr) = some (.slice x1461A x1461N x1461C)) ∧
  Calls Try.prog 14 #[(.agg #[(.slice x1450A x1450N x1450C), (.slice x1451A x1451N x1451C)]), (.agg #[(.slice x1460A x1460N x1460C), (.slice x1461A x1461N x1461C)])] w20 (Ret fun v_6 w21 => ∃ (x147 : Bool), v_6 = (.bool x147) ∧
  (x147 = true →
  Calls Try.prog 15 #[(.slice x126_1A x126_1N x126_1C), (.slice x137_1A x137_1N x137_1C)] w21 (Ret fun v_7 w22 => ∃ (x152 : Bool), v_7 = (.bool x152) ∧
  R (.bool x152) w22)) ∧
  (x147 = false →
  R (.bool false) w21))) ∧
  ((x126_2 == x137_2) = false →
  R (.bool false) w20)))))))))))))))
theorem coadjutorlaw17_StepOrder.vc_eq (c0 : Int) (c1 : Int) (c2 : Int) (c3 : Int) (c4 : Int) (c5 : Int) (weights : ByteArray) (tokensA : Option Addr) (tokensN : Nat) (tokensC : Nat) (turn : Int) (w : World) (R : Value → World → Prop) : fnV Try.prog Try.f4 (.c .nil (.at_ 4 3 (.k .nil) (.at_ 4 7 (.k .nil) (.at_ 4 12 (.k .nil) (.at_ 4 17 (.k .nil) (.c .nil (.cut 1 [(11, none), (54, none), (55, none), (56, none), (57, none), (58, none), (59, none), (60, none), (61, none), (62, none), (63, none), (64, none), (65, none), (66, none), (67, none), (68, none), (69, none), (70, none), (71, none), (72, none), (73, none), (74, none), (75, none), (76, none), (77, none), (78, none), (79, none), (80, none), (81, none), (82, none), (83, none)] (.lp [(11, some (.int .i64)), (59, none), (60, none), (61, none), (62, none), (63, none), (64, none), (65, none), (66, none), (67, none), (68, none), (69, none), (70, none), (71, none), (72, none), (73, none), (74, none), (75, none), (76, none), (77, none), (78, none), (79, none), (80, none), (81, none), (82, none), (83, none)] (.at_ 8 10 (.at_ 8 16 (.c .nil .nil) (.k .nil)) (.k .nil))) (.c .nil (.c .nil (.tk 1 (.tk 2 (.tk 3 (.tk 5 (.tk 6 (.tk 7 (.alt 0 (.alt 4 (.alt 8 (.tk 9 (.fin (.at_ 21 3 (.at_ 21 8 .nil .nil) .nil))) .nil) .nil) .nil)))))))))))))))) [(.agg #[(.int .i64 c0), (.int .i64 c1), (.int .i64 c2), (.int .i64 c3), (.int .i64 c4), (.int .i64 c5)]), (.string weights), (.slice tokensA tokensN tokensC), (.int .i64 turn)] w R = coadjutorlaw17_StepOrder.vc c0 c1 c2 c3 c4 c5 weights tokensA tokensN tokensC turn w R := by kernel_rfl
theorem coadjutorlaw17_StepOrder.calls (c0 : Int) (c1 : Int) (c2 : Int) (c3 : Int) (c4 : Int) (c5 : Int) (weights : ByteArray) (tokensA : Option Addr) (tokensN : Nat) (tokensC : Nat) (turn : Int) {w : World} {R : Value → World → Prop} (h : coadjutorlaw17_StepOrder.vc c0 c1 c2 c3 c4 c5 weights tokensA tokensN tokensC turn w R) : Calls Try.prog 4 #[(.agg #[(.int .i64 c0), (.int .i64 c1), (.int .i64 c2), (.int .i64 c3), (.int .i64 c4), (.int .i64 c5)]), (.string weights), (.slice tokensA tokensN tokensC), (.int .i64 turn)] w (Ret R) :=
  calls_V fit Try.func4 (.c .nil (.at_ 4 3 (.k .nil) (.at_ 4 7 (.k .nil) (.at_ 4 12 (.k .nil) (.at_ 4 17 (.k .nil) (.c .nil (.cut 1 [(11, none), (54, none), (55, none), (56, none), (57, none), (58, none), (59, none), (60, none), (61, none), (62, none), (63, none), (64, none), (65, none), (66, none), (67, none), (68, none), (69, none), (70, none), (71, none), (72, none), (73, none), (74, none), (75, none), (76, none), (77, none), (78, none), (79, none), (80, none), (81, none), (82, none), (83, none)] (.lp [(11, some (.int .i64)), (59, none), (60, none), (61, none), (62, none), (63, none), (64, none), (65, none), (66, none), (67, none), (68, none), (69, none), (70, none), (71, none), (72, none), (73, none), (74, none), (75, none), (76, none), (77, none), (78, none), (79, none), (80, none), (81, none), (82, none), (83, none)] (.at_ 8 10 (.at_ 8 16 (.c .nil .nil) (.k .nil)) (.k .nil))) (.c .nil (.c .nil (.tk 1 (.tk 2 (.tk 3 (.tk 5 (.tk 6 (.tk 7 (.alt 0 (.alt 4 (.alt 8 (.tk 9 (.fin (.at_ 21 3 (.at_ 21 8 .nil .nil) .nil))) .nil) .nil) .nil)))))))))))))))) (by rw [show (#[(.agg #[(.int .i64 c0), (.int .i64 c1), (.int .i64 c2), (.int .i64 c3), (.int .i64 c4), (.int .i64 c5)]), (.string weights), (.slice tokensA tokensN tokensC), (.int .i64 turn)] : Array Value).toList = [(.agg #[(.int .i64 c0), (.int .i64 c1), (.int .i64 c2), (.int .i64 c3), (.int .i64 c4), (.int .i64 c5)]), (.string weights), (.slice tokensA tokensN tokensC), (.int .i64 turn)] from rfl, coadjutorlaw17_StepOrder.vc_eq]; exact h)
end Go.Proofs.Ytfhnegfoglngoaa.Vc
