import Derived.Test.YtfhnegfoglngoaaVc
import Derived.Test.YtfhnegfoglngoaaH
import Derived.Test.YtfhnegfoglngoaaProg
import Derived.KernelRfl
set_option linter.unusedVariables false
set_option maxRecDepth 100000
namespace Go.Proofs.Ytfhnegfoglngoaa.Vc
open Go Go.Proofs Go.Proofs.Ytfhnegfoglngoaa.V
/-- function 3 -/
def coadjutorlaw17_StepRuns.vc (c0 : Int) (c1 : Int) (c2 : Int) (c3 : Int) (c4 : Int) (c5 : Int) (weights : ByteArray) (tokensA : Option Addr) (tokensN : Nat) (tokensC : Nat) (split : Int) (w : World) (R : Value → World → Prop) : Prop :=
  ∀ w1 : World, w1 = w.alloc (.cells #[(.int .i64 c0), (.int .i64 c1), (.int .i64 c2), (.int .i64 c3), (.int .i64 c4), (.int .i64 c5)] 23 (0, 0)) →
  Calls Try.prog 9 #[] w1 (Ret fun v w2 => ∃ (x35 : Bool), v = (.bool x35) ∧
  ((!x35) = true →
  R (.bool false) w2) ∧
  ((!x35) = false →
  (decide (((tokensN : Nat) : Int) > (8 : Int)) = true →
  R (.bool true) w2) ∧
  (decide (((tokensN : Nat) : Int) > (8 : Int)) = false →
  ∃ (x410 : Int), ∃ (x411 : Int), ∃ (x412 : Int), ∃ (x413 : Int), ∃ (x414 : Int), ∃ (x415 : Int), (w2.cell? (⟨w.heap.size, 0, none⟩ : Addr) = some (.int .i64 x410) ∧ w2.cell? (⟨w.heap.size, 1, none⟩ : Addr) = some (.int .i64 x411) ∧ w2.cell? (⟨w.heap.size, 2, none⟩ : Addr) = some (.int .i64 x412) ∧ w2.cell? (⟨w.heap.size, 3, none⟩ : Addr) = some (.int .i64 x413) ∧ w2.cell? (⟨w.heap.size, 4, none⟩ : Addr) = some (.int .i64 x414) ∧ w2.cell? (⟨w.heap.size, 5, none⟩ : Addr) = some (.int .i64 x415)) ∧
  Calls Try.prog 10 #[(.agg #[(.int .i64 x410), (.int .i64 x411), (.int .i64 x412), (.int .i64 x413), (.int .i64 x414), (.int .i64 x415)])] w2 (Ret fun v_1 w3 => ∃ (x42 : Bool), v_1 = (.bool x42) ∧
  ((!x42) = true →
  R (.bool true) w3) ∧
  ((!x42) = false →
  (decide (((weights.size : Nat) : Int) > (2048 : Int)) = true →
  R (.bool true) w3) ∧
  (decide (((weights.size : Nat) : Int) > (2048 : Int)) = false →
  ∃ (x510 : Int), ∃ (x511 : Int), ∃ (x512 : Int), ∃ (x513 : Int), ∃ (x514 : Int), ∃ (x515 : Int), (w3.cell? (⟨w.heap.size, 0, none⟩ : Addr) = some (.int .i64 x510) ∧ w3.cell? (⟨w.heap.size, 1, none⟩ : Addr) = some (.int .i64 x511) ∧ w3.cell? (⟨w.heap.size, 2, none⟩ : Addr) = some (.int .i64 x512) ∧ w3.cell? (⟨w.heap.size, 3, none⟩ : Addr) = some (.int .i64 x513) ∧ w3.cell? (⟨w.heap.size, 4, none⟩ : Addr) = some (.int .i64 x514) ∧ w3.cell? (⟨w.heap.size, 5, none⟩ : Addr) = some (.int .i64 x515)) ∧
  Calls Try.prog 11 #[(.agg #[(.int .i64 x510), (.int .i64 x511), (.int .i64 x512), (.int .i64 x513), (.int .i64 x514), (.int .i64 x515)]), (.string weights)] w3 (Ret fun v_2 w4 => ∃ (x53_0 : Option Addr), ∃ (x53_1 : Int), v_2 = (.tuple #[(.pointer x53_0), (.int .i64 x53_1)]) ∧
  ((x53_1 != (0 : Int)) = true →
  R (.bool true) w4) ∧
  ((x53_1 != (0 : Int)) = false →
  Calls Try.prog 12 #[(.pointer x53_0), (.slice none 0 0), (.slice tokensA tokensN tokensC)] w4 (Ret fun v_3 w5 => ∃ (x61_0A : Option Addr), ∃ (x61_0N : Nat), ∃ (x61_0C : Nat), ∃ (x61_1A : Option Addr), ∃ (x61_1N : Nat), ∃ (x61_1C : Nat), ∃ (x61_2 : Int), v_3 = (.tuple #[(.slice x61_0A x61_0N x61_0C), (.slice x61_1A x61_1N x61_1C), (.int .i64 x61_2)]) ∧
  ((x61_2 != (0 : Int)) = true →
  ∃ J : Bool → World → Prop, (((((tokensN : Nat) : Int) == (0 : Int)) = true →
  J true w5) ∧
  ((((tokensN : Nat) : Int) == (0 : Int)) = false →
  ∃ (x74 : Int), w5.cell? (⟨w.heap.size, 5, none⟩ : Addr) = some (.int .i64 x74) ∧
  J (decide (((tokensN : Nat) : Int) > x74)) w5)) ∧
  ∀ (jk : Nat → Value) (bad : Bool), ∀ w6 : World, J bad w6 →
  ∃ vI : Bool → Int → Nat → World → Prop, (∃ vk_2 : Nat, vI bad 0 vk_2 w6) ∧
  ∀ (jk : Nat → Value) (bad_1 : Bool) (i : Int), ∀ (vk : Nat) (w7 : World), vI bad_1 i vk w7 →
  (decide (i < ((tokensN : Nat) : Int)) = true →
  ∃ vS : World → Prop, ∀ w8 : World, w8 = w7.drew → vS w8 ∧
  (bad_1 = true →
  ∃ vk_1 : Nat, vk_1 < vk ∧ vI true (IntKind.i64.wrap (i + 1)) vk_1 w8) ∧
  (bad_1 = false →
  (0 ≤ i ∧ i < ((tokensN : Nat) : Int)) ∧ someV tokensA fun p =>
  ∃ (x88 : Int), (∀ w9, vS w9 → w9.cell? (p.add (i.toNat * 1)) = some (.int .i64 x88)) ∧
  (decide (x88 < (0 : Int)) = true →
  ∃ vk_1 : Nat, vk_1 < vk ∧ vI true (IntKind.i64.wrap (i + 1)) vk_1 w8) ∧
  (decide (x88 < (0 : Int)) = false →
  (0 ≤ i ∧ i < ((tokensN : Nat) : Int)) ∧ someV tokensA fun p_1 =>
  ∃ (x95 : Int), (∀ w10, vS w10 → w10.cell? (p_1.add (i.toNat * 1)) = some (.int .i64 x95)) ∧
  ∃ (x97 : Int), (∀ w11, vS w11 → w11.cell? (⟨w.heap.size, 0, none⟩ : Addr) = some (.int .i64 x97)) ∧
  ∃ vk_1 : Nat, vk_1 < vk ∧ vI (decide (x95 ≥ x97)) (IntKind.i64.wrap (i + 1)) vk_1 w8))) ∧
  (decide (i < ((tokensN : Nat) : Int)) = false →
  (bad_1 = true →
  ((((x61_0N : Nat) : Int) == (0 : Int)) = true →
  R (.bool (((x61_1N : Nat) : Int) == (0 : Int))) w7) ∧
  ((((x61_0N : Nat) : Int) == (0 : Int)) = false →
  R (.bool false) w7)) ∧
  (bad_1 = false →
  R (.bool false) w7))) ∧
  ((x61_2 != (0 : Int)) = false →
  ∀ w12 : World, w12 = w5.alloc (.cells #[] 36 (0, 0)) →
  ∃ vI_1 : Option Addr → Nat → Nat → Int → Nat → World → Prop, (∃ vk_5 : Nat, vI_1 (some (⟨w5.heap.size, 0, none⟩ : Addr)) 0 0 0 vk_5 w12) ∧
  ∀ (jk : Nat → Value) (pastA : Option Addr) (pastN : Nat) (pastC : Nat) (i_1 : Int), ∀ (vk_3 : Nat) (w13 : World), vI_1 pastA pastN pastC i_1 vk_3 w13 →
  (decide (i_1 < ((tokensN : Nat) : Int)) = true →
  (0 ≤ i_1 ∧ i_1 < ((tokensN : Nat) : Int)) ∧ someV tokensA fun p_2 =>
  ∃ (x124 : Int), w13.cell? (p_2.add (i_1.toNat * 1)) = some (.int .i64 x124) ∧
  Calls Try.prog 13 #[(.pointer x53_0), (.slice pastA pastN pastC), (.int .i64 x124)] w13 (Ret fun v_4 w14 => ∃ (x125_00A : Option Addr), ∃ (x125_00N : Nat), ∃ (x125_00C : Nat), ∃ (x125_01A : Option Addr), ∃ (x125_01N : Nat), ∃ (x125_01C : Nat), ∃ (x125_1A : Option Addr), ∃ (x125_1N : Nat), ∃ (x125_1C : Nat), ∃ (x125_2 : Int), v_4 = (.tuple #[(.agg #[(.slice x125_00A x125_00N x125_00C), (.slice x125_01A x125_01N x125_01C)]), (.slice x125_1A x125_1N x125_1C), (.int .i64 x125_2)]) ∧
  ∀ w15 : World, w15 = w14.alloc (.cells #[(.slice none 0 0), (.slice none 0 0)] 36 (0, 0)) →
  (((∃ u, w15.cell? (⟨w14.heap.size, 0, none⟩ : Addr) = some u) ∧ w15.frozen? (⟨w14.heap.size, 0, none⟩ : Addr) = false) ∧ ((∃ u, w15.cell? (⟨w14.heap.size, 1, none⟩ : Addr) = some u) ∧ w15.frozen? (⟨w14.heap.size, 1, none⟩ : Addr) = false)) ∧ ∀ w16 : World, w16 = ((w15.setCell (⟨w14.heap.size, 0, none⟩ : Addr) (.slice x125_00A x125_00N x125_00C)).setCell (⟨w14.heap.size, 1, none⟩ : Addr) (.slice x125_01A x125_01N x125_01C)) →
  ∃ J_1 : World → Prop, (∃ vS_1 : World → Prop, ∀ w17 : World, w17 = w16.drew → vS_1 w17 ∧
  ((x125_2 != (0 : Int)) = true →
  R (.bool false) w17) ∧
  ((x125_2 != (0 : Int)) = false →
  ∃ (x1320A : Option Addr), ∃ (x1320N : Nat), ∃ (x1320C : Nat), ∃ (x1321A : Option Addr), ∃ (x1321N : Nat), ∃ (x1321C : Nat), ((∀ w18, vS_1 w18 → w18.cell? (⟨w14.heap.size, 0, none⟩ : Addr) = some (.slice x1320A x1320N x1320C)) ∧ (∀ w18, vS_1 w18 → w18.cell? (⟨w14.heap.size, 1, none⟩ : Addr) = some (.slice x1321A x1321N x1321C))) ∧
  (0 ≤ i_1 ∧ i_1 < ((x61_0N : Nat) : Int)) ∧ someV x61_0A fun p_3 =>
  ∃ (x1360A : Option Addr), ∃ (x1360N : Nat), ∃ (x1360C : Nat), ∃ (x1361A : Option Addr), ∃ (x1361N : Nat), ∃ (x1361C : Nat), ((∀ w19, vS_1 w19 → w19.cell? (p_3.add (i_1.toNat * 2)) = some (.slice x1360A x1360N x1360C)) ∧ (∀ w19, vS_1 w19 → w19.cell? ((p_3.add (i_1.toNat * 2)).add 1) = some (.slice x1361A x1361N x1361C))) ∧
  Calls Try.prog 14 #[(.agg #[(.slice x1320A x1320N x1320C), (.slice x1321A x1321N x1321C)]), (.agg #[(.slice x1360A x1360N x1360C), (.slice x1361A x1361N x1361C)])] w17 (Ret fun v_5 w20 => ∃ (x137 : Bool), v_5 = (.bool x137) ∧
  vS_1 w20 ∧
  ((!x137) = true →
  R (.bool false) w20) ∧
  ((!x137) = false →
  ((i_1 == (IntKind.i64.wrap (((tokensN : Nat) : Int) - 1))) = true →
  Calls Try.prog 15 #[(.slice x125_1A x125_1N x125_1C), (.slice x61_1A x61_1N x61_1C)] w20 (Ret fun v_6 w21 => ∃ (x149 : Bool), v_6 = (.bool x149) ∧
  vS_1 w21 ∧
  ((!x149) = true →
  R (.bool false) w21) ∧
  ((!x149) = false →
  J_1 w21))) ∧
  ((i_1 == (IntKind.i64.wrap (((tokensN : Nat) : Int) - 1))) = false →
  J_1 w20))))) ∧
  ∀ (jk : Nat → Value), ∀ w22 : World, J_1 w22 →
  ∃ (x1540A : Option Addr), ∃ (x1540N : Nat), ∃ (x1540C : Nat), ∃ (x1541A : Option Addr), ∃ (x1541N : Nat), ∃ (x1541C : Nat), (w22.cell? (⟨w14.heap.size, 0, none⟩ : Addr) = some (.slice x1540A x1540N x1540C) ∧ w22.cell? (⟨w14.heap.size, 1, none⟩ : Addr) = some (.slice x1541A x1541N x1541C)) ∧
  ∀ w23 : World, w23 = w22.alloc (.cells #[(.slice x1540A x1540N x1540C), (.slice x1541A x1541N x1541C)] 36 (0, 0)) →
  ∃ (x156A : Option Addr), ∃ (x156N : Nat), ∃ (x156C : Nat), ∃ w24 : World, (Builtin.append_ #[31, 31] 31 #[(.slice pastA pastN pastC), (.slice (some (⟨w22.heap.size, 0, none⟩ : Addr)) 1 1)]).run Try.prog w23 = .ok (.slice x156A x156N x156C) w24 ∧
  ∃ vk_4 : Nat, vk_4 < vk_3 ∧ vI_1 x156A x156N x156C (IntKind.i64.wrap (i_1 + 1)) vk_4 w24)) ∧
  (decide (i_1 < ((tokensN : Nat) : Int)) = false →
  (IntKind.u64.wrap ((tokensN : Nat) : Int)) ≠ 0 ∧
  (((IntKind.i64.wrap (Int.tmod (IntKind.u64.wrap split) (IntKind.u64.wrap ((tokensN : Nat) : Int)))) == (0 : Int)) = true →
  R (.bool (((x61_0N : Nat) : Int) == ((tokensN : Nat) : Int))) w13) ∧
  (((IntKind.i64.wrap (Int.tmod (IntKind.u64.wrap split) (IntKind.u64.wrap ((tokensN : Nat) : Int)))) == (0 : Int)) = false →
  (0 ≤ (IntKind.i64.wrap (Int.tmod (IntKind.u64.wrap split) (IntKind.u64.wrap ((tokensN : Nat) : Int)))) ∧ (IntKind.i64.wrap (Int.tmod (IntKind.u64.wrap split) (IntKind.u64.wrap ((tokensN : Nat) : Int)))) ≤ ((tokensC : Nat) : Int)) ∧
  Calls Try.prog 12 #[(.pointer x53_0), (.slice none 0 0), (.slice (if tokensC = 0 then tokensA else tokensA.map (·.add (0 * 1))) ((IntKind.i64.wrap (Int.tmod (IntKind.u64.wrap split) (IntKind.u64.wrap ((tokensN : Nat) : Int)))).toNat - 0) (tokensC - 0))] w13 (Ret fun v_7 w25 => ∃ (x176_0A : Option Addr), ∃ (x176_0N : Nat), ∃ (x176_0C : Nat), ∃ (x176_1A : Option Addr), ∃ (x176_1N : Nat), ∃ (x176_1C : Nat), ∃ (x176_2 : Int), v_7 = (.tuple #[(.slice x176_0A x176_0N x176_0C), (.slice x176_1A x176_1N x176_1C), (.int .i64 x176_2)]) ∧
  (0 ≤ (IntKind.i64.wrap (Int.tmod (IntKind.u64.wrap split) (IntKind.u64.wrap ((tokensN : Nat) : Int)))) ∧ (IntKind.i64.wrap (Int.tmod (IntKind.u64.wrap split) (IntKind.u64.wrap ((tokensN : Nat) : Int)))) ≤ ((tokensN : Nat) : Int)) ∧
  Calls Try.prog 12 #[(.pointer x53_0), (.slice x176_0A x176_0N x176_0C), (.slice (if tokensC = (IntKind.i64.wrap (Int.tmod (IntKind.u64.wrap split) (IntKind.u64.wrap ((tokensN : Nat) : Int)))).toNat then tokensA else tokensA.map (·.add ((IntKind.i64.wrap (Int.tmod (IntKind.u64.wrap split) (IntKind.u64.wrap ((tokensN : Nat) : Int)))).toNat * 1))) (tokensN - (IntKind.i64.wrap (Int.tmod (IntKind.u64.wrap split) (IntKind.u64.wrap ((tokensN : Nat) : Int)))).toNat) (tokensC - (IntKind.i64.wrap (Int.tmod (IntKind.u64.wrap split) (IntKind.u64.wrap ((tokensN : Nat) : Int)))).toNat))] w25 (Ret fun v_8 w26 => ∃ (x186_0A : Option Addr), ∃ (x186_0N : Nat), ∃ (x186_0C : Nat), ∃ (x186_1A : Option Addr), ∃ (x186_1N : Nat), ∃ (x186_1C : Nat), ∃ (x186_2 : Int), v_8 = (.tuple #[(.slice x186_0A x186_0N x186_0C), (.slice x186_1A x186_1N x186_1C), (.int .i64 x186_2)]) ∧
  ((x176_2 != (0 : Int)) = true →
  R (.bool false) w26) ∧
  ((x176_2 != (0 : Int)) = false →
  ((x186_2 != (0 : Int)) = true →
  R (.bool false) w26) ∧
  ((x186_2 != (0 : Int)) = false →
  Calls Try.prog 15 #[(.slice x186_1A x186_1N x186_1C), (.slice x61_1A x61_1N x61_1C)] w26 (Ret fun v_9 w27 => ∃ (x199 : Bool), v_9 = (.bool x199) ∧
  ((!x199) = true →
  R (.bool false) w27) ∧
  ((!x199) = false →
  (((IntKind.i64.wrap (((x176_0N : Nat) : Int) + ((x186_0N : Nat) : Int))) != ((x61_0N : Nat) : Int)) = true →
  R (.bool false) w27) ∧
  (((IntKind.i64.wrap (((x176_0N : Nat) : Int) + ((x186_0N : Nat) : Int))) != ((x61_0N : Nat) : Int)) = false →
  ∃ vI_2 : Int → Nat → World → Prop, (∃ vk_8 : Nat, vI_2 0 vk_8 w27) ∧
  ∀ (jk : Nat → Value) (n : Int), ∀ (vk_6 : Nat) (w28 : World), vI_2 n vk_6 w28 →
  (decide (n < ((x186_0N : Nat) : Int)) = true →
  ∃ vS_2 : World → Prop, ∀ w29 : World, w29 = w28.drew → vS_2 w29 ∧
  (0 ≤ n ∧ n < ((x186_0N : Nat) : Int)) ∧ someV x186_0A fun p_4 =>
  ∃ (x2210A : Option Addr), ∃ (x2210N : Nat), ∃ (x2210C : Nat), ∃ (x2211A : Option Addr), ∃ (x2211N : Nat), ∃ (x2211C : Nat), ((∀ w30, vS_2 w30 → w30.cell? (p_4.add (n.toNat * 2)) = some (.slice x2210A x2210N x2210C)) ∧ (∀ w30, vS_2 w30 → w30.cell? ((p_4.add (n.toNat * 2)).add 1) = some (.slice x2211A x2211N x2211C))) ∧
  (0 ≤ (IntKind.i64.wrap ((IntKind.i64.wrap (Int.tmod (IntKind.u64.wrap split) (IntKind.u64.wrap ((tokensN : Nat) : Int)))) + n)) ∧ (IntKind.i64.wrap ((IntKind.i64.wrap (Int.tmod (IntKind.u64.wrap split) (IntKind.u64.wrap ((tokensN : Nat) : Int)))) + n)) < ((x61_0N : Nat) : Int)) ∧ someV x61_0A fun p_5 =>
  ∃ (x2270A : Option Addr), ∃ (x2270N : Nat), ∃ (x2270C : Nat), ∃ (x2271A : Option Addr), ∃ (x2271N : Nat), ∃ (x2271C : Nat), ((∀ w31, vS_2 w31 → w31.cell? (p_5.add ((IntKind.i64.wrap ((IntKind.i64.wrap (Int.tmod (IntKind.u64.wrap split) (IntKind.u64.wrap ((tokensN : Nat) : Int)))) + n)).toNat * 2)) = some (.slice x2270A x2270N x2270C)) ∧ (∀ w31, vS_2 w31 → w31.cell? ((p_5.add ((IntKind.i64.wrap ((IntKind.i64.wrap (Int.tmod (IntKind.u64.wrap split) (IntKind.u64.wrap ((tokensN : Nat) : Int)))) + n)).toNat * 2)).add 1) = some (.slice x2271A x2271N x2271C))) ∧
  Calls Try.prog 14 #[(.agg #[(.slice x2210A x2210N x2210C), (.slice x2211A x2211N x2211C)]), (.agg #[(.slice x2270A x2270N x2270C), (.slice x2271A x2271N x2271C)])] w29 (Ret fun v_10 w32 => ∃ (x228 : Bool), v_10 = (.bool x228) ∧
  vS_2 w32 ∧
  ((!x228) = true →
  R (.bool false) w32) ∧
  ((!x228) = false →
  ∃ vk_7 : Nat, vk_7 < vk_6 ∧ vI_2 (IntKind.i64.wrap (n + 1)) vk_7 w32))) ∧
  (decide (n < ((x186_0N : Nat) : Int)) = false →
  ∀ w33 : World, w33 = w28.alloc (.cells #[(.int .i64 1)] 3 (0, 0)) →
  Calls Try.prog 12 #[(.pointer none), (.slice none 0 0), (.slice (some (⟨w28.heap.size, 0, none⟩ : Addr)) 1 1)] w33 (Ret fun v_11 w34 => ∃ (x232_0A : Option Addr), ∃ (x232_0N : Nat), ∃ (x232_0C : Nat), ∃ (x232_1A : Option Addr), ∃ (x232_1N : Nat), ∃ (x232_1C : Nat), ∃ (x232_2 : Int), v_11 = (.tuple #[(.slice x232_0A x232_0N x232_0C), (.slice x232_1A x232_1N x232_1C), (.int .i64 x232_2)]) ∧
  Calls Try.prog 12 #[(.pointer x53_0), (.slice none 0 0), (.slice none 0 0)] w34 (Ret fun v_12 w35 => ∃ (x238_0A : Option Addr), ∃ (x238_0N : Nat), ∃ (x238_0C : Nat), ∃ (x238_1A : Option Addr), ∃ (x238_1N : Nat), ∃ (x238_1C : Nat), ∃ (x238_2 : Int), v_12 = (.tuple #[(.slice x238_0A x238_0N x238_0C), (.slice x238_1A x238_1N x238_1C), (.int .i64 x238_2)]) ∧
  ((x232_2 == (2 : Int)) = true →
  R (.bool (x238_2 == (1 : Int))) w35) ∧
  ((x232_2 == (2 : Int)) = false →
  R (.bool false) w35)))))))))))))))))))))))
theorem coadjutorlaw17_StepRuns.vc_eq (c0 : Int) (c1 : Int) (c2 : Int) (c3 : Int) (c4 : Int) (c5 : Int) (weights : ByteArray) (tokensA : Option Addr) (tokensN : Nat) (tokensC : Nat) (split : Int) (w : World) (R : Value → World → Prop) : fnV Try.prog Try.f3 (.c .nil (.at_ 3 3 (.k .nil) (.at_ 3 8 (.k .nil) (.c .nil (.c .nil (.c (.cut 0 [(14, some (.bool)), (67, none), (68, none), (69, none), (70, none), (71, none), (72, none), (73, none), (74, none), (75, none), (76, none)] (.at_ 10 3 .nil .nil) (.lp [(14, some (.bool)), (15, some (.int .i64)), (77, none), (78, none), (79, none), (80, none), (81, none), (82, none), (83, none), (84, none), (85, none), (86, none), (87, none), (88, none), (89, none), (90, none), (91, none), (92, none), (93, none), (94, none), (95, none), (96, none), (97, none), (98, none), (99, none)] (.c (.tk 0 (.tks 1 (.tk 2 (.tk 3 (.tk 4 (.tk 5 (.tk 6 (.tk 7 (.tk 8 (.tk 9 (.tk 10 (.tk 11 (.tk 12 (.tk 13 (.tk 14 (.tk 15 (.tk 16 (.tk 17 (.fin .nil))))))))))))))))) (.tk 2 (.tk 3 (.tk 4 (.tk 5 (.tk 6 (.tk 7 (.tks 8 (.tk 9 (.tk 10 (.tk 11 (.tk 12 (.tk 13 (.tk 14 (.tk 15 (.tk 16 (.tk 17 (.fin .nil)))))))))) (.tk 9 (.tk 10 (.tk 11 (.tk 12 (.tk 13 (.tk 14 (.tk 15 (.tk 16 (.tk 17 (.fin .nil))))))))))))))))))) (.at_ 15 1 (.at_ 15 6 .nil .nil) .nil)))) (.lp [(8, none), (16, some (.slice)), (17, some (.int .i64)), (18, none), (19, none), (20, none), (112, none), (113, none), (114, none), (115, none), (116, none), (117, none), (118, none), (119, none), (120, none), (121, none), (122, none), (123, none), (124, none), (125, none), (126, none), (127, none), (128, none), (129, none), (130, none), (131, none), (132, none), (133, none), (134, none), (135, none), (136, none), (137, none), (138, none), (139, none), (140, none), (141, none), (142, none), (143, none), (144, none), (145, none), (146, none), (147, none), (148, none), (149, none), (150, none), (151, none), (152, none), (153, none), (154, none), (155, none), (156, none)] (.c (.cut 2 [(8, none), (129, none), (130, none), (131, none), (132, none), (133, none), (134, none), (135, none), (136, none), (137, none), (138, none), (139, none), (140, none), (141, none), (142, none), (143, none), (144, none), (145, none), (146, none), (147, none), (148, none), (149, none), (150, none), (151, none), (152, none)] (.tk 0 (.tk 1 (.tks 2 (.tk 3 (.tk 4 (.tk 5 (.tk 6 (.tk 7 (.tk 8 (.tk 9 (.tk 10 (.tk 11 (.tk 12 (.tk 13 (.tk 14 (.tk 15 (.tk 16 (.tk 17 (.tk 18 (.tk 19 (.tk 20 (.tk 21 (.tk 22 (.tk 23 (.fin (.k .nil))))))))))))))))))))))) (.tk 3 (.tk 4 (.tk 5 (.tk 6 (.tk 7 (.alt 8 (.tk 9 (.tk 10 (.tks 11 (.tk 12 (.tk 13 (.tk 14 (.tk 15 (.tk 16 (.tk 17 (.tk 18 (.tk 19 (.tk 20 (.tk 21 (.tk 22 (.tk 23 (.fin (.k .nil)))))))))))))) (.tk 12 (.tk 13 (.tk 14 (.tk 15 (.tk 16 (.tks 17 (.tk 18 (.tk 19 (.alt 20 (.tk 21 (.tk 22 (.tk 23 (.fin (.c .nil .nil))))) .nil))) (.tk 18 (.tk 19 (.tk 20 (.tk 21 (.tk 22 (.tk 23 (.fin (.k .nil))))))))))))))))) .nil))))))))) .nil) (.c .nil (.at_ 29 2 (.k .nil) (.at_ 29 6 (.k .nil) (.at_ 29 12 (.k .nil) (.c .nil (.lp [(8, none), (28, some (.int .i64)), (212, none), (213, none), (214, none), (215, none), (216, none), (217, none), (218, none), (219, none), (220, none), (221, none), (222, none), (223, none), (224, none), (225, none), (226, none), (227, none), (228, none), (229, none)] (.c (.tk 0 (.tk 1 (.tk 2 (.tk 3 (.tk 4 (.tk 5 (.tk 6 (.tk 7 (.tk 8 (.tk 9 (.alt 10 (.tk 11 (.fin (.c .nil .nil))) .nil))))))))))) (.at_ 38 2 .nil .nil)))))))))))))))) [(.agg #[(.int .i64 c0), (.int .i64 c1), (.int .i64 c2), (.int .i64 c3), (.int .i64 c4), (.int .i64 c5)]), (.string weights), (.slice tokensA tokensN tokensC), (.int .i64 split)] w R = coadjutorlaw17_StepRuns.vc c0 c1 c2 c3 c4 c5 weights tokensA tokensN tokensC split w R := by kernel_rfl
theorem coadjutorlaw17_StepRuns.calls (c0 : Int) (c1 : Int) (c2 : Int) (c3 : Int) (c4 : Int) (c5 : Int) (weights : ByteArray) (tokensA : Option Addr) (tokensN : Nat) (tokensC : Nat) (split : Int) {w : World} {R : Value → World → Prop} (h : coadjutorlaw17_StepRuns.vc c0 c1 c2 c3 c4 c5 weights tokensA tokensN tokensC split w R) : Calls Try.prog 3 #[(.agg #[(.int .i64 c0), (.int .i64 c1), (.int .i64 c2), (.int .i64 c3), (.int .i64 c4), (.int .i64 c5)]), (.string weights), (.slice tokensA tokensN tokensC), (.int .i64 split)] w (Ret R) :=
  calls_V fit Try.func3 (.c .nil (.at_ 3 3 (.k .nil) (.at_ 3 8 (.k .nil) (.c .nil (.c .nil (.c (.cut 0 [(14, some (.bool)), (67, none), (68, none), (69, none), (70, none), (71, none), (72, none), (73, none), (74, none), (75, none), (76, none)] (.at_ 10 3 .nil .nil) (.lp [(14, some (.bool)), (15, some (.int .i64)), (77, none), (78, none), (79, none), (80, none), (81, none), (82, none), (83, none), (84, none), (85, none), (86, none), (87, none), (88, none), (89, none), (90, none), (91, none), (92, none), (93, none), (94, none), (95, none), (96, none), (97, none), (98, none), (99, none)] (.c (.tk 0 (.tks 1 (.tk 2 (.tk 3 (.tk 4 (.tk 5 (.tk 6 (.tk 7 (.tk 8 (.tk 9 (.tk 10 (.tk 11 (.tk 12 (.tk 13 (.tk 14 (.tk 15 (.tk 16 (.tk 17 (.fin .nil))))))))))))))))) (.tk 2 (.tk 3 (.tk 4 (.tk 5 (.tk 6 (.tk 7 (.tks 8 (.tk 9 (.tk 10 (.tk 11 (.tk 12 (.tk 13 (.tk 14 (.tk 15 (.tk 16 (.tk 17 (.fin .nil)))))))))) (.tk 9 (.tk 10 (.tk 11 (.tk 12 (.tk 13 (.tk 14 (.tk 15 (.tk 16 (.tk 17 (.fin .nil))))))))))))))))))) (.at_ 15 1 (.at_ 15 6 .nil .nil) .nil)))) (.lp [(8, none), (16, some (.slice)), (17, some (.int .i64)), (18, none), (19, none), (20, none), (112, none), (113, none), (114, none), (115, none), (116, none), (117, none), (118, none), (119, none), (120, none), (121, none), (122, none), (123, none), (124, none), (125, none), (126, none), (127, none), (128, none), (129, none), (130, none), (131, none), (132, none), (133, none), (134, none), (135, none), (136, none), (137, none), (138, none), (139, none), (140, none), (141, none), (142, none), (143, none), (144, none), (145, none), (146, none), (147, none), (148, none), (149, none), (150, none), (151, none), (152, none), (153, none), (154, none), (155, none), (156, none)] (.c (.cut 2 [(8, none), (129, none), (130, none), (131, none), (132, none), (133, none), (134, none), (135, none), (136, none), (137, none), (138, none), (139, none), (140, none), (141, none), (142, none), (143, none), (144, none), (145, none), (146, none), (147, none), (148, none), (149, none), (150, none), (151, none), (152, none)] (.tk 0 (.tk 1 (.tks 2 (.tk 3 (.tk 4 (.tk 5 (.tk 6 (.tk 7 (.tk 8 (.tk 9 (.tk 10 (.tk 11 (.tk 12 (.tk 13 (.tk 14 (.tk 15 (.tk 16 (.tk 17 (.tk 18 (.tk 19 (.tk 20 (.tk 21 (.tk 22 (.tk 23 (.fin (.k .nil))))))))))))))))))))))) (.tk 3 (.tk 4 (.tk 5 (.tk 6 (.tk 7 (.alt 8 (.tk 9 (.tk 10 (.tks 11 (.tk 12 (.tk 13 (.tk 14 (.tk 15 (.tk 16 (.tk 17 (.tk 18 (.tk 19 (.tk 20 (.tk 21 (.tk 22 (.tk 23 (.fin (.k .nil)))))))))))))) (.tk 12 (.tk 13 (.tk 14 (.tk 15 (.tk 16 (.tks 17 (.tk 18 (.tk 19 (.alt 20 (.tk 21 (.tk 22 (.tk 23 (.fin (.c .nil .nil))))) .nil))) (.tk 18 (.tk 19 (.tk 20 (.tk 21 (.tk 22 (.tk 23 (.fin (.k .nil))))))))))))))))) .nil))))))))) .nil) (.c .nil (.at_ 29 2 (.k .nil) (.at_ 29 6 (.k .nil) (.at_ 29 12 (.k .nil) (.c .nil (.lp [(8, none), (28, some (.int .i64)), (212, none), (213, none), (214, none), (215, none), (216, none), (217, none), (218, none), (219, none), (220, none), (221, none), (222, none), (223, none), (224, none), (225, none), (226, none), (227, none), (228, none), (229, none)] (.c (.tk 0 (.tk 1 (.tk 2 (.tk 3 (.tk 4 (.tk 5 (.tk 6 (.tk 7 (.tk 8 (.tk 9 (.alt 10 (.tk 11 (.fin (.c .nil .nil))) .nil))))))))))) (.at_ 38 2 .nil .nil)))))))))))))))) (by rw [show (#[(.agg #[(.int .i64 c0), (.int .i64 c1), (.int .i64 c2), (.int .i64 c3), (.int .i64 c4), (.int .i64 c5)]), (.string weights), (.slice tokensA tokensN tokensC), (.int .i64 split)] : Array Value).toList = [(.agg #[(.int .i64 c0), (.int .i64 c1), (.int .i64 c2), (.int .i64 c3), (.int .i64 c4), (.int .i64 c5)]), (.string weights), (.slice tokensA tokensN tokensC), (.int .i64 split)] from rfl, coadjutorlaw17_StepRuns.vc_eq]; exact h)
end Go.Proofs.Ytfhnegfoglngoaa.Vc
