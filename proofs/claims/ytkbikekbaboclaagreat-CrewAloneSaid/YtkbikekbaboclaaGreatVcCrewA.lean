import Derived.Test.YtkbikekbaboclaaGreatVc
import Derived.Test.YtkbikekbaboclaaGreatH
import Derived.Test.YtkbikekbaboclaaGreatProg
import Derived.KernelRfl
set_option linter.unusedVariables false
set_option maxRecDepth 100000
namespace Go.Proofs.YtkbikekbaboclaaGreat.Vc
open Go Go.Proofs Go.Proofs.YtkbikekbaboclaaGreat.V
/-- function 4 -/
def coadjutorlaw25_CrewAlone.vc (weights : ByteArray) (a0 : Int) (a1 : Int) (a2A : Option Addr) (a2N : Nat) (a2C : Nat) (a3 : Int) (a4A : Option Addr) (a4N : Nat) (a4C : Nat) (w : World) (R : Value → World → Prop) : Prop :=
  ∀ w1 : World, w1 = w.alloc (.cells #[(.int .i64 a0), (.int .i64 a1), (.slice a2A a2N a2C), (.int .i64 a3), (.slice a4A a4N a4C)] 37 (0, 0)) →
  Calls Tryz.prog 7 #[] w1 (Ret fun v w2 => ∃ x14 : Bool, v = (.bool x14) ∧
  ((!x14) = true →
  R (.bool false) w2) ∧
  ((!x14) = false →
  ∃ (x17A : Option Addr) (x17N x17C : Nat), w2.cell? ⟨w.heap.size, 2, none⟩ = some (.slice x17A x17N x17C) ∧
  (decide ((x17N : Int) > (40 : Int)) = true →
  R (.bool true) w2) ∧
  (decide ((x17N : Int) > (40 : Int)) = false →
  ∃ (x22A : Option Addr) (x22N x22C : Nat), w2.cell? ⟨w.heap.size, 4, none⟩ = some (.slice x22A x22N x22C) ∧
  (decide ((x22N : Int) > (32 : Int)) = true →
  R (.bool true) w2) ∧
  (decide ((x22N : Int) > (32 : Int)) = false →
  Calls Tryz.prog 8 #[(.string weights)] w2 (Ret fun v_1 w3 => ∃ (x28_00 x28_01 : Option Addr) (x28_10 x28_11 x28_12 x28_13 x28_14 x28_15 : Int) (x28_16 : ByteArray) (x28_17 x28_18 x28_19 x28_110 x28_111 x28_112 : Int) (x28_113 : ByteArray), v_1 = (.tuple #[(.agg #[(.pointer x28_00), (.pointer x28_01)]), (.agg #[(.int .i64 x28_10), (.int .i64 x28_11), (.int .i64 x28_12), (.int .i64 x28_13), (.int .i64 x28_14), (.int .i64 x28_15), (.string x28_16), (.int .i64 x28_17), (.int .i64 x28_18), (.int .i64 x28_19), (.int .i64 x28_110), (.int .i64 x28_111), (.int .i64 x28_112), (.string x28_113)])]) ∧
  ∀ w4 : World, w4 = w3.alloc (.cells #[(.pointer none), (.pointer none)] 25 (0, 0)) →
  ∀ w5 : World, w5 = w4.alloc (.cells #[(.int .i64 0), (.int .i64 0), (.int .i64 0), (.int .i64 0), (.int .i64 0), (.int .i64 0), (.string ByteArray.empty), (.int .i64 0), (.int .i64 0), (.int .i64 0), (.int .i64 0), (.int .i64 0), (.int .i64 0), (.string ByteArray.empty)] 30 (0, 0)) →
  (Okc w5 ⟨w3.heap.size, 0, none⟩ ∧ Okc w5 ⟨w3.heap.size, 1, none⟩) ∧ ∀ w6 : World, w6 = ((w5.setCell ⟨w3.heap.size, 0, none⟩ (.pointer x28_00)).setCell ⟨w3.heap.size, 1, none⟩ (.pointer x28_01)) →
  (Okc w6 ⟨w4.heap.size, 0, none⟩ ∧ Okc w6 ⟨w4.heap.size, 1, none⟩ ∧ Okc w6 ⟨w4.heap.size, 2, none⟩ ∧ Okc w6 ⟨w4.heap.size, 3, none⟩ ∧ Okc w6 ⟨w4.heap.size, 4, none⟩ ∧ Okc w6 ⟨w4.heap.size, 5, none⟩ ∧ Okc w6 ⟨w4.heap.size, 6, none⟩ ∧ Okc w6 ⟨w4.heap.size, 7, none⟩ ∧ Okc w6 ⟨w4.heap.size, 8, none⟩ ∧ Okc w6 ⟨w4.heap.size, 9, none⟩ ∧ Okc w6 ⟨w4.heap.size, 10, none⟩ ∧ Okc w6 ⟨w4.heap.size, 11, none⟩ ∧ Okc w6 ⟨w4.heap.size, 12, none⟩ ∧ Okc w6 ⟨w4.heap.size, 13, none⟩) ∧ ∀ w7 : World, w7 = ((((((((((((((w6.setCell ⟨w4.heap.size, 0, none⟩ (.int .i64 x28_10)).setCell ⟨w4.heap.size, 1, none⟩ (.int .i64 x28_11)).setCell ⟨w4.heap.size, 2, none⟩ (.int .i64 x28_12)).setCell ⟨w4.heap.size, 3, none⟩ (.int .i64 x28_13)).setCell ⟨w4.heap.size, 4, none⟩ (.int .i64 x28_14)).setCell ⟨w4.heap.size, 5, none⟩ (.int .i64 x28_15)).setCell ⟨w4.heap.size, 6, none⟩ (.string x28_16)).setCell ⟨w4.heap.size, 7, none⟩ (.int .i64 x28_17)).setCell ⟨w4.heap.size, 8, none⟩ (.int .i64 x28_18)).setCell ⟨w4.heap.size, 9, none⟩ (.int .i64 x28_19)).setCell ⟨w4.heap.size, 10, none⟩ (.int .i64 x28_110)).setCell ⟨w4.heap.size, 11, none⟩ (.int .i64 x28_111)).setCell ⟨w4.heap.size, 12, none⟩ (.int .i64 x28_112)).setCell ⟨w4.heap.size, 13, none⟩ (.string x28_113)) →
  (Okc w7 ⟨w.heap.size, 0, none⟩) ∧ ∀ w8 : World, w8 = (w7.setCell ⟨w.heap.size, 0, none⟩ (.int .i64 7)) →
  (Okc w8 ⟨w.heap.size, 1, none⟩) ∧ ∀ w9 : World, w9 = (w8.setCell ⟨w.heap.size, 1, none⟩ (.int .i64 1)) →
  (0 ≤ (1 : Int) ∧ (1 : Int) < (2 : Int)) ∧
  ∃ x35 : Option Addr, w9.cell? ⟨w3.heap.size, 1, none⟩ = some (.pointer x35) ∧
  ∃ (x37A : Option Addr) (x37N x37C : Nat), w9.cell? ⟨w.heap.size, 2, none⟩ = some (.slice x37A x37N x37C) ∧
  ∃ x39 : Int, w9.cell? ⟨w.heap.size, 3, none⟩ = some (.int .i64 x39) ∧
  ∃ (x41A : Option Addr) (x41N x41C : Nat), w9.cell? ⟨w.heap.size, 4, none⟩ = some (.slice x41A x41N x41C) ∧
  Calls Tryz.prog 17 #[(.pointer x35), (.slice x37A x37N x37C), (.int .i64 x39), (.slice x41A x41N x41C)] w9 (Ret fun v_2 w10 => ∃ (x42_0A : Option Addr) (x42_0N x42_0C : Nat) (x42_1 : Int), v_2 = (.tuple #[(.slice x42_0A x42_0N x42_0C), (.int .i64 x42_1)]) ∧
  ((x42_1 != (0 : Int)) = true →
  R (.bool true) w10) ∧
  ((x42_1 != (0 : Int)) = false →
  Calls Tryz.prog 9 #[(.int .i64 16)] w10 (Ret fun v_3 w11 => ∃ x47 : Option Addr, v_3 = (.pointer x47) ∧
  (0 ≤ (1 : Int) ∧ (1 : Int) < (2 : Int)) ∧
  ∃ x50 : Option Addr, w11.cell? ⟨w3.heap.size, 1, none⟩ = some (.pointer x50) ∧
  ∃ (x510 x511 : Int) (x512A : Option Addr) (x512N x512C : Nat) (x513 : Int) (x514A : Option Addr) (x514N x514C : Nat), (w11.cell? ⟨w.heap.size, 0, none⟩ = some (.int .i64 x510) ∧ w11.cell? ⟨w.heap.size, 1, none⟩ = some (.int .i64 x511) ∧ w11.cell? ⟨w.heap.size, 2, none⟩ = some (.slice x512A x512N x512C) ∧ w11.cell? ⟨w.heap.size, 3, none⟩ = some (.int .i64 x513) ∧ w11.cell? ⟨w.heap.size, 4, none⟩ = some (.slice x514A x514N x514C)) ∧
  Calls Tryz.prog 10 #[(.pointer x47), (.pointer x50), (.agg #[(.int .i64 x510), (.int .i64 x511), (.slice x512A x512N x512C), (.int .i64 x513), (.slice x514A x514N x514C)])] w11 (Ret fun v_4 w12 => ∃ x52 : Int, v_4 = (.int .i64 x52) ∧
  ((x52 != (0 : Int)) = true →
  R (.bool false) w12) ∧
  ((x52 != (0 : Int)) = false →
  ∃ vI : Int → Nat → World → Prop, (∃ vk_2 : Nat, vI 0 vk_2 w12) ∧
  ∀ (jk : Nat → Value) (i : Int), ∀ (vk : Nat) (w13 : World), vI i vk w13 →
  ∃ (x56A : Option Addr) (x56N x56C : Nat), w13.cell? ⟨w.heap.size, 2, none⟩ = some (.slice x56A x56N x56C) ∧
  ∃ x59 : Int, w13.cell? ⟨w.heap.size, 3, none⟩ = some (.int .i64 x59) ∧
  (decide (i < (IntKind.i64.wrap ((IntKind.i64.wrap ((x56N : Int) + x59)) - 1))) = true →
  Calls Tryz.prog 18 #[(.pointer x47), (.int .i64 7)] w13 (Ret fun v_5 w14 => ∃ (x66A : Option Addr) (x66N x66C : Nat), v_5 = (.slice x66A x66N x66C) ∧
  (decide ((x66N : Int) > (x42_0N : Int)) = true →
  R (.bool false) w14) ∧
  (decide ((x66N : Int) > (x42_0N : Int)) = false →
  (0 ≤ (x66N : Int) ∧ (x66N : Int) ≤ (x42_0C : Int)) ∧
  Calls Tryz.prog 19 #[(.slice x66A x66N x66C), (.slice (if x42_0C = 0 then x42_0A else x42_0A.map (·.add (0 * 1))) ((x66N : Int).toNat - 0) (x42_0C - 0))] w14 (Ret fun v_6 w15 => ∃ x78 : Bool, v_6 = (.bool x78) ∧
  ((!x78) = true →
  R (.bool false) w15) ∧
  ((!x78) = false →
  ∃ (x86A : Option Addr) (x86N x86C : Nat), w15.cell? ⟨w.heap.size, 2, none⟩ = some (.slice x86A x86N x86C) ∧
  (((x66N : Int) != (if (0 : Int) > (IntKind.i64.wrap ((IntKind.i64.wrap (i - (x86N : Int))) + 1)) then (0 : Int) else (IntKind.i64.wrap ((IntKind.i64.wrap (i - (x86N : Int))) + 1)))) = true →
  R (.bool false) w15) ∧
  (((x66N : Int) != (if (0 : Int) > (IntKind.i64.wrap ((IntKind.i64.wrap (i - (x86N : Int))) + 1)) then (0 : Int) else (IntKind.i64.wrap ((IntKind.i64.wrap (i - (x86N : Int))) + 1)))) = false →
  Calls Tryz.prog 11 #[(.pointer x47), (.int .i64 i)] w15 (Ret fun v_7 w16 => ∃ (x96_00 : Int) (x96_01 x96_02 : Bool) (x96_03A : Option Addr) (x96_03N x96_03C : Nat) (x96_04A : Option Addr) (x96_04N x96_04C : Nat) (x96_1 : Int), v_7 = (.tuple #[(.agg #[(.int .i64 x96_00), (.bool x96_01), (.bool x96_02), (.slice x96_03A x96_03N x96_03C), (.slice x96_04A x96_04N x96_04C)]), (.int .i64 x96_1)]) ∧
  ∀ w17 : World, w17 = w16.alloc (.cells #[(.int .i64 0), (.bool false), (.bool false), (.slice none 0 0), (.slice none 0 0)] 45 (0, 0)) →
  (Okc w17 ⟨w16.heap.size, 0, none⟩ ∧ Okc w17 ⟨w16.heap.size, 1, none⟩ ∧ Okc w17 ⟨w16.heap.size, 2, none⟩ ∧ Okc w17 ⟨w16.heap.size, 3, none⟩ ∧ Okc w17 ⟨w16.heap.size, 4, none⟩) ∧ ∀ w18 : World, w18 = (((((w17.setCell ⟨w16.heap.size, 0, none⟩ (.int .i64 x96_00)).setCell ⟨w16.heap.size, 1, none⟩ (.bool x96_01)).setCell ⟨w16.heap.size, 2, none⟩ (.bool x96_02)).setCell ⟨w16.heap.size, 3, none⟩ (.slice x96_03A x96_03N x96_03C)).setCell ⟨w16.heap.size, 4, none⟩ (.slice x96_04A x96_04N x96_04C)) →
  ((x96_1 != (0 : Int)) = true →
  R (.bool false) w18) ∧
  ((x96_1 != (0 : Int)) = false →
  ∃ x103 : Int, w18.cell? ⟨w16.heap.size, 0, none⟩ = some (.int .i64 x103) ∧
  ((x103 != (7 : Int)) = true →
  R (.bool false) w18) ∧
  ((x103 != (7 : Int)) = false →
  ∃ x108 : Bool, w18.cell? ⟨w16.heap.size, 2, none⟩ = some (.bool x108) ∧
  (x108 = true →
  R (.bool false) w18) ∧
  (x108 = false →
  ∃ (x112A : Option Addr) (x112N x112C : Nat), w18.cell? ⟨w16.heap.size, 4, none⟩ = some (.slice x112A x112N x112C) ∧
  (((x112N : Int) != (0 : Int)) = true →
  R (.bool false) w18) ∧
  (((x112N : Int) != (0 : Int)) = false →
  ∃ x117 : Bool, w18.cell? ⟨w16.heap.size, 1, none⟩ = some (.bool x117) ∧
  (x117 = true →
  ∃ (x119A : Option Addr) (x119N x119C : Nat), w18.cell? ⟨w16.heap.size, 3, none⟩ = some (.slice x119A x119N x119C) ∧
  Calls Tryz.prog 19 #[(.slice x119A x119N x119C), (.slice x42_0A x42_0N x42_0C)] w18 (Ret fun v_8 w19 => ∃ x121 : Bool, v_8 = (.bool x121) ∧
  (x121 = true →
  Calls Tryz.prog 14 #[(.pointer x47)] w19 (Ret fun v_9 w20 => ∃ (x124A : Option Addr) (x124N x124C : Nat), v_9 = (.slice x124A x124N x124C) ∧
  R (.bool ((x124N : Int) == (0 : Int))) w20)) ∧
  (x121 = false →
  R (.bool false) w19))) ∧
  (x117 = false →
  ∃ vk_1 : Nat, vk_1 < vk ∧ vI (IntKind.i64.wrap (i + 1)) vk_1 w18)))))))))))) ∧
  (decide (i < (IntKind.i64.wrap ((IntKind.i64.wrap ((x56N : Int) + x59)) - 1))) = false →
  R (.bool false) w13)))))))))))
theorem coadjutorlaw25_CrewAlone.calls (weights : ByteArray) (a0 : Int) (a1 : Int) (a2A : Option Addr) (a2N : Nat) (a2C : Nat) (a3 : Int) (a4A : Option Addr) (a4N : Nat) (a4C : Nat) {w : World} {R : Value → World → Prop} (h : coadjutorlaw25_CrewAlone.vc weights a0 a1 a2A a2N a2C a3 a4A a4N a4C w R) : Calls Tryz.prog 4 #[(.string weights), (.agg #[(.int .i64 a0), (.int .i64 a1), (.slice a2A a2N a2C), (.int .i64 a3), (.slice a4A a4N a4C)])] w (Ret R) :=
  calls_V fit Tryz.func4 (.c .nil (.at_ 3 4 (.k .nil) (.c .nil (.c .nil (.c .nil (.lp ([(4, none), (10, some (.int .i64))] ++ nn 11 3 ++ nn 54 74) (.c (.at_ 18 5 (.k .nil) (.at_ 18 14 (.k .nil) (.c .nil (.at_ 21 2 (.k .nil) (.at_ 21 7 (.k .nil) (.at_ 21 11 (.k .nil) (.c .nil (.c (.at_ 24 4 .nil .nil) .nil)))))))) .nil))))))) (Eq.mpr (by kernel_rfl) h)
end Go.Proofs.YtkbikekbaboclaaGreat.Vc
