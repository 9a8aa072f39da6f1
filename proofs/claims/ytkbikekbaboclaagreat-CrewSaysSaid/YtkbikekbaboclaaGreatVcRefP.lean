import Derived.Test.YtkbikekbaboclaaGreatVc
import Derived.Test.YtkbikekbaboclaaGreatH
import Derived.Test.YtkbikekbaboclaaGreatProg
import Derived.KernelRfl
set_option linter.unusedVariables false
set_option maxRecDepth 100000
namespace Go.Proofs.YtkbikekbaboclaaGreat.Vc
open Go Go.Proofs V
def coadjutorref22_New.vc (n : Int) (w : World) (R : Value → World → Prop) : Prop :=
 (n = n ∧ 0 ≤ n ∧ n * (40 : Int) ≤ 140737488355328) ∧ ∀ w1 : World, w1 = w.alloc (.cells (zeroRow [(.int .i64 0), (.int .i64 0), (.slice none 0 0)] n.toNat).toArray 138 (0, 0)) →
 ∀ w2 : World, w2 = w1.alloc (.cells #[(.slice (some ⟨w.heap.size, 0, none⟩) n.toNat n.toNat)] 135 (0, 0)) →
 R (.pointer (some ⟨w1.heap.size, 0, none⟩)) w2
def coadjutorref22_Pool_Use.vc (pB : Nat) (listA : Option Addr) (listN : Nat) (listC : Nat) (vby : Int) (w : World) (R : Value → World → Prop) : Prop :=
 ∀ w1 : World, w1 = w.alloc (.cells #[] 138 (0, 0)) →
 ∃ (x14A : Option Addr) (x14N x14C : Nat), w1.cell? ⟨pB, 0, none⟩ = some (.slice x14A x14N x14C) ∧
 ∃ (x15A : Option Addr) (x15N x15C : Nat), ∃ w2 : World, (Builtin.append_ #[133, 133] 133 #[(.slice (some ⟨w.heap.size, 0, none⟩) 0 0), (.slice x14A x14N x14C)]).run Tryz.prog w1 = .ok (.slice x15A x15N x15C) w2 ∧
 ∃ vI : Int → Nat → World → Prop, (∃ vk_2 : Nat, vI 0 vk_2 w2) ∧
 ∀ (jk : Nat → Value) (i : Int), ∀ (vk : Nat) (w3 : World), vI i vk w3 →
 (decide (i < (listN : Int)) = true →
 (0 ≤ i ∧ i < (listN : Int)) ∧ someV listA fun p =>
 ∃ x26 : Int, w3.cell? (p.add (i.toNat * 1)) = some (.int .i64 x26) ∧
 Calls Tryz.prog 92 #[(.pointer (some ⟨pB, 0, none⟩)), (.int .i64 x26)] w3 (Ret fun v w4 => ∃ x27 : Bool, v = (.bool x27) ∧
 ((!x27) = true →
 R (.int .i64 8) w4) ∧
 ((!x27) = false →
 (0 ≤ i ∧ i < (listN : Int)) ∧ someV listA fun p_1 =>
 ∃ x34 : Int, w4.cell? (p_1.add (i.toNat * 1)) = some (.int .i64 x34) ∧
 (0 ≤ x34 ∧ x34 < (x15N : Int)) ∧ someV x15A fun p_2 =>
 ∃ x37 : Int, w4.cell? ((p_2.add (x34.toNat * 3)).add 1) = some (.int .i64 x37) ∧
 (decide ((IntKind.i64.wrap (x37 + vby)) < (0 : Int)) = true →
 R (.int .i64 8) w4) ∧
 (decide ((IntKind.i64.wrap (x37 + vby)) < (0 : Int)) = false →
 ∃ vS : World → Prop, ∀ w5 : World, w5 = w4.drew → vS w5 ∧
 (0 ≤ i ∧ i < (listN : Int)) ∧ someV listA fun p_3 =>
 ∃ x46 : Int, (∀ w6, vS w6 → w6.cell? (p_3.add (i.toNat * 1)) = some (.int .i64 x46)) ∧
 (0 ≤ i ∧ i < (listN : Int)) ∧ someV listA fun p_4 =>
 ∃ x51 : Int, (∀ w7, vS w7 → w7.cell? (p_4.add (i.toNat * 1)) = some (.int .i64 x51)) ∧
 (0 ≤ x51 ∧ x51 < (x15N : Int)) ∧ someV x15A fun p_5 =>
 ∃ x54 : Int, (∀ w8, vS w8 → w8.cell? ((p_5.add (x51.toNat * 3)).add 1) = some (.int .i64 x54)) ∧
 (0 ≤ x46 ∧ x46 < (x15N : Int)) ∧ someV x15A fun p_6 =>
 (Okc w5 ((p_6.add (x46.toNat * 3)).add 1)) ∧ ∀ w9 : World, w9 = (w5.setCell ((p_6.add (x46.toNat * 3)).add 1) (.int .i64 (IntKind.i64.wrap (x54 + vby)))) →
 ∃ vk_1 : Nat, vk_1 < vk ∧ vI (IntKind.i64.wrap (i + 1)) vk_1 w9)))) ∧
 (decide (i < (listN : Int)) = false →
 ∃ vI_1 : Int → Nat → World → Prop, (∃ vk_5 : Nat, vI_1 0 vk_5 w3) ∧
 ∀ (jk : Nat → Value) (i_1 : Int), ∀ (vk_3 : Nat) (w10 : World), vI_1 i_1 vk_3 w10 →
 (decide (i_1 < (x15N : Int)) = true →
 (0 ≤ i_1 ∧ i_1 < (x15N : Int)) ∧ someV x15A fun p_7 =>
 ∃ x69 : Int, w10.cell? ((p_7.add (i_1.toNat * 3)).add 1) = some (.int .i64 x69) ∧
 ((x69 == (0 : Int)) = true →
 (0 ≤ i_1 ∧ i_1 < (x15N : Int)) ∧ someV x15A fun p_8 =>
 (Okc w10 (p_8.add (i_1.toNat * 3)) ∧ Okc w10 ((p_8.add (i_1.toNat * 3)).add 1) ∧ Okc w10 ((p_8.add (i_1.toNat * 3)).add 2)) ∧ ∀ w11 : World, w11 = (((w10.setCell (p_8.add (i_1.toNat * 3)) (.int .i64 0)).setCell ((p_8.add (i_1.toNat * 3)).add 1) (.int .i64 0)).setCell ((p_8.add (i_1.toNat * 3)).add 2) (.slice none 0 0)) →
 ∃ vk_4 : Nat, vk_4 < vk_3 ∧ vI_1 (IntKind.i64.wrap (i_1 + 1)) vk_4 w11) ∧
 ((x69 == (0 : Int)) = false →
 ∃ vk_4 : Nat, vk_4 < vk_3 ∧ vI_1 (IntKind.i64.wrap (i_1 + 1)) vk_4 w10)) ∧
 (decide (i_1 < (x15N : Int)) = false →
 (Okc w10 ⟨pB, 0, none⟩) ∧ ∀ w12 : World, w12 = (w10.setCell ⟨pB, 0, none⟩ (.slice x15A x15N x15C)) →
 R (.int .i64 0) w12))
def coadjutorref22_Pool_Put.vc (pB : Nat) (id : Int) (e0A : Option Addr) (e0N : Nat) (e0C : Nat) (e1A : Option Addr) (e1N : Nat) (e1C : Nat) (w : World) (R : Value → World → Prop) : Prop :=
 ∀ w1 : World, w1 = w.alloc (.cells #[(.slice e0A e0N e0C), (.slice e1A e1N e1C)] 122 (0, 0)) →
 Calls Tryz.prog 92 #[(.pointer (some ⟨pB, 0, none⟩)), (.int .i64 id)] w1 (Ret fun v w2 => ∃ x9 : Bool, v = (.bool x9) ∧
 ((!x9) = true →
 R (.int .i64 8) w2) ∧
 ((!x9) = false →
 ∃ (x14A : Option Addr) (x14N x14C : Nat), w2.cell? ⟨pB, 0, none⟩ = some (.slice x14A x14N x14C) ∧
 (0 ≤ id ∧ id < (x14N : Int)) ∧ someV x14A fun p =>
 ∃ x18 : Int, w2.cell? ((p.add (id.toNat * 3)).add 1) = some (.int .i64 x18) ∧
 (decide (x18 > (1 : Int)) = true →
 R (.int .i64 7) w2) ∧
 (decide (x18 > (1 : Int)) = false →
 ∃ (x23A : Option Addr) (x23N x23C : Nat), w2.cell? ⟨pB, 0, none⟩ = some (.slice x23A x23N x23C) ∧
 (0 ≤ id ∧ id < (x23N : Int)) ∧ someV x23A fun p_1 =>
 ∃ (x27A : Option Addr) (x27N x27C : Nat), w2.cell? ((p_1.add (id.toNat * 3)).add 2) = some (.slice x27A x27N x27C) ∧
 (decide ((x27N : Int) ≥ (4 : Int)) = true →
 R (.int .i64 10) w2) ∧
 (decide ((x27N : Int) ≥ (4 : Int)) = false →
 ∃ vS : World → Prop, ∀ w3 : World, w3 = w2.drew → vS w3 ∧
 ∃ (x33A : Option Addr) (x33N x33C : Nat), (∀ w4, vS w4 → w4.cell? ⟨pB, 0, none⟩ = some (.slice x33A x33N x33C)) ∧
 ∃ (x39A : Option Addr) (x39N x39C : Nat), (∀ w5, vS w5 → w5.cell? ⟨pB, 0, none⟩ = some (.slice x39A x39N x39C)) ∧
 (0 ≤ id ∧ id < (x39N : Int)) ∧ someV x39A fun p_2 =>
 ∃ (x43A : Option Addr) (x43N x43C : Nat), (∀ w6, vS w6 → w6.cell? ((p_2.add (id.toNat * 3)).add 2) = some (.slice x43A x43N x43C)) ∧
 ∃ (x450A : Option Addr) (x450N x450C : Nat) (x451A : Option Addr) (x451N x451C : Nat), ((∀ w7, vS w7 → w7.cell? ⟨w.heap.size, 0, none⟩ = some (.slice x450A x450N x450C)) ∧ (∀ w7, vS w7 → w7.cell? ⟨w.heap.size, 1, none⟩ = some (.slice x451A x451N x451C))) ∧
 (∀ w8 : World, w8 = w3.alloc (.cells #[] 122 (0, 0)) →
 vS w8 ∧
 (∃ (x44A : Option Addr) (x44N x44C : Nat), ∃ w9 : World, (Builtin.append_ #[136, 136] 136 #[(.slice (some ⟨w3.heap.size, 0, none⟩) 0 0), (.slice x43A x43N x43C)]).run Tryz.prog w8 = .ok (.slice x44A x44N x44C) w9 ∧
 vS w9 ∧
 ∀ w10 : World, w10 = w9.alloc (.cells #[(.slice x450A x450N x450C), (.slice x451A x451N x451C)] 122 (0, 0)) →
 vS w10 ∧
 ∃ (x47A : Option Addr) (x47N x47C : Nat), ∃ w11 : World, (Builtin.append_ #[136, 136] 136 #[(.slice x44A x44N x44C), (.slice (some ⟨w9.heap.size, 0, none⟩) 1 1)]).run Tryz.prog w10 = .ok (.slice x47A x47N x47C) w11 ∧
 vS w11 ∧
 (0 ≤ id ∧ id < (x33N : Int)) ∧ someV x33A fun p_3 =>
 (Okc w11 ((p_3.add (id.toNat * 3)).add 2)) ∧ ∀ w12 : World, w12 = (w11.setCell ((p_3.add (id.toNat * 3)).add 2) (.slice x47A x47N x47C)) →
 R (.int .i64 0) w12) ∧ (∀ w13 : World, w13 = w8.alloc (.cells #[(.slice x450A x450N x450C), (.slice x451A x451N x451C)] 122 (0, 0)) →
 vS w13 ∧
 ∃ (x44A_1 : Option Addr) (x44N_1 x44C_1 : Nat), ∃ w14 : World, (Builtin.append_ #[136, 136] 136 #[(.slice (some ⟨w3.heap.size, 0, none⟩) 0 0), (.slice x43A x43N x43C)]).run Tryz.prog w13 = .ok (.slice x44A_1 x44N_1 x44C_1) w14 ∧
 vS w14 ∧
 ∃ (x47A_1 : Option Addr) (x47N_1 x47C_1 : Nat), ∃ w15 : World, (Builtin.append_ #[136, 136] 136 #[(.slice x44A_1 x44N_1 x44C_1), (.slice (some ⟨w8.heap.size, 0, none⟩) 1 1)]).run Tryz.prog w14 = .ok (.slice x47A_1 x47N_1 x47C_1) w15 ∧
 vS w15 ∧
 (0 ≤ id ∧ id < (x33N : Int)) ∧ someV x33A fun p_4 =>
 (Okc w15 ((p_4.add (id.toNat * 3)).add 2)) ∧ ∀ w16 : World, w16 = (w15.setCell ((p_4.add (id.toNat * 3)).add 2) (.slice x47A_1 x47N_1 x47C_1)) →
 R (.int .i64 0) w16) ∧ True) ∧ (∀ w17 : World, w17 = w3.alloc (.cells #[(.slice x450A x450N x450C), (.slice x451A x451N x451C)] 122 (0, 0)) →
 vS w17 ∧
 ∀ w18 : World, w18 = w17.alloc (.cells #[] 122 (0, 0)) →
 vS w18 ∧
 ∃ (x44A_2 : Option Addr) (x44N_2 x44C_2 : Nat), ∃ w19 : World, (Builtin.append_ #[136, 136] 136 #[(.slice (some ⟨w17.heap.size, 0, none⟩) 0 0), (.slice x43A x43N x43C)]).run Tryz.prog w18 = .ok (.slice x44A_2 x44N_2 x44C_2) w19 ∧
 vS w19 ∧
 ∃ (x47A_2 : Option Addr) (x47N_2 x47C_2 : Nat), ∃ w20 : World, (Builtin.append_ #[136, 136] 136 #[(.slice x44A_2 x44N_2 x44C_2), (.slice (some ⟨w3.heap.size, 0, none⟩) 1 1)]).run Tryz.prog w19 = .ok (.slice x47A_2 x47N_2 x47C_2) w20 ∧
 vS w20 ∧
 (0 ≤ id ∧ id < (x33N : Int)) ∧ someV x33A fun p_5 =>
 (Okc w20 ((p_5.add (id.toNat * 3)).add 2)) ∧ ∀ w21 : World, w21 = (w20.setCell ((p_5.add (id.toNat * 3)).add 2) (.slice x47A_2 x47N_2 x47C_2)) →
 R (.int .i64 0) w21) ∧ True))))
def coadjutorref22_Pool_Take.vc (pB : Nat) (version : Int) (w : World) (R : Value → World → Prop) : Prop :=
 (decide (version < (1 : Int)) = true →
 R (.tuple #[(.int .i64 0), (.int .i64 1)]) w) ∧
 (decide (version < (1 : Int)) = false →
 (decide (version > (2147483647 : Int)) = true →
 R (.tuple #[(.int .i64 0), (.int .i64 1)]) w) ∧
 (decide (version > (2147483647 : Int)) = false →
 ∃ vI : Int → Nat → World → Prop, (∃ vk_2 : Nat, vI 0 vk_2 w) ∧
 ∀ (jk : Nat → Value) (i : Int), ∀ (vk : Nat) (w1 : World), vI i vk w1 →
 ∃ (x17A : Option Addr) (x17N x17C : Nat), w1.cell? ⟨pB, 0, none⟩ = some (.slice x17A x17N x17C) ∧
 (decide (i < (x17N : Int)) = true →
 ∃ (x25A : Option Addr) (x25N x25C : Nat), w1.cell? ⟨pB, 0, none⟩ = some (.slice x25A x25N x25C) ∧
 (0 ≤ i ∧ i < (x25N : Int)) ∧ someV x25A fun p =>
 ∃ x29 : Int, w1.cell? ((p.add (i.toNat * 3)).add 1) = some (.int .i64 x29) ∧
 ((x29 == (0 : Int)) = true →
 ∃ (x34A : Option Addr) (x34N x34C : Nat), w1.cell? ⟨pB, 0, none⟩ = some (.slice x34A x34N x34C) ∧
 (0 ≤ i ∧ i < (x34N : Int)) ∧ someV x34A fun p_1 =>
 (Okc w1 (p_1.add (i.toNat * 3)) ∧ Okc w1 ((p_1.add (i.toNat * 3)).add 1) ∧ Okc w1 ((p_1.add (i.toNat * 3)).add 2)) ∧ ∀ w2 : World, w2 = (((w1.setCell (p_1.add (i.toNat * 3)) (.int .i64 version)).setCell ((p_1.add (i.toNat * 3)).add 1) (.int .i64 1)).setCell ((p_1.add (i.toNat * 3)).add 2) (.slice none 0 0)) →
 R (.tuple #[(.int .i64 i), (.int .i64 0)]) w2) ∧
 ((x29 == (0 : Int)) = false →
 ∃ vk_1 : Nat, vk_1 < vk ∧ vI (IntKind.i64.wrap (i + 1)) vk_1 w1)) ∧
 (decide (i < (x17N : Int)) = false →
 R (.tuple #[(.int .i64 0), (.int .i64 11)]) w1)))
def coadjutorref22_Pool_Is.vc (pB : Nat) (id : Int) (w : World) (R : Value → World → Prop) : Prop :=
 (decide (id ≥ (0 : Int)) = true →
 ∃ (x12A : Option Addr) (x12N x12C : Nat), w.cell? ⟨pB, 0, none⟩ = some (.slice x12A x12N x12C) ∧
 (decide (id < (x12N : Int)) = true →
 ∃ (x20A : Option Addr) (x20N x20C : Nat), w.cell? ⟨pB, 0, none⟩ = some (.slice x20A x20N x20C) ∧
 (0 ≤ id ∧ id < (x20N : Int)) ∧ someV x20A fun p =>
 ∃ x24 : Int, w.cell? ((p.add (id.toNat * 3)).add 1) = some (.int .i64 x24) ∧
 R (.bool (decide (x24 > (0 : Int)))) w) ∧
 (decide (id < (x12N : Int)) = false →
 R (.bool false) w)) ∧
 (decide (id ≥ (0 : Int)) = false →
 R (.bool false) w)
def coadjutorref22_Pool_Free.vc (pB : Nat) (w : World) (R : Value → World → Prop) : Prop :=
 ∃ vI : Int → Int → Nat → World → Prop, (∃ vk_2 : Nat, vI 0 0 vk_2 w) ∧
 ∀ (jk : Nat → Value) (n : Int) (i : Int), ∀ (vk : Nat) (w1 : World), vI n i vk w1 →
 ∃ (x9A : Option Addr) (x9N x9C : Nat), w1.cell? ⟨pB, 0, none⟩ = some (.slice x9A x9N x9C) ∧
 (decide (i < (x9N : Int)) = true →
 ∃ (x17A : Option Addr) (x17N x17C : Nat), w1.cell? ⟨pB, 0, none⟩ = some (.slice x17A x17N x17C) ∧
 (0 ≤ i ∧ i < (x17N : Int)) ∧ someV x17A fun p =>
 ∃ x21 : Int, w1.cell? ((p.add (i.toNat * 3)).add 1) = some (.int .i64 x21) ∧
 ((x21 == (0 : Int)) = true →
 ∃ vk_1 : Nat, vk_1 < vk ∧ vI (IntKind.i64.wrap (n + 1)) (IntKind.i64.wrap (i + 1)) vk_1 w1) ∧
 ((x21 == (0 : Int)) = false →
 ∃ vk_1 : Nat, vk_1 < vk ∧ vI n (IntKind.i64.wrap (i + 1)) vk_1 w1)) ∧
 (decide (i < (x9N : Int)) = false →
 R (.int .i64 n) w1)
end Go.Proofs.YtkbikekbaboclaaGreat.Vc
