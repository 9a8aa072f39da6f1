import Derived.Test.YtkbikekbaboclaaGreatH
import Derived.Test.YtkbikekbaboclaaGreatPkV
import Derived.Lib.ConvBytes
import Derived.Laws.IdiomStrings
import Derived.Shelf.Bytes.SlSmallAll
import Derived.Maps.Own
import Derived.Maps.Views
import Derived.Maps.Keyed
set_option linter.unusedVariables false
set_option linter.unusedSimpArgs false
namespace Go.Proofs.YtkbikekbaboclaaGreat.Num
open Go Go.Proofs V
theorem and_one (x : Int) : Go.bits .and .i64 x 1 = x % 2 := by
 have h : (BitVec.ofInt 64 x &&& BitVec.ofInt 64 1).toNat = (x % 2).toNat := by
  rw [BitVec.toNat_and, BitVec.toNat_ofInt]
  have : (BitVec.ofInt 64 1).toNat = 1 := by decide
  rw [this, Nat.and_one_is_mod]
  have h0 : (((2 : Nat) ^ 64 : Nat) : Int) = 18446744073709551616 := by decide
  rw [h0]
  omega
 show IntKind.i64.wrap ((BitVec.ofInt 64 x &&& BitVec.ofInt 64 1).toNat : Int) = x % 2
 rw [h, wrap_id (by omega) (by omega)]
 omega
def clamp (x low high : Int) : Int := if x < low then low else if x > high then high else x
theorem clamp_le {x low high : Int} (h : low ≤ high) : low ≤ clamp x low high ∧ clamp x low high ≤ high := by unfold clamp; split <;> (try split) <;> omega
theorem clamp_id {x low high : Int} (h1 : low ≤ x) (h2 : x ≤ high) : clamp x low high = x := by unfold clamp; rw [if_neg (by omega), if_neg (by omega)]
def sat (x : Int) : Int := clamp x (-32767) 32767
theorem sat_le (x : Int) : -32767 ≤ sat x ∧ sat x ≤ 32767 := clamp_le (by omega)
theorem sat_id {x : Int} (h1 : -32767 ≤ x) (h2 : x ≤ 32767) : sat x = x := clamp_id h1 h2
def shift (x n : Int) : Int := if n ≤ 0 then x else if n ≥ 63 then 0 else x / 2 ^ n.toNat + (x / 2 ^ (n.toNat - 1)) % 2
def div (a b : Int) : Int := if b = 0 then 0 else if b = -1 ∧ a = -9223372036854775808 then 9223372036854775807 else Int.fdiv a b
theorem pow_pos2 (n : Nat) : (0 : Int) < 2 ^ n := Int.pow_pos (by omega)
theorem fdiv_q {a b : Int} (hb : b ≠ 0) : (if Int.tmod a b ≠ 0 ∧ ((a < 0 ∧ ¬ b < 0) ∨ (¬ a < 0 ∧ b < 0)) then Int.tdiv a b - 1 else Int.tdiv a b) = Int.fdiv a b := by
 have e1 := Int.mul_tdiv_add_tmod a b
 have e2 := Int.mul_fdiv_add_fmod a b
 have m1 : a.natAbs % b.natAbs < b.natAbs := Nat.mod_lt _ (by omega)
 have m2 := Int.natAbs_tmod a b
 have key : ∀ q r : Int, b * q + r = a → (0 < b → 0 ≤ r ∧ r < b) → (b < 0 → b < r ∧ r ≤ 0) → q = Int.fdiv a b := by
  intro q r he h1 h2
  rcases Int.lt_or_gt_of_ne hb with hn | hp
  ·have f1 : Int.fmod a b ≤ 0 := by
    have := Int.fmod_nonneg_of_pos (-a) (show 0 < -b by omega)
    rw [Int.neg_fmod_neg] at this; omega
   have f2 : b < Int.fmod a b := by
    have := Int.fmod_lt_of_pos (-a) (show 0 < -b by omega)
    rw [Int.neg_fmod_neg] at this; omega
   have ⟨h3, h4⟩ := h2 hn
   have h5 : b * (q - Int.fdiv a b) = Int.fmod a b - r := by rw [Int.mul_sub]; omega
   have h6 : q - Int.fdiv a b < 1 := by
    apply Int.lt_of_not_ge; intro hge
    have := Int.mul_le_mul_of_nonneg_left hge (show 0 ≤ -b by omega); rw [Int.neg_mul, Int.neg_mul] at this; omega
   have h7 : -1 < q - Int.fdiv a b := by
    apply Int.lt_of_not_ge; intro hge
    have := Int.mul_le_mul_of_nonneg_left hge (show 0 ≤ -b by omega); rw [Int.neg_mul, Int.neg_mul] at this; omega
   omega
  ·have f1 : 0 ≤ Int.fmod a b := Int.fmod_nonneg_of_pos a hp
   have f2 : Int.fmod a b < b := Int.fmod_lt_of_pos a hp
   have ⟨h3, h4⟩ := h1 hp
   have h5 : b * (q - Int.fdiv a b) = Int.fmod a b - r := by rw [Int.mul_sub]; omega
   have h6 : q - Int.fdiv a b < 1 := by
    apply Int.lt_of_not_ge; intro hge
    have := Int.mul_le_mul_of_nonneg_left hge (Int.le_of_lt hp); omega
   have h7 : -1 < q - Int.fdiv a b := by
    apply Int.lt_of_not_ge; intro hge
    have := Int.mul_le_mul_of_nonneg_left hge (Int.le_of_lt hp); omega
   omega
 have s1 : 0 ≤ a → 0 ≤ Int.tmod a b := fun h => Int.tmod_nonneg b h
 have s2 : a ≤ 0 → Int.tmod a b ≤ 0 := fun h => by
  have := Int.tmod_nonneg b (show 0 ≤ -a by omega)
  rw [Int.neg_tmod] at this; omega
 have s3 : (Int.tmod a b).natAbs < b.natAbs := by rw [m2]; exact m1
 split
 ·rename_i hc
  refine key _ (Int.tmod a b + b) (by rw [Int.mul_sub, Int.mul_one]; omega) (fun h => ?_) (fun h => ?_)
  ·rcases hc.2 with h1 | h1
   ·have := s2 (by omega); omega
   ·omega
  ·rcases hc.2 with h1 | h1
   ·omega
   ·have := s1 (by omega); omega
 ·rename_i hc
  refine key _ (Int.tmod a b) e1 (fun h => ?_) (fun h => ?_)
  ·by_cases ha : a < 0
   ·have hz : Int.tmod a b = 0 := Classical.byContradiction fun hz => hc ⟨hz, .inl ⟨ha, by omega⟩⟩
    omega
   ·have := s1 (by omega); omega
  ·by_cases ha : a < 0
   ·have := s2 (by omega); omega
   ·have hz : Int.tmod a b = 0 := Classical.byContradiction fun hz => hc ⟨hz, .inr ⟨ha, h⟩⟩
    omega
def rootN : Nat → Nat
 | 0 => 0
 | n + 1 => if (rootN n + 1) * (rootN n + 1) ≤ n + 1 then rootN n + 1 else rootN n
theorem rootN_spec : ∀ n : Nat, rootN n * rootN n ≤ n ∧ n < (rootN n + 1) * (rootN n + 1)
 | 0 => ⟨by decide, by decide⟩
 | n + 1 => by
  obtain ⟨h1, h2⟩ := rootN_spec n
  rw [rootN]
  split
  ·rename_i h
   refine ⟨h, ?_⟩
   have e : (rootN n + 1 + 1) * (rootN n + 1 + 1) = (rootN n + 1) * (rootN n + 1) + 2 * rootN n + 3 := by rw [Nat.mul_add, Nat.add_mul]; omega
   omega
  ·rename_i h
   exact ⟨by omega, by omega⟩
def root (n : Int) : Int := (rootN n.toNat : Int)
theorem root_spec {n : Int} (h : 0 ≤ n) : 0 ≤ root n ∧ root n * root n ≤ n ∧ n < (root n + 1) * (root n + 1) := by
 obtain ⟨h1, h2⟩ := rootN_spec n.toNat
 unfold root
 refine ⟨by omega, ?_, ?_⟩
 ·have : ((rootN n.toNat * rootN n.toNat : Nat) : Int) ≤ n := by omega
  simpa using this
 ·have : n < (((rootN n.toNat + 1) * (rootN n.toNat + 1) : Nat) : Int) := by omega
  simpa using this
theorem root_neg {n : Int} (h : n ≤ 0) : root n = 0 := by
 unfold root
 have : n.toNat = 0 := by omega
 rw [this]; rfl
theorem newton_ge {n s x : Int} (hx : 0 < x) (hs : s * s ≤ n) : s ≤ (x + n / x) / 2 := by
 have h : 2 * s - x ≤ n / x := by
  rw [Int.le_ediv_iff_mul_le hx]
  have h1 : 0 ≤ (s - x) * (s - x) := by
   rcases Int.le_total 0 (s - x) with h | h
   ·exact Int.mul_nonneg h h
   ·exact Int.mul_nonneg_of_nonpos_of_nonpos h h
  have h2 : (s - x) * (s - x) = s * s - (2 * s - x) * x := by
   simp only [Int.sub_mul, Int.mul_sub]
   rw [Int.mul_comm x s, Int.mul_assoc 2 s x]; omega
  omega
 omega
theorem newton_end {n x : Int} (hx : 0 < x) (h : x ≤ (x + n / x) / 2) : x * x ≤ n := by
 have h1 : x ≤ n / x := by omega
 exact (Int.le_ediv_iff_mul_le hx).1 h1
theorem newton_top {n y : Int} (h2 : 2 ≤ y) (h : 2 * y ≤ n + 1) : y + n / y ≤ n := by
 have h1 : n / y ≤ n / 2 := by
  rw [Int.le_ediv_iff_mul_le (by omega)]
  have h3 : n / y * y ≤ n := Int.ediv_mul_le n (by omega)
  by_cases hn : 0 ≤ n / y
  ·have := Int.mul_le_mul_of_nonneg_left h2 hn; omega
  ·omega
 omega
end Go.Proofs.YtkbikekbaboclaaGreat.Num
set_option linter.unusedVariables false
set_option linter.unusedSimpArgs false
namespace Go.Proofs.YtkbikekbaboclaaGreat.Num
open Go Go.Proofs V Vc
theorem Clamp_spec (w : World) (x low high : Int) : Calls Tryz.prog i_num_Clamp #[.int .i64 x, .int .i64 low, .int .i64 high] w (Ret fun v w' => v = .int .i64 (clamp x low high) ∧ w' = w) := by
 refine num_Clamp.calls _ _ _ ?_
 unfold num_Clamp.vc clamp
 refine ⟨fun h => ?_, fun h => ⟨fun h2 => ?_, fun h2 => ?_⟩⟩
 ·rw [if_pos (by simpa using h)]; exact ⟨rfl, rfl⟩
 ·rw [if_neg (by simpa using h), if_pos (by simpa using h2)]; exact ⟨rfl, rfl⟩
 ·rw [if_neg (by simpa using h), if_neg (by simpa using h2)]; exact ⟨rfl, rfl⟩
theorem Sat_spec (w : World) (x : Int) : Calls Tryz.prog i_num_Sat #[.int .i64 x] w (Ret fun v w' => v = .int .i64 (sat x) ∧ w' = w) := by
 refine num_Sat.calls _ ?_
 unfold num_Sat.vc
 refine step_call (Clamp_spec w _ _ _) ?_
 rintro v w ⟨rfl, rfl⟩
 exact ⟨_, rfl, rfl, rfl⟩
end Go.Proofs.YtkbikekbaboclaaGreat.Num
set_option linter.unusedVariables false
set_option linter.unusedSimpArgs false
namespace Go.Proofs.YtkbikekbaboclaaGreat.Num
open Go Go.Proofs V Vc
def inI (x : Int) : Prop := -9223372036854775808 ≤ x ∧ x ≤ 9223372036854775807
theorem div_pow_le {x : Int} (h : inI x) (n : Nat) : -9223372036854775808 ≤ x / 2 ^ n ∧ x / 2 ^ n ≤ 9223372036854775807 := by
 obtain ⟨h1, h2⟩ := h
 have hp := pow_pos2 n
 constructor
 ·rw [Int.le_ediv_iff_mul_le hp]
  have := Int.mul_le_mul_of_nonpos_left (show (-9223372036854775808 : Int) ≤ 0 by omega) (show (1 : Int) ≤ 2 ^ n by omega)
  omega
 ·have h3 : x / 2 ^ n * 2 ^ n ≤ x := Int.ediv_mul_le x (by omega)
  apply Int.le_of_not_gt; intro h4
  have := Int.mul_le_mul_of_nonneg_left (show (1 : Int) ≤ 2 ^ n by omega) (show 0 ≤ x / 2 ^ n by omega)
  omega
theorem div_half {x : Int} (h : inI x) {n : Nat} (hn : 1 ≤ n) : -4611686018427387904 ≤ x / 2 ^ n ∧ x / 2 ^ n ≤ 4611686018427387903 := by
 obtain ⟨m, rfl⟩ : ∃ m, n = m + 1 := ⟨n - 1, by omega⟩
 have := div_pow_le h m
 have e : x / 2 ^ (m + 1) = x / 2 ^ m / 2 := by rw [Int.pow_succ, Int.ediv_ediv_of_nonneg (Int.le_of_lt (pow_pos2 m))]
 rw [e]; omega
theorem shift_le {x : Int} (h : inI x) (n : Int) : inI (shift x n) := by
 unfold shift
 split
 ·exact h
 ·split
  ·exact ⟨by omega, by omega⟩
  ·have := div_half h (n := n.toNat) (by omega)
   exact ⟨by omega, by omega⟩
theorem fdiv_pow (x : Int) (n : Nat) : Int.fdiv x (2 ^ n) = x / 2 ^ n := Int.fdiv_eq_ediv_of_nonneg _ (Int.le_of_lt (pow_pos2 n))
theorem Shift_spec (w : World) {x : Int} (h : inI x) (n : Int) : Calls Tryz.prog i_num_Shift #[.int .i64 x, .int .i64 n] w (Ret fun v w' => v = .int .i64 (shift x n) ∧ Ch Non w w') := by
 refine num_Shift.calls _ _ ?_
 unfold num_Shift.vc shift
 refine ⟨fun h1 => ?_, fun h1 => ⟨fun h2 => ?_, fun h2 => ?_⟩⟩
 ·rw [if_pos (by simpa using h1)]; exact ⟨rfl, Ch.refl _ _⟩
 ·rw [if_neg (by simpa using h1), if_pos (by simpa using h2)]; exact ⟨rfl, Ch.refl _ _⟩
 ·have h1 : 0 < n := by simpa using h1
  have h2 : n < 63 := by simpa using h2
  rw [if_neg (by omega), if_neg (by omega)]
  refine ⟨fun _ => True, fun w1 e1 => ⟨trivial, by omega, ?_⟩⟩
  rw [wrap_id (x := n - 1) (by omega) (by omega)]
  refine ⟨by omega, ?_, Ch.drew e1⟩
  have m1 : min n.toNat IntKind.i64.bits = n.toNat := by show min n.toNat 64 = _; omega
  have m2 : min (n - 1).toNat IntKind.i64.bits = n.toNat - 1 := by show min (n - 1).toNat 64 = _; omega
  rw [m1, m2, fdiv_pow, fdiv_pow, and_one]
  have := div_half h (n := n.toNat) (by omega)
  rw [wrap_id (by omega) (by omega)]
def product (a b : Int) : Int := clamp a (-1073741824) 1073741824 * clamp b (-1073741824) 1073741824
theorem mul_le_of {a b m n : Int} (hm : 0 ≤ m) (h1 : -m ≤ a ∧ a ≤ m) (h2 : -n ≤ b ∧ b ≤ n) : -(m * n) ≤ a * b ∧ a * b ≤ m * n := by
 have hn : 0 ≤ n := by omega
 have e : (a * b).natAbs = a.natAbs * b.natAbs := Int.natAbs_mul a b
 have k : a.natAbs * b.natAbs ≤ m.natAbs * n.natAbs := Nat.mul_le_mul (by omega) (by omega)
 have e2 : (m * n).natAbs = m.natAbs * n.natAbs := Int.natAbs_mul m n
 have := Int.mul_nonneg hm hn
 omega
theorem product_le (a b : Int) : -1152921504606846976 ≤ product a b ∧ product a b ≤ 1152921504606846976 :=
 mul_le_of (m := 1073741824) (n := 1073741824) (by omega) (clamp_le (by omega)) (clamp_le (by omega))
theorem product_spec (w : World) (a b : Int) : Calls Tryz.prog i_num_product #[.int .i64 a, .int .i64 b] w (Ret fun v w' => v = .int .i64 (product a b) ∧ w' = w) := by
 refine num_product.calls _ _ ?_
 unfold num_product.vc
 refine step_call (Clamp_spec w _ _ _) ?_
 rintro v w1 ⟨rfl, rfl⟩
 refine ⟨_, rfl, ?_⟩
 refine step_call (Clamp_spec _ _ _ _) ?_
 rintro v w2 ⟨rfl, rfl⟩
 have := product_le a b
 refine ⟨_, rfl, ?_, rfl⟩
 rw [wrap_id (by show _ ≤ product a b; omega) (by show product a b ≤ _; omega)]; rfl
def mul (a b n : Int) : Int := sat (shift (product a b) n)
theorem product_in (a b : Int) : inI (product a b) := by have := product_le a b; exact ⟨by omega, by omega⟩
theorem Mul_spec (w : World) (a b n : Int) : Calls Tryz.prog i_num_Mul #[.int .i64 a, .int .i64 b, .int .i64 n] w (Ret fun v w' => v = .int .i64 (mul a b n) ∧ Ch Non w w') := by
 refine num_Mul.calls _ _ _ ?_
 unfold num_Mul.vc
 refine step_call (product_spec w _ _) ?_
 rintro v w1 ⟨rfl, rfl⟩
 refine ⟨_, rfl, ?_⟩
 refine step_call (Shift_spec _ (product_in a b) _) ?_
 rintro v w2 ⟨rfl, h2⟩
 refine ⟨_, rfl, ?_⟩
 refine step_call (Sat_spec _ _) ?_
 rintro v w3 ⟨rfl, rfl⟩
 exact ⟨_, rfl, rfl, h2⟩
end Go.Proofs.YtkbikekbaboclaaGreat.Num
set_option linter.unusedVariables false
set_option linter.unusedSimpArgs false
namespace Go.Proofs.YtkbikekbaboclaaGreat.Num
open Go Go.Proofs V Vc
end Go.Proofs.YtkbikekbaboclaaGreat.Num
set_option linter.unusedVariables false
set_option linter.unusedSimpArgs false
namespace Go.Proofs.YtkbikekbaboclaaGreat.Num
open Go Go.Proofs V Vc
theorem tdiv_le {a b : Int} (ha : inI a) (hb : b ≠ -1) : inI (Int.tdiv a b) ∧ (Int.tmod a b ≠ 0 → inI (Int.tdiv a b - 1)) := by
 obtain ⟨h1, h2⟩ := ha
 have e : (Int.tdiv a b).natAbs = a.natAbs / b.natAbs := Int.natAbs_tdiv a b
 by_cases hb0 : b.natAbs = 0
 ·have hb0 : b = 0 := by omega
  subst hb0
  rw [Int.tdiv_zero]; exact ⟨⟨by omega, by omega⟩, fun _ => ⟨by omega, by omega⟩⟩
 by_cases hb1 : b.natAbs = 1
 ·have : b = 1 := by omega
  subst this
  rw [Int.tdiv_one, Int.tmod_one]
  exact ⟨⟨h1, h2⟩, fun h => absurd rfl h⟩
 have k : a.natAbs / b.natAbs ≤ a.natAbs / 2 := Nat.div_le_div_left (by omega) (by omega)
 exact ⟨⟨by omega, by omega⟩, fun _ => ⟨by omega, by omega⟩⟩
theorem div_m1 {a : Int} (ha : inI a) : (if IntKind.i64.wrap (0 - IntKind.i64.wrap (a + 1)) > IntKind.i64.wrap (0 - a) then IntKind.i64.wrap (0 - IntKind.i64.wrap (a + 1)) else IntKind.i64.wrap (0 - a)) = div a (-1) := by
 obtain ⟨h1, h2⟩ := ha
 have hd : div a (-1) = if a = -9223372036854775808 then 9223372036854775807 else -a := by
  have e : Int.fdiv a (-1) = -a := by
   have := Int.neg_fdiv_neg a (-1)
   rw [Int.neg_neg, Int.fdiv_one] at this; exact this.symm
  unfold div; rw [if_neg (by omega), e]; simp
 rw [hd]
 by_cases hm : a = -9223372036854775808
 ·subst hm; decide
 ·rw [if_neg hm]
  by_cases ht : a = 9223372036854775807
  ·subst ht; decide
  ·rw [wrap_id (x := a + 1) (by omega) (by omega), wrap_id (x := 0 - (a + 1)) (by omega) (by omega), wrap_id (x := 0 - a) (by omega) (by omega), if_neg (by omega)]
   omega
theorem div_rest {R : Value → World → Prop} {w : World} {a b : Int} (ha : inI a) (h0 : b ≠ 0) (h1 : b ≠ -1) (hR : R (.int .i64 (div a b)) w) :
  (((Int.tmod a b) != (0 : Int)) = true →
   ((!((decide (a < (0 : Int))) == (decide (b < (0 : Int))))) = true → R (.int .i64 (IntKind.i64.wrap ((IntKind.i64.wrap (Int.tdiv a b)) - 1))) w) ∧
   ((!((decide (a < (0 : Int))) == (decide (b < (0 : Int))))) = false → R (.int .i64 (IntKind.i64.wrap (Int.tdiv a b))) w)) ∧
  (((Int.tmod a b) != (0 : Int)) = false → R (.int .i64 (IntKind.i64.wrap (Int.tdiv a b))) w) := by
 obtain ⟨l1, l2⟩ := tdiv_le (b := b) ha h1
 have hq := fdiv_q (a := a) h0
 have hd : div a b = Int.fdiv a b := by unfold div; rw [if_neg h0, if_neg (fun h => h1 h.1)]
 rw [hd, ← hq] at hR
 rw [wrap_id l1.1 l1.2]
 refine ⟨fun h => ?_, fun h => ?_⟩
 ·have h : Int.tmod a b ≠ 0 := by simpa using h
  have l2 := l2 h
  rw [wrap_id l2.1 l2.2]
  refine ⟨fun h3 => ?_, fun h3 => ?_⟩
  ·rw [if_pos ⟨h, by simp at h3; omega⟩] at hR; exact hR
  ·rw [if_neg (fun hc => by simp at h3; omega)] at hR; exact hR
 ·have h : Int.tmod a b = 0 := by simpa using h
  rw [if_neg (fun hc => hc.1 h)] at hR; exact hR
theorem Div_spec (w : World) {a : Int} (ha : inI a) (b : Int) : Calls Tryz.prog i_num_Div #[.int .i64 a, .int .i64 b] w (Ret fun v w' => v = .int .i64 (div a b) ∧ w' = w) := by
 refine num_Div.calls _ _ ?_
 unfold num_Div.vc
 refine ⟨fun h => ?_, fun h => ⟨fun h1 => ?_, fun h1 => ?_⟩⟩
 ·have : b = 0 := by simpa using h
  subst this; exact ⟨rfl, rfl⟩
 ·have : b = -1 := by simpa using h1
  subst this; exact ⟨by rw [div_m1 ha], rfl⟩
 ·have h : b ≠ 0 := by simpa using h
  exact ⟨h, h, div_rest (R := fun v w' => v = .int .i64 (div a b) ∧ w' = w) ha h (by simpa using h1) ⟨rfl, rfl⟩⟩
end Go.Proofs.YtkbikekbaboclaaGreat.Num
set_option linter.unusedVariables false
set_option linter.unusedSimpArgs false
namespace Go.Proofs.YtkbikekbaboclaaGreat.Num
open Go Go.Proofs V Vc
def sumC (l : List Int) : Int := l.foldl (fun out x => clamp (out + clamp x (-2305843009213693952) 2305843009213693952) (-4611686018427387904) 4611686018427387904) 0
theorem sumC_snoc (l : List Int) (x : Int) : sumC (l ++ [x]) = clamp (sumC l + clamp x (-2305843009213693952) 2305843009213693952) (-4611686018427387904) 4611686018427387904 := by
 unfold sumC; rw [List.foldl_append]; rfl
theorem snoc_ind {α : Type} {p : List α → Prop} (h0 : p []) (h1 : ∀ l x, p l → p (l ++ [x])) (l : List α) : p l := by
 have h : ∀ m : List α, p m.reverse := fun m => by
  induction m with
  | nil => exact h0
  | cons x r ih => rw [List.reverse_cons]; exact h1 _ _ ih
 have := h l.reverse
 rwa [List.reverse_reverse] at this
theorem sumC_le (l : List Int) : -4611686018427387904 ≤ sumC l ∧ sumC l ≤ 4611686018427387904 := by
 refine snoc_ind (p := fun l => -4611686018427387904 ≤ sumC l ∧ sumC l ≤ 4611686018427387904) ⟨by decide, by decide⟩ (fun l x _ => ?_) l
 rw [sumC_snoc]
 exact clamp_le (by omega)
theorem sumC_sum {b : Int} (hb : 0 ≤ b) (l : List Int) (h : ∀ x ∈ l, -b ≤ x ∧ x ≤ b) (hl : b * l.length ≤ 2305843009213693952) (hb2 : b ≤ 2305843009213693952) : sumC l = l.sum ∧ -(b * l.length) ≤ l.sum ∧ l.sum ≤ b * l.length := by
 have main : ∀ l : List Int, (∀ x ∈ l, -b ≤ x ∧ x ≤ b) → b * l.length ≤ 2305843009213693952 → sumC l = l.sum ∧ -(b * l.length) ≤ l.sum ∧ l.sum ≤ b * l.length := by
  intro l
  refine snoc_ind (p := fun l => (∀ x ∈ l, -b ≤ x ∧ x ≤ b) → b * l.length ≤ 2305843009213693952 → sumC l = l.sum ∧ -(b * l.length) ≤ l.sum ∧ l.sum ≤ b * l.length) (fun _ _ => by simp [sumC]) (fun l x ih h hl => ?_) l
  have e : b * ((l ++ [x]).length : Int) = b * l.length + b := by simp [Int.mul_add]
  rw [e] at hl ⊢
  have hx := h x (by simp)
  obtain ⟨i1, i2, i3⟩ := ih (fun y hy => h y (by simp [hy])) (by omega)
  have es : (l ++ [x]).sum = l.sum + x := by simp
  rw [sumC_snoc, i1, es, clamp_id (x := x) (by omega) (by omega), clamp_id (by omega) (by omega)]
  exact ⟨rfl, by omega, by omega⟩
 exact main l h hl
theorem take_snoc {α : Type} (l : List α) (j : Nat) (h : j < l.length) : l.take (j + 1) = l.take j ++ [l[j]] := List.take_succ_eq_append_getElem h
theorem Sum_spec {w : World} {o : Option Addr} {c : Nat} {xs : List Int} {F : Nat → Prop} (hr : Rd w o (xs.map (.int .i64)) F) (hx : xs.length ≤ 1000000000000) :
  Calls Tryz.prog i_num_Sum #[.slice o xs.length c] w (Ret fun v w' => v = .int .i64 (sumC xs) ∧ w' = w) := by
 refine num_Sum.calls _ _ _ ?_
 unfold num_Sum.vc
 refine ⟨fun s i k w' => w' = w ∧ ∃ j : Nat, i = j ∧ j ≤ xs.length ∧ k = xs.length - j ∧ s = sumC (xs.take j), ⟨_, rfl, 0, rfl, Nat.zero_le _, rfl, rfl⟩, ?_⟩
 rintro jk s i k w' ⟨rfl, j, rfl, hj, rfl, rfl⟩
 refine ⟨fun hlt => ?_, fun hge => ?_⟩
 ·have hlt : j < xs.length := by simpa using hlt
  refine ⟨⟨by omega, by omega⟩, hr.at (j := (j : Int).toNat * 1) (v := .int .i64 xs[j]) (by simp [hlt]) fun p hp => ⟨xs[j], hp, ?_⟩⟩
  refine step_call (Clamp_spec _ _ _ _) ?_
  rintro v w1 ⟨rfl, rfl⟩
  refine ⟨_, rfl, ?_⟩
  have hs := sumC_le (xs.take j)
  have hc := clamp_le (x := xs[j]) (low := -2305843009213693952) (high := 2305843009213693952) (by omega)
  rw [wrap_id (x := sumC (xs.take j) + _) (by omega) (by omega)]
  refine step_call (Clamp_spec _ _ _ _) ?_
  rintro v w2 ⟨rfl, rfl⟩
  refine ⟨_, rfl, xs.length - (j + 1), by omega, rfl, j + 1, ?_, hlt, rfl, ?_⟩
  ·rw [wrap_id (by omega) (by omega)]; rfl
  ·rw [take_snoc xs j hlt, sumC_snoc]
 ·have : j = xs.length := by simp at hge; omega
  subst this
  exact ⟨by rw [List.take_length], rfl⟩
end Go.Proofs.YtkbikekbaboclaaGreat.Num
set_option linter.unusedVariables false
set_option linter.unusedSimpArgs false
namespace Go.Proofs.YtkbikekbaboclaaGreat.Num
open Go Go.Proofs V Vc
theorem Mean_spec {w : World} {o : Option Addr} {c : Nat} {xs : List Int} {F : Nat → Prop} (hr : Rd w o (xs.map (.int .i64)) F) (hx : xs.length ≤ 1000000000000) :
  Calls Tryz.prog i_num_Mean #[.slice o xs.length c] w (Ret fun v w' => v = .int .i64 (div (sumC xs) xs.length) ∧ w' = w) := by
 refine num_Mean.calls _ _ _ ?_
 unfold num_Mean.vc
 refine step_call (Sum_spec hr hx) ?_
 rintro v w1 ⟨rfl, rfl⟩
 have := sumC_le xs
 refine ⟨_, rfl, ?_⟩
 refine step_call (Div_spec _ ⟨by omega, by omega⟩ _) ?_
 rintro v w2 ⟨rfl, rfl⟩
 exact ⟨_, rfl, rfl, rfl⟩
end Go.Proofs.YtkbikekbaboclaaGreat.Num
set_option linter.unusedVariables false
set_option linter.unusedSimpArgs false
namespace Go.Proofs.YtkbikekbaboclaaGreat.Num
open Go Go.Proofs V Vc
theorem Sqrt_spec (w : World) {n : Int} (hn : inI n) : Calls Tryz.prog i_num_Sqrt #[.int .i64 n] w (Ret fun v w' => v = .int .i64 (root n) ∧ w' = w) := by
 obtain ⟨n1, n2⟩ := hn
 refine num_Sqrt.calls _ ?_
 unfold num_Sqrt.vc
 refine ⟨fun h => ?_, fun h => ⟨by decide, ?_⟩⟩
 ·have h : n ≤ 0 := by simpa using h
  exact ⟨by rw [root_neg h], rfl⟩
 have h : 0 < n := by simpa using h
 obtain ⟨r0, r1, r2⟩ := root_spec (n := n) (by omega)
 have hr1 : 1 ≤ root n := by
  apply Int.le_of_not_gt; intro hh
  have : root n = 0 := by omega
  rw [this] at r2; omega
 refine ⟨fun x y k w' => w' = w ∧ 1 ≤ x ∧ x ≤ n ∧ root n ≤ x ∧ y = (x + n / x) / 2 ∧ root n ≤ y ∧ 2 * y ≤ n + 1 ∧ k = x.toNat, ⟨_, rfl, by omega, by omega, ?_, ?_, ?_, ?_, rfl⟩, ?_⟩
 ·apply Int.le_of_not_gt; intro hh
  have := Int.mul_le_mul (show n + 1 ≤ root n by omega) (show n + 1 ≤ root n by omega) (by omega) r0
  have e : (n + 1) * (n + 1) = n * n + 2 * n + 1 := by rw [Int.mul_add, Int.add_mul]; omega
  have := Int.mul_nonneg (show 0 ≤ n by omega) (show 0 ≤ n by omega)
  omega
 ·rw [and_one, Int.tdiv_eq_ediv_of_nonneg (by omega), wrap_id (x := n / 2) (by omega) (by omega), wrap_id (by omega) (by omega), Int.ediv_self (by omega)]
  omega
 ·have := newton_ge (x := n) h r1
  rw [Int.ediv_self (by omega)] at this
  rw [and_one, Int.tdiv_eq_ediv_of_nonneg (by omega), wrap_id (x := n / 2) (by omega) (by omega), wrap_id (by omega) (by omega)]
  omega
 ·rw [and_one, Int.tdiv_eq_ediv_of_nonneg (by omega), wrap_id (x := n / 2) (by omega) (by omega), wrap_id (by omega) (by omega)]
  omega
 rintro jk x y k w' ⟨rfl, hx1, hx2, hx3, hy, hy2, hy3, rfl⟩
 refine ⟨fun hlt => ?_, fun hge => ?_⟩
 ·have hlt : y < x := by simpa using hlt
  have hy1 : 1 ≤ y := by omega
  have hq0 : 0 ≤ n / y := Int.ediv_nonneg (by omega) (by omega)
  have hqn : n / y ≤ n := Int.ediv_le_self y (by omega)
  have htop : y + n / y ≤ 9223372036854775807 ∧ (2 * ((y + n / y) / 2) ≤ n + 1) := by
   by_cases hy2' : 2 ≤ y
   ·have := newton_top hy2' hy3; omega
   ·have : y = 1 := by omega
    subst this
    rw [Int.ediv_one] at *
    have : root n = 1 := by omega
    rw [this] at r2; omega
  have e1 : IntKind.i64.wrap (Int.tdiv n y) = n / y := by rw [Int.tdiv_eq_ediv_of_nonneg (by omega), wrap_id (by omega) (by omega)]
  rw [e1, wrap_id (x := y + n / y) (by omega) (by omega), Int.tdiv_eq_ediv_of_nonneg (by omega), wrap_id (by omega) (by omega)]
  exact ⟨by omega, by decide, y.toNat, by omega, rfl, by omega, by omega, hy2, rfl, newton_ge (by omega) r1, htop.2, rfl⟩
 ·have hge : x ≤ y := by simpa using hge
  have hxx : x * x ≤ n := newton_end (by omega) (by rw [← hy]; exact hge)
  refine ⟨?_, rfl⟩
  have : ¬ root n + 1 ≤ x := fun hh => by
   have := Int.mul_le_mul hh hh (by omega) (by omega)
   omega
  have : root n = x := by omega
  rw [this]
end Go.Proofs.YtkbikekbaboclaaGreat.Num
set_option linter.unusedVariables false
set_option linter.unusedSimpArgs false
namespace Go.Proofs.YtkbikekbaboclaaGreat.Num
open Go Go.Proofs V Vc Go.RowKit
section
variable {w : World} {oa ob : Option Addr} {ca cb : Nat} {xs ys : List Int} {F G : Nat → Prop}
def dotC (xs ys : List Int) : Int := (List.zipWith product xs ys).foldl (fun out p => clamp (out + p) (-4611686018427387904) 4611686018427387904) 0
theorem zip_take {xs ys : List Int} {j : Nat} (h1 : j < xs.length) (h2 : j < ys.length) : (List.zipWith product xs ys).take (j + 1) = (List.zipWith product xs ys).take j ++ [product xs[j] ys[j]] := by
 rw [List.take_succ_eq_append_getElem (by simp; omega)]; simp
theorem Dot_spec (hx : Rd w oa (xs.map (.int .i64)) F) (hy : Rd w ob (ys.map (.int .i64)) G) (hl : xs.length ≤ 1000000) : Calls Tryz.prog i_num_Dot #[.slice oa xs.length ca, .slice ob ys.length cb] w (Ret fun v w' => v = .int .i64 (dotC xs ys) ∧ Ch Non w w') := by
 refine num_Dot.calls _ _ _ _ _ _ ?_
 unfold num_Dot.vc
 have hmin : (if ((ys.length : Nat) : Int) < ((xs.length : Nat) : Int) then ((ys.length : Nat) : Int) else ((xs.length : Nat) : Int)) = ((min xs.length ys.length : Nat) : Int) := by split <;> omega
 rw [hmin]
 refine ⟨fun m i k w' => Ch Non w w' ∧ -4611686018427387904 ≤ m ∧ m ≤ 4611686018427387904 ∧ ∃ j : Nat, i = j ∧ j ≤ min xs.length ys.length ∧ k = min xs.length ys.length - j ∧ m = ((List.zipWith product xs ys).take j).foldl (fun out p => clamp (out + p) (-4611686018427387904) 4611686018427387904) 0, ⟨_, Ch.refl _ _, by omega, by omega, 0, rfl, Nat.zero_le _, rfl, rfl⟩, ?_⟩
 rintro jk m i k w1 ⟨hc, hm1, hm2, j, rfl, hj, rfl, hm⟩
 refine ⟨fun hlt => ?_, fun hge => ?_⟩
 ·have hlt : j < min xs.length ys.length := by simp at hlt; omega
  refine ⟨fun w' => Ch Non w w', fun w2 e2 => ⟨hc.andN (Ch.drew e2), ⟨by omega, by omega⟩, Rd.keeps (j := (j : Int).toNat * 1) (S := fun w2 => Ch Non w w2) (fun w2 h2 => hx.keepN h2) hc (by simp; omega) fun p hp => ⟨_, hp, ⟨by omega, by omega⟩,
   Rd.keeps (j := (j : Int).toNat * 1) (S := fun w2 => Ch Non w w2) (fun w2 h2 => hy.keepN h2) hc (by simp; omega) fun p2 hp2 => ⟨_, hp2, ?_⟩⟩⟩⟩
  have hc2 := hc.andN (Ch.drew (F := Non) e2)
  refine step_call (product_spec w2 _ _) ?_
  rintro v w3 ⟨rfl, rfl⟩
  refine ⟨_, rfl, hc2, ?_⟩
  have hp := product_le (xs[(j : Int).toNat * 1]'(by simp; omega)) (ys[(j : Int).toNat * 1]'(by simp; omega))
  rw [wrap_id (x := m + _) (by omega) (by omega)]
  refine step_call (Clamp_spec _ _ _ _) ?_
  rintro v w4 ⟨rfl, rfl⟩
  have hcl := clamp_le (x := m + product (xs[(j : Int).toNat * 1]'(by simp; omega)) (ys[(j : Int).toNat * 1]'(by simp; omega))) (low := -4611686018427387904) (high := 4611686018427387904) (by omega)
  refine ⟨_, rfl, hc2, min xs.length ys.length - (j + 1), by omega, hc2, hcl.1, hcl.2, j + 1, by rw [wrap_id (by omega) (by omega)]; rfl, hlt, rfl, ?_⟩
  rw [zip_take (by omega) (by omega), List.foldl_append, ← hm]; simp
 ·have : j = min xs.length ys.length := by simp at hge; omega
  subst this
  rw [List.take_of_length_le (by simp)] at hm
  exact ⟨by rw [hm]; rfl, hc⟩
end
theorem dotC_le (xs ys : List Int) : -4611686018427387904 ≤ dotC xs ys ∧ dotC xs ys ≤ 4611686018427387904 := by
 unfold dotC
 generalize List.zipWith product xs ys = l
 refine snoc_ind (p := fun l => -4611686018427387904 ≤ List.foldl (fun out p => clamp (out + p) (-4611686018427387904) 4611686018427387904) 0 l ∧ List.foldl (fun out p => clamp (out + p) (-4611686018427387904) 4611686018427387904) 0 l ≤ 4611686018427387904) ⟨by decide, by decide⟩ (fun l x _ => ?_) l
 rw [List.foldl_append]
 exact clamp_le (by omega)
end Go.Proofs.YtkbikekbaboclaaGreat.Num
set_option linter.unusedVariables false
set_option linter.unusedSimpArgs false
namespace Go.Proofs.YtkbikekbaboclaaGreat.V
open Go Go.Proofs Go.RowKit
def Gr (G : Nat → Prop) (w0 w : World) (T sz : Nat) (o : Option Addr) (n c : Nat) (vs : List Value) : Prop := Own w T sz o n c vs (New w0 w) ∧ Ch G w0 w
section
variable {G : Nat → Prop} {P : Program} {w0 w w1 w' : World} {T sz t bytes n c : Nat} {o : Option Addr} {vs : List Value} {α : Type} {enc : α → Value}
theorem Gr.nil (h : Ch G w0 w) : Gr G w0 w T sz none 0 0 [] := ⟨Own.nil _ _ _ _, h⟩
theorem Gr.made {cells : Array Value} (h : Ch G w0 w) (e1 : w1 = w.alloc (.cells cells T (0, 0))) (hn : cells.size = n * sz) (hm : n ≤ 1000000) : Gr G w0 w1 T sz (some ⟨w.heap.size, 0, none⟩) n n cells.toList :=
 ⟨Own.made e1 hn (by unfold maxLen; omega) ⟨h.size, (Blk.new e1).lt⟩, h.andN (Ch.alloc e1)⟩
theorem Gr.made0 (h : Ch G w0 w) (e1 : w1 = w.alloc (.cells #[] T (0, 0))) : Gr G w0 w1 T sz (some ⟨w.heap.size, 0, none⟩) 0 0 [] := Gr.made h e1 (by simp) (by omega)
theorem Gr.step (h : Gr G w0 w T sz o n c vs) (hc : Ch G w w') (hG : ∀ i, G i → i < w0.heap.size) : Gr G w0 w' T sz o n c vs :=
 ⟨(h.1.keep hc (fun i _ hN hi => absurd (hG i hi) (Nat.not_lt.2 hN.1))).mono (fun i _ hN => New.le hN hc.size), h.2.same hc⟩
theorem Gr.keepN (h : Gr G w0 w T sz o n c vs) (hc : Ch Non w w') : Gr G w0 w' T sz o n c vs :=
 ⟨(h.1.keepN hc).mono (fun i _ hN => New.le hN hc.size), h.2.andN hc⟩
theorem Gr.rd (h : Gr G w0 w T sz o n c vs) : Rd w o vs (New w0 w) := h.1.rd
theorem Gr.push (el : Elem P t T sz bytes) (h : Gr G w0 w T sz o n c vs) (ty : TypeId) {news : Array Value} (e1 : w1 = w.alloc (.cells news T (0, 0))) (hl : news.size = sz) (h1 : news.toList.all (·.oneCell') = true) (hn : n < 1000000) (hb : bytes ≤ 1000) :
  ∃ (o' : Option Addr) (c' : Nat) (w' : World), (Builtin.append_ #[t, t] ty #[.slice o n c, .slice (some ⟨w.heap.size, 0, none⟩) 1 1]).run P w1 = .ok (.slice o' (n + 1) c') w' ∧ Gr G w0 w' T sz o' (n + 1) c' (vs ++ news.toList) ∧ Ch (New w0 w) w w' := by
 obtain ⟨o', c', w', hr, ho, hc⟩ := Own.push el h.1 ty e1 hl h1 (by unfold maxLen; omega) (Nat.le_trans (Nat.mul_le_mul (show n + 1 ≤ 1000000 by omega) hb) (by omega))
 exact ⟨o', c', w', hr, ⟨ho.mono (fun i _ hi => New.ext hi h.2.size hc.size), h.2.trans hc (fun i hi hN => absurd hi (Nat.not_lt.2 hN.1))⟩, hc⟩
theorem Gr.app {o2 : Option Addr} {c2 m : Nat} {news : List Value} {F : Nat → Prop} (el : Elem P t T sz bytes) (h : Gr G w0 w T sz o n c vs) (ty : TypeId) (hr : Rd w o2 news F) (hl : news.length = m * sz) (h1 : ∀ u ∈ news, u.oneCell' = true) (hn : n + m ≤ 1000000) (hb : bytes ≤ 1000) :
  ∃ (o' : Option Addr) (c' : Nat) (w' : World), (Builtin.append_ #[t, t] ty #[.slice o n c, .slice o2 m c2]).run P w = .ok (.slice o' (n + m) c') w' ∧ Gr G w0 w' T sz o' (n + m) c' (vs ++ news) ∧ Ch (New w0 w) w w' := by
 obtain ⟨o', c', w', hr, ho, hc⟩ := Own.appendRd (c2 := c2) el h.1 ty hr hl h1 (by unfold maxLen; omega) (Nat.le_trans (Nat.mul_le_mul hn hb) (by omega))
 exact ⟨o', c', w', hr, ⟨ho.mono (fun i _ hi => New.ext hi h.2.size hc.size), h.2.trans hc (fun i hi hN => absurd hi (Nat.not_lt.2 hN.1))⟩, hc⟩
theorem Gr.next (el : Elem P t T 1 bytes) {L : List α} {j : Nat} (h : Gr G w0 w T 1 o j c ((L.take j).map enc)) (ty : TypeId) (hj : j < L.length) (hL : L.length ≤ 1000000) {v : Value} (e1 : w1 = w.alloc (.cells #[v] T (0, 0))) (hv : v = enc L[j]) (h1 : v.oneCell' = true) (hb : bytes ≤ 1000) :
  ∃ (o' : Option Addr) (c' : Nat) (w' : World), (Builtin.append_ #[t, t] ty #[.slice o j c, .slice (some ⟨w.heap.size, 0, none⟩) 1 1]).run P w1 = .ok (.slice o' (j + 1) c') w' ∧ Gr G w0 w' T 1 o' (j + 1) c' ((L.take (j + 1)).map enc) ∧ Ch (New w0 w) w w' := by
 obtain ⟨o', c', w', hr, ho, hc⟩ := h.push el ty e1 rfl (by simpa using h1) (by omega) hb
 refine ⟨o', c', w', hr, ?_, hc⟩
 rw [List.take_succ_eq_append_getElem hj, List.map_append]
 subst hv; exact ho
end
section
variable {α : Type} {L : List α} {z : α} {j : Nat}
end
theorem Ch.set2 {w w' : World} {F : Nat → Prop} {p q : Addr} {x y : Value} (e : w' = (w.setCell p x).setCell q y) (h1 : F p.block) (h2 : F q.block) : Ch F w w' :=
 (Ch.set (w' := w.setCell p x) rfl h1).same (Ch.set e h2)
theorem Ch.set3 {w w' : World} {F : Nat → Prop} {p q r : Addr} {x y z : Value} (e : w' = ((w.setCell p x).setCell q y).setCell r z) (h1 : F p.block) (h2 : F q.block) (h3 : F r.block) : Ch F w w' :=
 (Ch.set2 (w' := (w.setCell p x).setCell q y) rfl h1 h2).same (Ch.set e h3)
theorem add_none (a : Addr) : a.add 0 = a := by unfold Addr.add; split <;> simp_all
theorem Rd.at0 {w : World} {o : Option Addr} {cs : List Value} {F : Nat → Prop} (h : Rd w o cs F) {v : Value} (hj : cs[0]? = some v) {K : Addr → Prop} (hk : ∀ p : Addr, w.cell? p = some v → K p) : someV o K :=
 h.at hj (fun p hp => hk p (by rwa [add_none] at hp))
theorem Blk.rd {w : World} {b : Nat} {cs : List Value} {T : Nat} (h : Blk w b cs T) : Rd w (some ⟨b, 0, none⟩) cs (· = b) := fun j v hj => ⟨_, rfl, rfl, h.lt, by rw [add_at, Nat.zero_add]; exact h.cell j hj⟩
end Go.Proofs.YtkbikekbaboclaaGreat.V
set_option linter.unusedVariables false
set_option linter.unusedSimpArgs false
namespace Go.Proofs.YtkbikekbaboclaaGreat.V
open Go Go.Proofs Go.RowKit
def u8v (b : UInt8) : Value := .int .u8 (b.toNat : Int)
section
variable {P : Program} {w : World} {src dst e : TypeId}
theorem conv_in (t : ByteArray) (hs : P.underlying src = some .string) (hd : P.underlying dst = some (.slice e)) (he : P.underlying e = some (.int .u8)) :
  ∃ (c : Nat) (w' : World), (convert src dst (.string t)).run P w = .ok (.slice (some ⟨w.heap.size, 0, none⟩) t.size c) w' ∧ Rd w' (some ⟨w.heap.size, 0, none⟩) (t.data.toList.map u8v) (New w w') ∧ Ch Non w w' ∧ w'.heap.size = w.heap.size + 1 := by
 refine ⟨_, _, Lib.run_convert_string_bytes w src dst e t hs hd he, fun j v hj => ?_, ?_, Lib.bytesWorld_size w e t⟩
 ·have hlt : j < t.data.toList.length := by
   have := (List.getElem?_eq_some_iff.1 hj).1
   simpa using this
  have hsz : j < t.size := by simpa using hlt
  have hsize := Lib.bytesWorld_size w e t
  refine ⟨_, rfl, ⟨Nat.le_refl _, by rw [hsize]; exact Nat.lt_succ_self _⟩, by rw [hsize]; exact Nat.lt_succ_self _, ?_⟩
  rw [add_at, Nat.zero_add, Lib.bytesWorld_cell w e t j hsz]
  rw [List.getElem?_map, List.getElem?_eq_getElem hlt] at hj
  simp only [Option.map_some, Option.some.injEq] at hj
  rw [← hj]
  unfold u8v
  rw [List.getD_eq_getElem?_getD, List.getElem?_eq_getElem hlt]
  rfl
 ·exact Ch.of_below ⟨rfl, rfl, rfl, by rw [Lib.bytesWorld_size]; omega, fun j hj => Lib.bytesWorld_at_old w e t j hj⟩
theorem conv_out {o : Option Addr} {c : Nat} {bs : List UInt8} {F : Nat → Prop} (hr : Rd w o (bs.map u8v) F) (hs : P.underlying src = some (.slice e)) (he : P.underlying e = some (.int .u8)) (hd : P.underlying dst = some .string) :
  (convert src dst (.slice o bs.length c)).run P w = .ok (.string ⟨bs.toArray⟩) w := by
 cases bs with
 | nil => exact run_convert_bytes_zero w src e hs he o c dst hd
 | cons b r =>
  obtain ⟨a, ha, _, _, _⟩ := hr 0 (u8v b) rfl
  subst ha
  refine run_convert_bytes_back w src dst e a c (b :: r) hs he hd (fun j hj => ?_)
  obtain ⟨a', ha', _, _, hc⟩ := hr j (u8v (b :: r)[j]) (by rw [List.getElem?_map, List.getElem?_eq_getElem hj]; rfl)
  injection ha' with ha'
  subst ha'; exact hc
end
end Go.Proofs.YtkbikekbaboclaaGreat.V
set_option linter.unusedVariables false
set_option linter.unusedSimpArgs false
namespace Go.Proofs.YtkbikekbaboclaaGreat.V
open Go Go.Proofs Go.RowKit
section
variable {P : Program} {w w' : World} {t e : TypeId} {cs : List Value} {α : Type} {enc : α → List Value} {Q : α → Prop} {o : Option Addr} {F : Nat → Prop} {sz : Nat}
theorem DatC.sliceOf (h : DatC P w t cs) (hu : P.underlying t = some (.slice e)) (hel : ∀ x, x.length = P.cellsOf e → DatC P w e x → ∃ y, x = enc y ∧ Q y) :
  ∃ (o : Option Addr) (c : Nat) (ys : List α), cs = [.slice o ys.length c] ∧ ys.length ≤ c ∧ c ≤ maxLen ∧ ys.length * P.bytesOf e ≤ 140737488351232 ∧ (∀ y ∈ ys, Q y) ∧ Rd w o (ys.map enc).flatten (fun _ => True) := by
 obtain ⟨o, n, c, es, hc, h1, h2, h3, hl, hes, hr⟩ := h.slice hu
 obtain ⟨ys, hyl, hy⟩ := all_choose (R := fun (x : List Value) (y : α) => x = enc y ∧ Q y) (l := es) (fun x hx => hel x (hes x hx).1 (hes x hx).2)
 have hm := eq_map_of hyl (f := enc) (fun i x y ha hb => (hy i x y ha hb).1)
 subst hl
 rw [← hyl] at hc h1 h3
 refine ⟨o, c, ys, hc, h1, h2, h3, fun y hym => ?_, by rw [← hm]; exact hr⟩
 obtain ⟨i, hi⟩ := List.getElem?_of_mem hym
 have hlt := (List.getElem?_eq_some_iff.1 hi).1
 exact (hy i _ y (List.getElem?_eq_getElem (by omega)) hi).2
theorem flatten_at (ys : List α) (hsz : ∀ y, (enc y).length = sz) {j q : Nat} (hj : j < ys.length) (hq : q < sz) : (ys.map enc).flatten[j * sz + q]? = (enc ys[j])[q]? := by
 induction ys generalizing j with
 | nil => simp at hj
 | cons y r ih =>
  rw [List.map_cons, List.flatten_cons]
  cases j with
  | zero => rw [Nat.zero_mul, Nat.zero_add, List.getElem?_append_left (by rw [hsz]; exact hq)]; rfl
  | succ j =>
   rw [List.getElem?_append_right (by rw [hsz, Nat.succ_mul]; omega), hsz, show (j + 1) * sz + q - sz = j * sz + q by rw [Nat.succ_mul]; omega]
   rw [ih (j := j) (by simpa using hj)]; rfl
theorem Rd.elem {ys : List α} (h : Rd w o (ys.map enc).flatten F) (hsz : ∀ y, (enc y).length = sz) (hpos : 0 < sz) {j : Nat} (hj : j < ys.length) : ∃ p, o = some p ∧ p.block < w.heap.size ∧ F p.block ∧ ∀ q v, (enc ys[j])[q]? = some v → w.cell? ((p.add (j * sz)).add q) = some v := by
 have h0 : (ys.map enc).flatten[j * sz + 0]? = some ((enc ys[j])[0]'(by rw [hsz]; exact hpos)) := by rw [flatten_at ys hsz hj hpos]; exact List.getElem?_eq_getElem _
 obtain ⟨p, hp, hF, hlt, _⟩ := h _ _ h0
 refine ⟨p, hp, hlt, hF, fun q v hv => ?_⟩
 have hq : q < sz := by
  have := (List.getElem?_eq_some_iff.1 hv).1
  rwa [hsz] at this
 have h1 : (ys.map enc).flatten[j * sz + q]? = some v := by rw [flatten_at ys hsz hj hq]; exact hv
 obtain ⟨p', hp', _, _, hc⟩ := h _ _ h1
 rw [hp] at hp'
 injection hp' with hp'
 subst hp'
 rw [add_add]; exact hc
end
end Go.Proofs.YtkbikekbaboclaaGreat.V
set_option linter.unusedVariables false
set_option linter.unusedSimpArgs false
namespace Go.Proofs.YtkbikekbaboclaaGreat.V
open Go Go.Proofs Go.RowKit
abbrev RowD := Option Addr × Nat × List Int
def encR (x : RowD) : Value := .slice x.1 x.2.2.length x.2.1
def wid (zs : List RowD) : Nat := (zs[0]?.map (·.2.2.length)).getD 0
def sameL (zs : List RowD) : Bool := zs.all fun z => decide (z.2.2.length = wid zs)
theorem wid_pos {zs : List RowD} (h : 0 < zs.length) : wid zs = zs[0].2.2.length := by unfold wid; rw [List.getElem?_eq_getElem h]; rfl
theorem same_yes {zs : List RowD} (h : ∀ z ∈ zs, z.2.2.length = wid zs) : sameL zs = true := by
 unfold sameL; rw [List.all_eq_true]; exact fun z hz => by simpa using h z hz
theorem same_all {zs : List RowD} (h : sameL zs = true) : ∀ z ∈ zs, z.2.2.length = wid zs := fun z hz => by
 have := List.all_eq_true.1 h z hz; simpa using this
theorem sum_bd {b : Int} : ∀ {l : List Int}, (∀ x ∈ l, -b ≤ x ∧ x ≤ b) → -(b * l.length) ≤ l.sum ∧ l.sum ≤ b * l.length
 | [], _ => by simp
 | x :: r, h => by
  have ih := sum_bd (l := r) (fun y hy => h y (by simp [hy]))
  have hx := h x (by simp)
  have e : b * ((x :: r).length : Int) = b * r.length + b := by simp [Int.mul_add]
  rw [e, List.sum_cons]
  omega
theorem sum_snoc (l : List Int) (x : Int) : (l ++ [x]).sum = l.sum + x := by simp
theorem mul_bd {A B x y : Int} (h1 : -A ≤ x) (h2 : x ≤ A) (h3 : -B ≤ y) (h4 : y ≤ B) : -(A * B) ≤ x * y ∧ x * y ≤ A * B := by
 have a1 := Int.mul_nonneg (show 0 ≤ A - x by omega) (show 0 ≤ B + y by omega)
 have a2 := Int.mul_nonneg (show 0 ≤ A + x by omega) (show 0 ≤ B - y by omega)
 have a3 := Int.mul_nonneg (show 0 ≤ A - x by omega) (show 0 ≤ B - y by omega)
 have a4 := Int.mul_nonneg (show 0 ≤ A + x by omega) (show 0 ≤ B + y by omega)
 simp only [Int.sub_mul, Int.add_mul, Int.mul_sub, Int.mul_add] at a1 a2 a3 a4
 omega
def maxL : List Int → Int
 | [] => 0
 | [x] => x
 | x :: y :: r => if x > maxL (y :: r) then x else maxL (y :: r)
theorem maxL_is : ∀ {l : List Int}, l ≠ [] → maxL l ∈ l ∧ ∀ x ∈ l, x ≤ maxL l
 | [], h => absurd rfl h
 | [x], _ => by simp [maxL]
 | x :: y :: r, _ => by
  obtain ⟨h1, h2⟩ := maxL_is (l := y :: r) (by simp)
  unfold maxL
  split
  ·refine ⟨by simp, fun z hz => ?_⟩
   rcases List.mem_cons.1 hz with rfl | hz
   ·omega
   ·have := h2 z hz; omega
  ·refine ⟨List.mem_cons_of_mem _ h1, fun z hz => ?_⟩
   rcases List.mem_cons.1 hz with rfl | hz
   ·omega
   ·exact h2 z hz
theorem maxL_uniq {l : List Int} {m : Int} (h1 : m ∈ l) (h2 : ∀ x ∈ l, x ≤ m) : m = maxL l := by
 obtain ⟨a, b⟩ := maxL_is (l := l) (fun h => by subst h; simp at h1)
 have := h2 _ a
 have := b _ h1
 omega
end Go.Proofs.YtkbikekbaboclaaGreat.V
set_option linter.unusedVariables false
set_option linter.unusedSimpArgs false
namespace Go.Proofs.YtkbikekbaboclaaGreat.Vecs
open Go Go.Proofs V Vc Num Go.RowKit
section
variable {w : World} {oa ob : Option Addr} {ca cb : Nat} {xs ys : List Int} {F G : Nat → Prop}
end
end Go.Proofs.YtkbikekbaboclaaGreat.Vecs
set_option linter.unusedVariables false
set_option linter.unusedSimpArgs false
namespace Go.Proofs.YtkbikekbaboclaaGreat.Norm
open Go Go.Proofs V Vc Num Go.RowKit
section
variable {w : World} {oa ob : Option Addr} {ca cb : Nat} {xs ys : List Int} {F G : Nat → Prop}
end
end Go.Proofs.YtkbikekbaboclaaGreat.Norm
set_option linter.unusedVariables false
set_option linter.unusedSimpArgs false
namespace Go.Proofs.YtkbikekbaboclaaGreat.Soft
open Go Go.Proofs V Vc Num Go.RowKit
section
variable {w : World} {oa ob : Option Addr} {ca cb : Nat} {xs ys : List Int} {F G : Nat → Prop}
end
end Go.Proofs.YtkbikekbaboclaaGreat.Soft
set_option linter.unusedVariables false
set_option linter.unusedSimpArgs false
namespace Go.Proofs.YtkbikekbaboclaaGreat.Norm
open Go Go.Proofs V Vc Num Go.RowKit
def sqs (xs : List Int) : List Int := xs.map fun x => sat x * sat x
theorem sq_le (x : Int) : 0 ≤ sat x * sat x ∧ sat x * sat x ≤ 1073676289 := by
 have h := sat_le x
 refine ⟨?_, (mul_le_of (m := 32767) (n := 32767) (by omega) h h).2⟩
 rcases Int.le_total 0 (sat x) with h | h
 ·exact Int.mul_nonneg h h
 ·exact Int.mul_nonneg_of_nonpos_of_nonpos h h
theorem sqs_sum {xs : List Int} (hl : xs.length ≤ 1000000) : sumC (sqs xs) = (sqs xs).sum ∧ 0 ≤ (sqs xs).sum ∧ (sqs xs).sum ≤ 1073741824 * xs.length := by
 have h := sumC_sum (b := 1073741824) (by omega) (sqs xs) (fun x hx => by
  unfold sqs at hx
  obtain ⟨y, _, rfl⟩ := List.mem_map.1 hx
  have := sq_le y; omega) (by simp [sqs]; omega) (by omega)
 have h0 : 0 ≤ (sqs xs).sum := by
  have : ∀ l : List Int, (∀ x ∈ l, 0 ≤ x) → 0 ≤ l.sum := fun l => by
   induction l with
   | nil => intro _; simp
   | cons x r ih => intro h; rw [List.sum_cons]; have := h x (by simp); have := ih (fun y hy => h y (by simp [hy])); omega
  exact this _ (fun x hx => by
   unfold sqs at hx
   obtain ⟨y, _, rfl⟩ := List.mem_map.1 hx
   exact (sq_le y).1)
 have hlen : (sqs xs).length = xs.length := by simp [sqs]
 rw [hlen] at h
 exact ⟨h.1, h0, h.2.2⟩
theorem div_nn {a b : Int} (ha : 0 ≤ a) (hb : 0 ≤ b) : div a b = a / b := by
 unfold div
 by_cases h : b = 0
 ·subst h; simp
 ·rw [if_neg h, if_neg (by omega), Int.fdiv_eq_ediv_of_nonneg _ hb]
def rootL (xs : List Int) : Int := root ((sqs xs).sum / xs.length) + 1
theorem rootL_le {xs : List Int} (hl : xs.length ≤ 1000000) : 1 ≤ rootL xs ∧ rootL xs ≤ 32769 := by
 obtain ⟨h1, h2, h3⟩ := sqs_sum hl
 have hm0 : 0 ≤ (sqs xs).sum / xs.length := Int.ediv_nonneg h2 (by omega)
 have hm : (sqs xs).sum / xs.length ≤ 1073741824 := by
  by_cases h : (xs.length : Int) = 0
  ·rw [h]; simp
  ·have h4 := Int.ediv_mul_le (sqs xs).sum h
   apply Int.le_of_not_gt; intro hh
   have := Int.mul_le_mul_of_nonneg_right (show (1073741825 : Int) ≤ (sqs xs).sum / xs.length by omega) (show 0 ≤ (xs.length : Int) by omega)
   omega
 obtain ⟨r0, r1, r2⟩ := root_spec hm0
 unfold rootL
 refine ⟨by omega, ?_⟩
 apply Int.le_of_not_gt; intro hh
 have := Int.mul_le_mul (show 32769 ≤ root ((sqs xs).sum / xs.length) by omega) (show 32769 ≤ root ((sqs xs).sum / xs.length) by omega) (by omega) r0
 omega
def ofE (r g x : Int) : Int := sat (Int.tdiv (sat x * (64 + clamp g (-128) 127)) r)
def ofL (gs xs : List Int) : List Int := if gs.length = xs.length then List.zipWith (ofE (rootL xs)) gs xs else []
theorem ofL_len {gs xs : List Int} (h : gs.length = xs.length) : (ofL gs xs).length = xs.length := by unfold ofL; rw [if_pos h]; simp [h]
theorem ofL_at {gs xs : List Int} (h : gs.length = xs.length) {j : Nat} (hj : j < xs.length) : (ofL gs xs)[j]'(by rw [ofL_len h]; exact hj) = ofE (rootL xs) (gs[j]'(by omega)) xs[j] := by
 unfold ofL; simp [h]
theorem ofE_wrap {r g x : Int} : IntKind.i64.wrap (Int.tdiv (IntKind.i64.wrap (sat x * IntKind.i64.wrap (64 + clamp g (-128) 127))) r) = Int.tdiv (sat x * (64 + clamp g (-128) 127)) r := by
 have hs := sat_le x
 have hg := clamp_le (x := g) (low := -128) (high := 127) (by omega)
 rw [wrap_id (x := 64 + clamp g (-128) 127) (by omega) (by omega)]
 have hp := mul_le_of (m := 32767) (n := 191) (by omega) hs (show -191 ≤ 64 + clamp g (-128) 127 ∧ 64 + clamp g (-128) 127 ≤ 191 by omega)
 generalize sat x * (64 + clamp g (-128) 127) = m at hp
 rw [wrap_id (x := m) (by omega) (by omega)]
 have hd : (Int.tdiv m r).natAbs ≤ m.natAbs := by rw [Int.natAbs_tdiv]; exact Nat.div_le_self _ _
 rw [wrap_id (by omega) (by omega)]
section
variable {w : World} {og ox : Option Addr} {cg cx : Nat} {gs xs : List Int} {F G : Nat → Prop}
theorem Root_spec (hx : Rd w ox (xs.map (.int .i64)) G) (hl : xs.length ≤ 1000000) :
  Calls Tryz.prog i_norm_Root #[.slice ox xs.length cx] w (Ret fun v w' => v = .int .i64 (rootL xs) ∧ Ch Non w w') := by
 refine norm_Root.calls _ _ _ ?_
 unfold norm_Root.vc
 refine ⟨fun o n c i k w' => ∃ j : Nat, i = j ∧ j ≤ xs.length ∧ k = xs.length - j ∧ n = j ∧ Own w' t_int 1 o n c ((sqs (xs.take j)).map (.int .i64)) (New w w') ∧ Ch Non w w', ⟨_, 0, rfl, Nat.zero_le _, rfl, rfl, Own.nil _ _ _ _, Ch.refl _ _⟩, ?_⟩
 rintro jk o n c i k w1 ⟨j, rfl, hj, rfl, rfl, ho, hc⟩
 refine ⟨fun hlt => ?_, fun hge => ?_⟩
 ·have hlt : n < xs.length := by simpa using hlt
  refine ⟨⟨by omega, by omega⟩, (hx.keepN hc).at (j := (n : Int).toNat * 1) (v := .int .i64 xs[n]) (by simp [hlt]) fun p hp => ⟨xs[n], hp, ?_⟩⟩
  refine step_call (Sat_spec w1 _) ?_
  rintro v w2 ⟨rfl, rfl⟩
  refine ⟨_, rfl, fun w3 e3 => ?_⟩
  have hq := sq_le xs[n]
  rw [wrap_id (by omega) (by omega)] at e3
  obtain ⟨o', c', w4, hr, ho4, hc4⟩ := Own.pushT el_S_int ho t_S_int _ e3 rfl (by unfold maxLen; omega) (by omega)
  have hsn : sqs (xs.take n) ++ [sat xs[n] * sat xs[n]] = sqs (xs.take (n + 1)) := by unfold sqs; rw [take_snoc xs n hlt, List.map_append]; rfl
  rw [hsn] at ho4
  refine ⟨o', n + 1, c', w4, hr, xs.length - (n + 1), by omega, n + 1, by rw [wrap_id (by omega) (by omega)]; rfl, hlt, rfl, rfl, ho4.mono (fun i _ hi => New.ext hi hc.size hc4.size), Ch.newN hc hc4⟩
 ·have : n = xs.length := by simp at hge; omega
  subst this
  rw [List.take_length] at ho
  obtain ⟨s1, s2, s3⟩ := sqs_sum hl
  have hlen : (sqs xs).length = xs.length := by simp [sqs]
  have hm := Mean_spec (c := c) ho.rd (by rw [hlen]; omega)
  rw [hlen] at hm
  refine step_call hm ?_
  rintro v w2 ⟨rfl, rfl⟩
  have hd : div (sumC (sqs xs)) xs.length = (sqs xs).sum / xs.length := by rw [s1, div_nn s2 (by omega)]
  have hrt := rootL_le hl
  have hdi : inI ((sqs xs).sum / xs.length) := by
   have h1 := Int.ediv_nonneg s2 (show 0 ≤ (xs.length : Int) by omega)
   have h2 := Int.ediv_le_self (xs.length : Int) s2
   exact ⟨by omega, by omega⟩
  refine ⟨_, rfl, ?_⟩
  rw [hd]
  refine step_call (Sqrt_spec _ hdi) ?_
  rintro v w3 ⟨rfl, rfl⟩
  exact ⟨_, rfl, by rw [wrap_id (by unfold rootL at hrt; omega) (by unfold rootL at hrt; omega)]; rfl, hc⟩
theorem Of_spec (hg : Rd w og (gs.map (.int .i64)) F) (hx : Rd w ox (xs.map (.int .i64)) G) (hl : xs.length ≤ 1000000) :
  Calls Tryz.prog i_norm_Of #[.slice og gs.length cg, .slice ox xs.length cx] w (Ret fun v w' => ∃ (o : Option Addr) (c : Nat), v = .slice o (ofL gs xs).length c ∧ Own w' t_int 1 o (ofL gs xs).length c ((ofL gs xs).map (.int .i64)) (New w w') ∧ Ch Non w w') := by
 refine norm_Of.calls _ _ _ _ _ _ ?_
 unfold norm_Of.vc
 refine ⟨fun h => ?_, fun h => ?_⟩
 ·have h : gs.length ≠ xs.length := by simp at h; omega
  have : ofL gs xs = [] := by unfold ofL; rw [if_neg h]
  rw [this]
  exact ⟨none, 0, rfl, Own.nil _ _ _ _, Ch.refl _ _⟩
 have h : gs.length = xs.length := by simp at h; omega
 have hpl := ofL_len h
 have hrt := rootL_le hl
 refine step_call (Root_spec hx hl) ?_
 rintro v w0 ⟨rfl, hc0⟩
 refine ⟨_, rfl, fun o n c i k w' => ∃ j : Nat, i = j ∧ j ≤ xs.length ∧ k = xs.length - j ∧ n = j ∧ Own w' t_int 1 o n c (((ofL gs xs).take j).map (.int .i64)) (New w w') ∧ Ch Non w w', ⟨_, 0, rfl, Nat.zero_le _, rfl, rfl, Own.nil _ _ _ _, hc0⟩, ?_⟩
 clear hc0
 rintro jk o n c i k w1 ⟨j, rfl, hj, rfl, rfl, ho, hc⟩
 refine ⟨fun hlt => ?_, fun hge => ?_⟩
 ·have hlt : n < xs.length := by simpa using hlt
  refine ⟨⟨by omega, by omega⟩, (hx.keepN hc).at (j := (n : Int).toNat * 1) (v := .int .i64 xs[n]) (by simp [hlt]) fun p hp => ⟨xs[n], hp, ⟨by omega, by omega⟩, (hg.keepN hc).at (j := (n : Int).toNat * 1) (v := .int .i64 (gs[n]'(by omega))) (by simp [show n < gs.length by omega]) fun p2 hp2 => ⟨gs[n]'(by omega), hp2, ?_⟩⟩⟩
  refine step_call (Clamp_spec w1 _ _ _) ?_
  rintro v w2 ⟨rfl, rfl⟩
  refine ⟨_, rfl, ?_⟩
  refine step_call (Sat_spec _ _) ?_
  rintro v w3 ⟨rfl, rfl⟩
  refine ⟨_, rfl, by omega, ?_⟩
  refine step_call (Sat_spec _ _) ?_
  rintro v w4 ⟨rfl, rfl⟩
  refine ⟨_, rfl, fun w5 e5 => ?_⟩
  rw [ofE_wrap] at e5
  have hv : sat (Int.tdiv (sat xs[n] * (64 + clamp (gs[n]'(by omega)) (-128) 127)) (rootL xs)) = (ofL gs xs)[n]'(by omega) := (ofL_at h hlt).symm
  rw [hv] at e5
  obtain ⟨o', c', w6, hr, ho6, hc6⟩ := Own.pushT el_S_int ho t_S_int _ e5 rfl (by unfold maxLen; omega) (by omega)
  rw [← List.take_succ_eq_append_getElem (by omega)] at ho6
  exact ⟨o', n + 1, c', w6, hr, xs.length - (n + 1), by omega, n + 1, by rw [wrap_id (by omega) (by omega)]; rfl, hlt, rfl, rfl, ho6.mono (fun i _ hi => New.ext hi hc.size hc6.size), Ch.newN hc hc6⟩
 ·have : n = xs.length := by simp at hge; omega
  subst this
  rw [← hpl, List.take_length] at ho
  exact ⟨o, c, by rw [hpl], ho, hc⟩
end
end Go.Proofs.YtkbikekbaboclaaGreat.Norm
set_option linter.unusedVariables false
set_option linter.unusedSimpArgs false
namespace Go.Proofs.YtkbikekbaboclaaGreat.Act
open Go Go.Proofs V Vc Num Go.RowKit
def tbl : List Int := [5, 8, 12, 19, 31, 47, 69, 97, 128, 159, 187, 209, 225, 237, 244, 248, 251]
theorem table_spec (w : World) : Calls Tryz.prog i_act_table #[] w (Ret fun v w' => v = .agg ((tbl.map (.int .i64)).toArray) ∧ Ch Non w w') := by
 refine act_table.calls ?_
 unfold act_table.vc
 intro w1 e1
 have hb := Blk.new e1
 refine ⟨⟨hb.ok 0 rfl, hb.ok 1 rfl, hb.ok 2 rfl, hb.ok 3 rfl, hb.ok 4 rfl, hb.ok 5 rfl, hb.ok 6 rfl, hb.ok 7 rfl, hb.ok 8 rfl, hb.ok 9 rfl, hb.ok 10 rfl, hb.ok 11 rfl, hb.ok 12 rfl, hb.ok 13 rfl, hb.ok 14 rfl, hb.ok 15 rfl, hb.ok 16 rfl⟩, fun w2 e2 => ?_⟩
 have hc : Blk w2 w.heap.size (tbl.map (.int .i64)) _ := hb.all (tbl.map (.int .i64)) rfl e2
 have hch : Ch Non w w2 := (Ch.alloc (F := (· = w.heap.size)) e1).same (Ch.sets (vs := tbl.map (.int .i64)) e2 rfl) |>.below (Nat.le_refl _) (fun i hi h => by omega) |> Ch.of_below
 exact ⟨_, _, _, _, _, _, _, _, _, _, _, _, _, _, _, _, _, ⟨hc.cell 0 rfl, hc.cell 1 rfl, hc.cell 2 rfl, hc.cell 3 rfl, hc.cell 4 rfl, hc.cell 5 rfl, hc.cell 6 rfl, hc.cell 7 rfl, hc.cell 8 rfl, hc.cell 9 rfl, hc.cell 10 rfl, hc.cell 11 rfl, hc.cell 12 rfl, hc.cell 13 rfl, hc.cell 14 rfl, hc.cell 15 rfl, hc.cell 16 rfl⟩, rfl, hch⟩
def place (n : Int) : Int := clamp (div n 32) (-8) 8 + 8
theorem place_le (n : Int) : 0 ≤ place n ∧ place n < 17 := by
 unfold place; have := clamp_le (x := div n 32) (low := -8) (high := 8) (by omega); omega
def gate (n : Int) : Int := tbl.getD (place n).toNat 0
theorem gate_at {n : Int} {k : Nat} (h : place n = k) (hk : k < tbl.length) : tbl[k] = gate n := by
 unfold gate; rw [h]; simp [List.getD, List.getElem?_eq_getElem hk]
theorem tbl_cell {w : World} {b T : Nat} (h : Blk w b (tbl.map (.int .i64)) T) {n k : Int} (hk : k = place n) : ∃ x : Int, x = gate n ∧ w.cell? ((⟨b, 0, none⟩ : Addr).add (k.toNat * 1)) = some (.int .i64 x) := by
 subst hk
 have hp := place_le n
 refine ⟨_, rfl, ?_⟩
 have hl : (place n).toNat < tbl.length := by show (place n).toNat < 17; omega
 have hg := gate_at (n := n) (k := (place n).toNat) (by omega) hl
 rw [add_at, ← hg]
 exact h.cell _ (by rw [List.getElem?_map, List.getElem?_eq_getElem (by omega)]; simp)
theorem Gate_spec (w : World) {n : Int} (hn : inI n) : Calls Tryz.prog i_act_Gate #[.int .i64 n] w (Ret fun v w' => v = .int .i64 (gate n) ∧ Ch Non w w') := by
 refine act_Gate.calls _ ?_
 unfold act_Gate.vc
 refine step_call (table_spec w) ?_
 rintro v w1 ⟨rfl, hc1⟩
 refine ⟨_, _, _, _, _, _, _, _, _, _, _, _, _, _, _, _, _, rfl, fun w2 e2 => ?_⟩
 have hb := Blk.new e2
 refine ⟨⟨hb.ok 0 rfl, hb.ok 1 rfl, hb.ok 2 rfl, hb.ok 3 rfl, hb.ok 4 rfl, hb.ok 5 rfl, hb.ok 6 rfl, hb.ok 7 rfl, hb.ok 8 rfl, hb.ok 9 rfl, hb.ok 10 rfl, hb.ok 11 rfl, hb.ok 12 rfl, hb.ok 13 rfl, hb.ok 14 rfl, hb.ok 15 rfl, hb.ok 16 rfl⟩, fun w3 e3 => ?_⟩
 have hb3 : Blk w3 w1.heap.size (tbl.map (.int .i64)) _ := hb.all (tbl.map (.int .i64)) rfl e3
 have hch : Ch Non w1 w3 := (Ch.alloc (F := (· = w1.heap.size)) e2).same (Ch.sets (vs := tbl.map (.int .i64)) e3 rfl) |>.below (Nat.le_refl _) (fun i hi h => by omega) |> Ch.of_below
 refine step_call (Div_spec w3 hn 32) ?_
 rintro v w4 ⟨rfl, rfl⟩
 refine ⟨_, rfl, ?_⟩
 refine step_call (Clamp_spec _ _ _ _) ?_
 rintro v w5 ⟨rfl, rfl⟩
 have hp := place_le n
 have hw : IntKind.i64.wrap (clamp (div n 32) (-8) 8 + 8) = place n := wrap_id (by show _ ≤ place n; omega) (by show place n ≤ _; omega)
 refine ⟨_, rfl, ?_, ?_⟩
 ·rw [hw]; exact hp
 ·obtain ⟨x, hx, hcell⟩ := tbl_cell hb3 hw
  exact ⟨x, hcell, by rw [hx], hc1.andN hch⟩
def thr (g n : Int) : Int := mul n (gate g) 8
def pairsL (gs xs : List Int) : List Int := if gs.length = xs.length then List.zipWith thr gs xs else []
theorem pairsL_len {gs xs : List Int} (h : gs.length = xs.length) : (pairsL gs xs).length = xs.length := by unfold pairsL; rw [if_pos h]; simp [h]
theorem pairsL_at {gs xs : List Int} (h : gs.length = xs.length) {j : Nat} (hj : j < xs.length) : (pairsL gs xs)[j]'(by rw [pairsL_len h]; exact hj) = thr (gs[j]'(by omega)) xs[j] := by
 unfold pairsL; simp [h]
section
variable {w : World} {og ox : Option Addr} {cg cx : Nat} {gs xs : List Int} {F G : Nat → Prop}
theorem Pairs_spec (hg : Rd w og (gs.map (.int .i64)) F) (hx : Rd w ox (xs.map (.int .i64)) G) (ig : ∀ x ∈ gs, inI x) (hl : xs.length ≤ 1000000) :
  Calls Tryz.prog i_act_Pairs #[.slice og gs.length cg, .slice ox xs.length cx] w (Ret fun v w' => ∃ (o : Option Addr) (c : Nat), v = .slice o (pairsL gs xs).length c ∧ Own w' t_int 1 o (pairsL gs xs).length c ((pairsL gs xs).map (.int .i64)) (New w w') ∧ Ch Non w w') := by
 refine act_Pairs.calls _ _ _ _ _ _ ?_
 unfold act_Pairs.vc
 refine ⟨fun h => ?_, fun h => ?_⟩
 ·have h : gs.length ≠ xs.length := by simp at h; omega
  have : pairsL gs xs = [] := by unfold pairsL; rw [if_neg h]
  rw [this]
  exact ⟨none, 0, rfl, Own.nil _ _ _ _, Ch.refl _ _⟩
 have h : gs.length = xs.length := by simp at h; omega
 have hpl := pairsL_len h
 refine ⟨fun o n c i k w' => ∃ j : Nat, i = j ∧ j ≤ xs.length ∧ k = xs.length - j ∧ n = j ∧ Own w' t_int 1 o n c (((pairsL gs xs).take j).map (.int .i64)) (New w w') ∧ Ch Non w w', ⟨_, 0, rfl, Nat.zero_le _, rfl, rfl, Own.nil _ _ _ _, Ch.refl _ _⟩, ?_⟩
 rintro jk o n c i k w1 ⟨j, rfl, hj, rfl, rfl, ho, hc⟩
 refine ⟨fun hlt => ?_, fun hge => ?_⟩
 ·have hlt : n < xs.length := by simpa using hlt
  refine ⟨⟨by omega, by omega⟩, (hx.keepN hc).at (j := (n : Int).toNat * 1) (v := .int .i64 xs[n]) (by simp [hlt]) fun p hp => ⟨xs[n], hp, ⟨by omega, by omega⟩, (hg.keepN hc).at (j := (n : Int).toNat * 1) (v := .int .i64 (gs[n]'(by omega))) (by simp [show n < gs.length by omega]) fun p2 hp2 => ⟨gs[n]'(by omega), hp2, ?_⟩⟩⟩
  refine step_call (Gate_spec w1 (ig _ (List.getElem_mem _))) ?_
  rintro v w2 ⟨rfl, hc2⟩
  refine ⟨_, rfl, ?_⟩
  refine step_call (Mul_spec w2 _ _ _) ?_
  rintro v w3 ⟨rfl, hc3⟩
  refine ⟨_, rfl, fun w4 e4 => ?_⟩
  have hc13 := hc2.andN hc3
  have hv : mul xs[n] (gate (gs[n]'(by omega))) 8 = (pairsL gs xs)[n]'(by omega) := (pairsL_at h hlt).symm
  rw [hv] at e4
  obtain ⟨o', c', w5, hr, ho5, hc5⟩ := Own.pushT el_S_int (ho.keepN hc13) t_S_int _ e4 rfl (by unfold maxLen; omega) (by omega)
  rw [← List.take_succ_eq_append_getElem (by omega)] at ho5
  have hc03 := hc.andN hc13
  refine ⟨o', n + 1, c', w5, hr, xs.length - (n + 1), by omega, n + 1, by rw [wrap_id (by omega) (by omega)]; rfl, hlt, rfl, rfl, ho5.mono (fun i _ hi => ?_), ?_⟩
  ·rcases hi with hi | hi
   ·exact ⟨hi.1, by have := hi.2; have := hc13.size; have := hc5.size; omega⟩
   ·exact ⟨by have := hi.1; have := hc03.size; omega, hi.2⟩
  ·exact hc03.trans hc5 (fun i hi hN => absurd hi (Nat.not_lt.2 hN.1))
 ·have : n = xs.length := by simp at hge; omega
  subst this
  rw [← hpl, List.take_length] at ho
  exact ⟨o, c, by rw [hpl], ho, hc⟩
end
end Go.Proofs.YtkbikekbaboclaaGreat.Act
set_option linter.unusedVariables false
set_option linter.unusedSimpArgs false
namespace Go.Proofs.YtkbikekbaboclaaGreat.V
open Go Go.Proofs Go.RowKit
inductive All2 {α β : Type} (R : α → β → Prop) : List α → List β → Prop
 | nil : All2 R [] []
 | cons {x y xs ys} : R x y → All2 R xs ys → All2 R (x :: xs) (y :: ys)
section
variable {α β γ : Type} {R S : α → β → Prop}
theorem All2.length : ∀ {xs : List α} {ys : List β}, All2 R xs ys → xs.length = ys.length
 | _, _, .nil => rfl
 | _, _, .cons _ h => by simp [All2.length h]
theorem All2.imp (h : ∀ x y, R x y → S x y) : ∀ {xs : List α} {ys : List β}, All2 R xs ys → All2 S xs ys
 | _, _, .nil => .nil
 | _, _, .cons a b => .cons (h _ _ a) (All2.imp h b)
theorem All2.get : ∀ {xs : List α} {ys : List β}, All2 R xs ys → ∀ (i : Nat) (h1 : i < xs.length) (h2 : i < ys.length), R xs[i] ys[i]
 | _, _, .cons a b, 0, _, _ => a
 | _, _, .cons a b, i + 1, h1, h2 => All2.get b i (by simpa using h1) (by simpa using h2)
theorem All2.append : ∀ {xs xs' : List α} {ys ys' : List β}, All2 R xs ys → All2 R xs' ys' → All2 R (xs ++ xs') (ys ++ ys')
 | _, _, _, _, .nil, k => k
 | _, _, _, _, .cons a b, k => .cons a (All2.append b k)
theorem All2.snoc {xs : List α} {ys : List β} {x : α} {y : β} (h : All2 R xs ys) (k : R x y) : All2 R (xs ++ [x]) (ys ++ [y]) := h.append (.cons k .nil)
theorem All2.set : ∀ {xs : List α} {ys : List β}, All2 R xs ys → ∀ (i : Nat) {x : α} {y : β}, R x y → All2 R (xs.set i x) (ys.set i y)
 | _, _, .nil, _, _, _, _ => .nil
 | _, _, .cons a b, 0, _, _, k => .cons k b
 | _, _, .cons a b, i + 1, _, _, k => .cons a (All2.set b i k)
end
def IntsV (w : World) (v : Value) (xs : List Int) (F : Nat → Prop) : Prop := ∃ (o : Option Addr) (c : Nat), v = .slice o xs.length c ∧ Rd w o (xs.map (.int .i64)) F
def RowsV (w : World) (v : Value) (xss : List (List Int)) (F : Nat → Prop) : Prop :=
 ∃ (o : Option Addr) (c : Nat) (vs : List Value), v = .slice o xss.length c ∧ Rd w o vs F ∧ All2 (fun u xs => IntsV w u xs F) vs xss
abbrev Ent := List (List Int) × List (List Int)
def EntV (w : World) (p : Value × Value) (e : Ent) (F : Nat → Prop) : Prop := RowsV w p.1 e.1 F ∧ RowsV w p.2 e.2 F
def pairE (p : Value × Value) : List Value := [p.1, p.2]
section
variable {w w' : World} {v : Value} {p : Value × Value} {e : Ent} {xs : List Int} {xss : List (List Int)} {F G : Nat → Prop}
theorem IntsV.keep (h : IntsV w v xs F) (hc : Ch G w w') (hd : ∀ i, i < w.heap.size → F i → ¬ G i) : IntsV w' v xs F := by
 obtain ⟨o, c, e, hr⟩ := h
 exact ⟨o, c, e, hr.keep hc hd⟩
theorem IntsV.mono (h : IntsV w v xs F) (hg : ∀ i, i < w.heap.size → F i → G i) : IntsV w v xs G := by
 obtain ⟨o, c, e, hr⟩ := h
 exact ⟨o, c, e, hr.mono hg⟩
theorem RowsV.keep (h : RowsV w v xss F) (hc : Ch G w w') (hd : ∀ i, i < w.heap.size → F i → ¬ G i) : RowsV w' v xss F := by
 obtain ⟨o, c, vs, e, hr, ha⟩ := h
 exact ⟨o, c, vs, e, hr.keep hc hd, ha.imp (fun _ _ k => k.keep hc hd)⟩
theorem RowsV.mono (h : RowsV w v xss F) (hg : ∀ i, i < w.heap.size → F i → G i) : RowsV w v xss G := by
 obtain ⟨o, c, vs, e, hr, ha⟩ := h
 exact ⟨o, c, vs, e, hr.mono hg, ha.imp (fun _ _ k => k.mono hg)⟩
theorem EntV.keep (h : EntV w p e F) (hc : Ch G w w') (hd : ∀ i, i < w.heap.size → F i → ¬ G i) : EntV w' p e F := ⟨h.1.keep hc hd, h.2.keep hc hd⟩
theorem EntV.mono (h : EntV w p e F) (hg : ∀ i, i < w.heap.size → F i → G i) : EntV w p e G := ⟨h.1.mono hg, h.2.mono hg⟩
theorem IntsV.keepN (h : IntsV w v xs F) (hc : Ch Non w w') : IntsV w' v xs F := h.keep hc (fun _ _ _ => id)
theorem RowsV.keepN (h : RowsV w v xss F) (hc : Ch Non w w') : RowsV w' v xss F := h.keep hc (fun _ _ _ => id)
theorem EntV.keepN (h : EntV w p e F) (hc : Ch Non w w') : EntV w' p e F := h.keep hc (fun _ _ _ => id)
theorem IntsV.nil (w : World) (F : Nat → Prop) : IntsV w (.slice none 0 0) [] F := ⟨none, 0, rfl, Rd.nil _ _ _⟩
theorem pairs_at (ps : List (Value × Value)) {j : Nat} (h : j < ps.length) : (ps.map pairE).flatten[j * 2]? = some ps[j].1 ∧ (ps.map pairE).flatten[j * 2 + 1]? = some ps[j].2 :=
 ⟨flatten_at (sz := 2) (q := 0) ps (fun _ => rfl) h (by omega), flatten_at (sz := 2) (q := 1) ps (fun _ => rfl) h (by omega)⟩
end
structure Build (W w : World) (T sz : Nat) (o : Option Addr) (n c : Nat) (cs : List Value) (F1 F2 : Nat → Prop) : Prop where
 own : Own w T sz o n c cs F1
 f1 : Foot W w F1
 f2 : Foot W w F2
 ap : Apart F1 F2
 ch : Ch Non W w
section
variable {P : Program} {W w w1 w' : World} {T sz n c t bytes : Nat} {o : Option Addr} {cs : List Value} {F1 F2 G : Nat → Prop}
theorem Build.nil (h : Ch Non W w) : Build W w T sz none 0 0 [] Non Non := ⟨Own.nil _ _ _ _, fun _ h => h.elim, fun _ h => h.elim, fun _ h => h.elim, h⟩
theorem Build.keepN (h : Build W w T sz o n c cs F1 F2) (hc : Ch Non w w') : Build W w' T sz o n c cs F1 F2 :=
 ⟨h.own.keepN hc, h.f1.le hc.size, h.f2.le hc.size, h.ap, h.ch.andN hc⟩
theorem Build.more (h : Build W w T sz o n c cs F1 F2) (hc : Ch Non w w') : Build W w' T sz o n c cs F1 (Ext F2 w w') :=
 ⟨h.own.keepN hc, h.f1.le hc.size, h.f2.ext h.ch hc.size, fun i h1 h2 => by
  rcases h2 with h2 | h2
  ·exact h.ap i h1 h2
  ·exact absurd (h.f1 i h1).2 (Nat.not_lt.2 h2.1), h.ch.andN hc⟩
theorem Build.push (el : Elem P t T sz bytes) (h : Build W w T sz o n c cs F1 F2) (ty : TypeId) {news : Array Value} (e1 : w1 = w.alloc (.cells news T (0, 0))) (hl : news.size = sz) (h1 : news.toList.all (·.oneCell') = true) (hn : n < 1000000) (hb : bytes ≤ 1000) :
  ∃ (o' : Option Addr) (c' : Nat) (w' : World) (F1' : Nat → Prop), (Builtin.append_ #[t, t] ty #[.slice o n c, .slice (some ⟨w.heap.size, 0, none⟩) 1 1]).run P w1 = .ok (.slice o' (n + 1) c') w' ∧ Build W w' T sz o' (n + 1) c' (cs ++ news.toList) F1' F2 ∧ Ch F1 w w' := by
 obtain ⟨o', c', w', hr, ho, hc⟩ := Own.push el h.own ty e1 hl h1 (by unfold maxLen; omega) (Nat.le_trans (Nat.mul_le_mul (show n + 1 ≤ 1000000 by omega) hb) (by omega))
 exact ⟨o', c', w', _, hr, ⟨ho, h.f1.ext h.ch hc.size, h.f2.le hc.size, h.ap.extL h.f2, h.f1.hi h.ch hc⟩, hc⟩
end
def MapI (P : Program) (w : World) (mb kt et : Nat) (f : Int → Int) (n : Nat) : Prop :=
 ∃ D : DataW Unit, w.ownsMap P kt (plainElem P et) mb n D ∧ Maps.IsMap D ∧ ∀ k, (Lit.int .i64 k).wf = true → D.atKey (.int .i64 k) (.lit (.int .i64 0)) = .lit (.int .i64 (f k))
def upd (f : Int → Int) (k v : Int) : Int → Int := fun x => if x = k then v else f x
section
variable {P : Program} {w w' : World} {mb t kt et n : Nat} {f : Int → Int} {G : Nat → Prop}
theorem MapI.made (e : w' = w.alloc (.map #[] 0)) : MapI P w' w.heap.size kt et (fun _ => 0) 0 := by
 subst e
 exact ⟨.map [], World.ownsMap_made _ _ _ _, Maps.isMap_empty, fun k _ => WideAt.atKey_none _ (by simp)⟩
theorem MapI.lt (h : MapI P w mb kt et f n) : mb < w.heap.size := by obtain ⟨D, h, _⟩ := h; exact h.lt
theorem MapI.keep (h : MapI P w mb kt et f n) (hc : Ch G w w') (hd : ¬ G mb) : MapI P w' mb kt et f n := by
 have hlt := h.lt
 obtain ⟨D, ⟨es, clock, hb, F, hs, hD⟩, h2, h3⟩ := h
 exact ⟨D, ⟨es, clock, (hc.block mb hlt hd).trans hb, F, hs, hD⟩, h2, h3⟩
theorem MapI.lookup (h : MapI P w mb kt et f n) (ht : P.underlying t = some (.map kt et)) (hk : P.underlying kt = some (.int .i64)) (he : P.underlying et = some (.int .i64)) (hz : ∀ w, (zeroValue et).run P w = .ok (.int .i64 0) w) {k : Int} (hw : (Lit.int .i64 k).wf = true) :
  (Instr.lookup t (.map (some mb)) (.int .i64 k) false).run P w = .ok (.int .i64 (f k)) w := by
 obtain ⟨D, h1, h2, h3⟩ := h
 obtain ⟨c, hr, hat, _⟩ := h1.lookup_int (Maps.int_keyed hk) ht he (hz w) (Maps.keyOf_int_mk hk hw)
 rw [h3 k hw] at hat
 injection hat with hat
 injection hat with _ hat
 rw [hat]; exact hr
theorem MapI.update (h : MapI P w mb kt et f n) (ht : P.underlying t = some (.map kt et)) (hk : P.underlying kt = some (.int .i64)) (he : P.underlying et = some (.int .i64)) (hn : n < maxLen) {k x : Int} (hw : (Lit.int .i64 k).wf = true) (hx : (Lit.int .i64 x).wf = true) :
  ∃ w', (Instr.mapUpdate t (.map (some mb)) (.int .i64 k) (.int .i64 x)).run P w = .ok () w' ∧ MapI P w' mb kt et (upd f k x) (n + 1) ∧ Ch (· = mb) w w' := by
 obtain ⟨D, h1, h2, h3⟩ := h
 obtain ⟨w', hr, ho, hg⟩ := h1.update (Maps.int_keyed hk) ht hn (Maps.keyOf_int_mk hk hw) (plainElem_int he hx)
 refine ⟨w', hr, ⟨_, ho, h2.put _ _, fun j hj => ?_⟩, Ch.grown hg (fun i hi => by injection hi with hi; exact hi.symm)⟩
 unfold upd
 by_cases e : j = k
 ·subst e
  rw [if_pos rfl]
  exact Maps.atKey_put_same h2 (by trivial) _ _
 ·rw [if_neg e, Maps.atKey_put_other (fun h => e (by injection h)), h3 j hj]
end
theorem wf_i64 {x : Int} (h1 : -9223372036854775808 ≤ x) (h2 : x ≤ 9223372036854775807) : (Lit.int .i64 x).wf = true := by
 simp only [Lit.wf, Bool.and_eq_true, decide_eq_true_eq]
 exact ⟨h1, h2⟩
theorem flatten_set {α : Type} {enc : α → List Value} {sz q : Nat} {v : Value} {y : α} (ys : List α) (hsz : ∀ y, (enc y).length = sz) {j : Nat} (hj : j < ys.length) (hy : enc y = (enc ys[j]).set q v) (hq : q < sz) :
  (ys.map enc).flatten.set (j * sz + q) v = ((ys.set j y).map enc).flatten := by
 induction ys generalizing j with
 | nil => simp at hj
 | cons x r ih =>
  cases j with
  | zero =>
   rw [Nat.zero_mul, Nat.zero_add, List.map_cons, List.flatten_cons, List.set_append_left _ _ (by rw [hsz]; exact hq)]
   have hy : enc y = (enc x).set q v := hy
   rw [List.set_cons_zero, List.map_cons, List.flatten_cons, hy]
  | succ j =>
   rw [List.map_cons, List.flatten_cons, List.set_append_right _ _ (by rw [hsz, Nat.succ_mul]; omega), hsz, show (j + 1) * sz + q - sz = j * sz + q by rw [Nat.succ_mul]; omega]
   rw [ih (j := j) (by simpa using hj) hy, List.set_cons_succ, List.map_cons, List.flatten_cons]
def Fam (w : World) (R : Nat → Nat → Prop) : Prop := (∀ k i, R k i → i < w.heap.size) ∧ ∀ j k, j ≠ k → Apart (R j) (R k)
def updF (R : Nat → Nat → Prop) (k : Nat) (w w' : World) : Nat → Nat → Prop := fun j => if j = k then Ext (R k) w w' else R j
section
variable {w w' : World} {R : Nat → Nat → Prop}
theorem Fam.le (h : Fam w R) (hs : w.heap.size ≤ w'.heap.size) : Fam w' R := ⟨fun k i hi => Nat.lt_of_lt_of_le (h.1 k i hi) hs, h.2⟩
theorem Fam.upd (h : Fam w R) (hs : w.heap.size ≤ w'.heap.size) (k : Nat) : Fam w' (updF R k w w') := by
 have hx : ∀ i, Ext (R k) w w' i → i < w'.heap.size := fun i hi => by
  rcases hi with hi | hi
  ·exact Nat.lt_of_lt_of_le (h.1 k i hi) hs
  ·exact hi.2
 refine ⟨fun j i hi => ?_, fun a b hab i h1 h2 => ?_⟩
 ·unfold updF at hi
  split at hi
  ·exact hx i hi
  ·exact Nat.lt_of_lt_of_le (h.1 j i hi) hs
 ·unfold updF at h1 h2
  split at h1
  ·rename_i ha
   rw [if_neg (by omega)] at h2
   rcases h1 with h1 | h1
   ·exact h.2 k b (by omega) i h1 h2
   ·exact absurd (h.1 b i h2) (Nat.not_lt.2 h1.1)
  ·split at h2
   ·rename_i hb
    rcases h2 with h2 | h2
    ·exact h.2 a k (by omega) i h1 h2
    ·exact absurd (h.1 a i h1) (Nat.not_lt.2 h2.1)
   ·exact h.2 a b hab i h1 h2
theorem updF_same (k : Nat) : updF R k w w' k = Ext (R k) w w' := by unfold updF; rw [if_pos rfl]
theorem updF_other {j k : Nat} (h : j ≠ k) : updF R k w w' j = R j := by unfold updF; rw [if_neg h]
end
end Go.Proofs.YtkbikekbaboclaaGreat.V
set_option linter.unusedVariables false
set_option linter.unusedSimpArgs false
namespace Go.Proofs.YtkbikekbaboclaaGreat.Vecs
open Go Go.Proofs V Vc Num Go.RowKit
def goodB (r c : Int) (n : Nat) : Bool := decide (1 ≤ r ∧ r ≤ 64 ∧ 1 ≤ c ∧ c ≤ 64 ∧ (n : Int) = r * c)
theorem goodB_nat {r c : Int} {n : Nat} (h : goodB r c n = true) : ∃ R C : Nat, r = R ∧ c = C ∧ 1 ≤ R ∧ R ≤ 64 ∧ 1 ≤ C ∧ C ≤ 64 ∧ n = R * C := by
 have h := of_decide_eq_true h
 refine ⟨r.toNat, c.toNat, by omega, by omega, by omega, by omega, by omega, by omega, ?_⟩
 obtain ⟨R, rfl⟩ : ∃ R : Nat, r = R := ⟨r.toNat, by omega⟩
 obtain ⟨C, rfl⟩ : ∃ C : Nat, c = C := ⟨c.toNat, by omega⟩
 have := h.2.2.2.2
 simp only [Int.toNat_natCast]
 exact_mod_cast this
theorem mul64 {r c : Int} (h1 : 1 ≤ r) (h2 : r ≤ 64) (h3 : 1 ≤ c) (h4 : c ≤ 64) : 1 ≤ r * c ∧ r * c ≤ 4096 := by
 have a := Int.mul_le_mul h2 h4 (by omega) (by omega)
 have b := Int.mul_le_mul h1 h3 (by omega) (by omega)
 omega
theorem isSide_spec (w : World) (n : Int) : Calls Tryz.prog i_vecs_isSide #[.int .i64 n] w (Ret fun v w' => v = .bool (decide (1 ≤ n ∧ n ≤ 64)) ∧ w' = w) := by
 refine vecs_isSide.calls _ ?_
 unfold vecs_isSide.vc
 refine ⟨fun h => ⟨?_, rfl⟩, fun h => ⟨?_, rfl⟩⟩
 ·have h : n ≥ 1 := by simpa using h
  rw [decide_eq_decide.2 (show n ≤ 64 ↔ 1 ≤ n ∧ n ≤ 64 by omega)]
 ·have h : ¬ n ≥ 1 := by simpa using h
  rw [decide_eq_false (by omega)]
section
variable {w : World} {r c : Int} {o : Option Addr} {n cap : Nat} {ds vs : List Int} {F G : Nat → Prop} {ov : Option Addr} {cv : Nat}
theorem Good_spec (w : World) (r c : Int) (o : Option Addr) (n cap : Nat) : Calls Tryz.prog i_vecs_Good #[.agg #[.int .i64 r, .int .i64 c, .slice o n cap]] w (Ret fun v w' => v = .bool (goodB r c n) ∧ Ch Non w w') := by
 refine vecs_Good.calls _ _ _ _ _ ?_
 unfold vecs_Good.vc
 intro w1 e1
 have hB := Blk.new e1
 have hC : Ch Non w w1 := Ch.alloc e1
 refine ⟨_, hB.cell 0 rfl, ?_⟩
 refine step_call (isSide_spec w1 _) ?_
 rintro v w2 ⟨rfl, rfl⟩
 refine ⟨_, rfl, fun h1 => ⟨_, hB.cell 1 rfl, ?_⟩, fun h1 => ⟨?_, hC⟩⟩
 ·refine step_call (isSide_spec w2 _) ?_
  rintro v w3 ⟨rfl, rfl⟩
  have h1 := of_decide_eq_true h1
  refine ⟨_, rfl, fun h2 => ⟨_, _, _, hB.cell 2 rfl, _, hB.cell 0 rfl, _, hB.cell 1 rfl, ?_, hC⟩, fun h2 => ⟨?_, hC⟩⟩
  ·have h2 := of_decide_eq_true h2
   have hm := mul64 h1.1 h1.2 h2.1 h2.2
   rw [wrap_id (by omega) (by omega)]
   show Value.bool (decide ((n : Int) = r * c)) = Value.bool (decide _)
   congr 1
   exact decide_eq_decide.2 ⟨fun h => ⟨h1.1, h1.2, h2.1, h2.2, h⟩, fun h => h.2.2.2.2⟩
  ·have h2 := of_decide_eq_false h2
   unfold goodB; rw [decide_eq_false (fun h => h2 ⟨h.2.2.1, h.2.2.2.1⟩)]
 ·have h1 := of_decide_eq_false h1
  unfold goodB; rw [decide_eq_false (fun h => h1 ⟨h.1, h.2.1⟩)]
def numsB (s : ByteArray) : List Int := s.data.toList.map fun b => IntKind.i8.wrap (b.toNat : Int)
theorem numsB_len (s : ByteArray) : (numsB s).length = s.size := by unfold numsB; simp
def rowAt (ds : List Int) (C i : Nat) : List Int := (ds.drop (i * C)).take C
theorem rowAt_len {R C i : Nat} (h : ds.length = R * C) (hi : i < R) : (rowAt ds C i).length = C := by
 unfold rowAt
 have : (i + 1) * C ≤ R * C := Nat.mul_le_mul_right _ hi
 rw [Nat.succ_mul] at this
 simp; omega
def rowT (ds : List Int) (r c at' : Int) : List Int := if goodB r c ds.length && decide (0 ≤ at' ∧ at' < r) then rowAt ds c.toNat at'.toNat else []
end
end Go.Proofs.YtkbikekbaboclaaGreat.Vecs
set_option linter.unusedVariables false
set_option linter.unusedSimpArgs false
namespace Go.Proofs.YtkbikekbaboclaaGreat.Vecs
open Go Go.Proofs V Vc Num Go.RowKit
section
variable {w : World} {r c : Int} {o : Option Addr} {n cap : Nat} {ds vs xs ys : List Int} {F G : Nat → Prop} {ov oa ob : Option Addr} {cv ca cb : Nat}
theorem Row_spec (hd : Rd w o (ds.map (.int .i8)) F) (hcap : ds.length ≤ cap) (h8 : ∀ x ∈ ds, -128 ≤ x ∧ x ≤ 127) (hl : ds.length ≤ 1000000) (r c at' : Int) :
  Calls Tryz.prog i_vecs_Table_Row #[.agg #[.int .i64 r, .int .i64 c, .slice o ds.length cap], .int .i64 at'] w (Ret fun v w' => ∃ (A : Option Addr) (C : Nat), v = .slice A (rowT ds r c at').length C ∧ Gr Non w w' t_int 1 A (rowT ds r c at').length C ((rowT ds r c at').map (.int .i64))) := by
 refine vecs_Table_Row.calls _ _ _ _ _ _ ?_
 unfold vecs_Table_Row.vc
 intro w1 e1
 have hB1 := Blk.new e1
 have hC1 : Ch Non w w1 := Ch.alloc e1
 refine ⟨_, _, _, _, _, ⟨hB1.cell 0 rfl, hB1.cell 1 rfl, hB1.cell 2 rfl⟩, ?_⟩
 refine step_call (Good_spec w1 r c o ds.length cap) ?_
 rintro v w2 ⟨rfl, hC2⟩
 have hB2 := hB1.keepN hC2
 have hC2 := hC1.andN hC2
 have no : (goodB r c ds.length && decide (0 ≤ at' ∧ at' < r)) = false → ∃ (A : Option Addr) (C : Nat), Value.slice none 0 0 = Value.slice A (rowT ds r c at').length C ∧ Gr Non w w2 t_int 1 A (rowT ds r c at').length C ((rowT ds r c at').map (.int .i64)) := fun h => by
  unfold rowT; rw [h]; exact ⟨none, 0, rfl, Gr.nil hC2⟩
 refine ⟨_, rfl, fun hb => no (by rw [show goodB r c ds.length = false by simpa using hb]; rfl), fun hb => ?_⟩
 have hb : goodB r c ds.length = true := by simpa using hb
 refine ⟨fun h => no (by rw [hb, decide_eq_false (by have := of_decide_eq_true h; omega)]; rfl), fun h1 => ⟨_, hB2.cell 0 rfl, fun h => no (by rw [hb, decide_eq_false (by have := of_decide_eq_true h; omega)]; rfl), fun h2 => ?_⟩⟩
 have h1 := of_decide_eq_false h1
 have h2 := of_decide_eq_false h2
 obtain ⟨R, C, rfl, rfl, r1, r2, c1, c2, hn⟩ := goodB_nat hb
 obtain ⟨i, rfl⟩ : ∃ i : Nat, at' = i := ⟨at'.toNat, by omega⟩
 have hi : i < R := by omega
 have hle : (i + 1) * C ≤ R * C := Nat.mul_le_mul_right _ hi
 have hRC : R * C ≤ 64 * 64 := Nat.mul_le_mul r2 c2
 have hsu : (i + 1) * C = i * C + C := Nat.succ_mul i C
 have e1' : IntKind.i64.wrap ((i : Int) * (C : Int)) = ((i * C : Nat) : Int) := by rw [← Int.natCast_mul, wrap_id (by omega) (by omega)]
 have e2' : IntKind.i64.wrap (IntKind.i64.wrap ((i : Int) + 1) * (C : Int)) = (((i + 1) * C : Nat) : Int) := by
  rw [wrap_id (x := (i : Int) + 1) (by omega) (by omega), show ((i : Int) + 1) = ((i + 1 : Nat) : Int) by omega, ← Int.natCast_mul, wrap_id (by omega) (by omega)]
 refine ⟨_, _, _, hB2.cell 2 rfl, _, hB2.cell 1 rfl, _, hB2.cell 1 rfl, ?_⟩
 rw [e1', e2', Int.toNat_natCast, Int.toNat_natCast, show (i + 1) * C - i * C = C by omega]
 have hrow : rowT ds (R : Int) (C : Int) (i : Int) = rowAt ds C i := by
  unfold rowT; rw [hb, decide_eq_true (by omega)]; rfl
 rw [hrow]
 have hrl : (rowAt ds C i).length = C := rowAt_len hn hi
 have hs : Rd w (if cap = i * C then o else o.map (·.add (i * C * 1))) ((rowAt ds C i).map (.int .i8)) F := by
  have := hd.slice (c := cap) (sz := 1) (by simpa using hcap) (i * C) C
  rw [Nat.mul_one, Nat.mul_one, ← List.map_drop, ← List.map_take] at this
  rw [Nat.mul_one]; exact this
 have hmem : ∀ x ∈ rowAt ds C i, -128 ≤ x ∧ x ≤ 127 := fun x hx => h8 x (List.mem_of_mem_drop (List.mem_of_mem_take hx))
 generalize rowAt ds C i = L at hrl hs hmem ⊢
 refine ⟨⟨by omega, by omega, by omega⟩, fun A j CC k x w' => k = j ∧ j ≤ L.length ∧ x = L.length - j ∧ Gr Non w w' t_int 1 A j CC ((L.take j).map (.int .i64)), ⟨_, rfl, Nat.zero_le _, rfl, Gr.nil hC2⟩, ?_⟩
 rintro jk A j CC k x w3 ⟨rfl, hj, rfl, hg⟩
 refine ⟨fun hlt => ?_, fun hge => ?_⟩
 ·have hlt : j < L.length := by simp at hlt; omega
  have hm := hmem _ (List.getElem_mem hlt)
  refine ⟨⟨by omega, by omega⟩, (hs.keepN hg.2).at (j := (j : Int).toNat * 1) (v := .int .i8 L[j]) (by simp [hlt]) fun p hp => ⟨_, hp, fun w4 e4 => ?_⟩⟩
  rw [wrap_id (by omega) (by omega)] at e4
  obtain ⟨A', C', w5, hr, hg5, _⟩ := hg.next el_S_int t_S_int hlt (by omega) e4 rfl rfl (by omega)
  exact ⟨A', _, C', w5, hr, L.length - (j + 1), by omega, by rw [wrap_id (by omega) (by omega)]; rfl, hlt, rfl, hg5⟩
 ·have : j = L.length := by simp at hge; omega
  subst this
  rw [List.take_length] at hg
  exact ⟨A, CC, rfl, hg⟩
def timesL (ds : List Int) (R C : Nat) (vs : List Int) (s : Int) : List Int := (List.range R).map fun i => sat (shift (dotC (rowAt ds C i) vs) s)
def timesOk (ds : List Int) (r c : Int) (vs : List Int) : Bool := goodB r c ds.length && decide ((vs.length : Int) = c)
def timesT (ds : List Int) (r c : Int) (vs : List Int) (s : Int) : List Int := if timesOk ds r c vs then timesL ds r.toNat c.toNat vs s else []
theorem dot_in (xs ys : List Int) : inI (dotC xs ys) := by have := dotC_le xs ys; exact ⟨by omega, by omega⟩
theorem Times_spec (hd : Rd w o (ds.map (.int .i8)) F) (hcap : ds.length ≤ cap) (h8 : ∀ x ∈ ds, -128 ≤ x ∧ x ≤ 127) (hl : ds.length ≤ 1000000) (hv : Rd w ov (vs.map (.int .i64)) G) (r c s : Int) :
  Calls Tryz.prog i_vecs_Table_Times #[.agg #[.int .i64 r, .int .i64 c, .slice o ds.length cap], .slice ov vs.length cv, .int .i64 s] w (Ret fun v w' => ∃ (A : Option Addr) (C : Nat), v = .tuple #[.slice A (timesT ds r c vs s).length C, .int .i64 (if timesOk ds r c vs then 0 else 1)] ∧ Gr Non w w' t_int 1 A (timesT ds r c vs s).length C ((timesT ds r c vs s).map (.int .i64))) := by
 refine vecs_Table_Times.calls _ _ _ _ _ _ _ _ _ ?_
 unfold vecs_Table_Times.vc
 intro w1 e1
 have hB1 := Blk.new e1
 have hC1 : Ch Non w w1 := Ch.alloc e1
 refine ⟨_, _, _, _, _, ⟨hB1.cell 0 rfl, hB1.cell 1 rfl, hB1.cell 2 rfl⟩, ?_⟩
 refine step_call (Good_spec w1 r c o ds.length cap) ?_
 rintro v w2 ⟨rfl, hC2⟩
 have hB2 := hB1.keepN hC2
 have hC2 := hC1.andN hC2
 have no : timesOk ds r c vs = false → ∃ (A : Option Addr) (C : Nat), Value.tuple #[Value.slice none 0 0, .int .i64 1] = .tuple #[.slice A (timesT ds r c vs s).length C, .int .i64 (if timesOk ds r c vs then 0 else 1)] ∧ Gr Non w w2 t_int 1 A (timesT ds r c vs s).length C ((timesT ds r c vs s).map (.int .i64)) := fun h => by
  unfold timesT; rw [h]; exact ⟨none, 0, rfl, Gr.nil hC2⟩
 refine ⟨_, rfl, fun hb => no (by unfold timesOk; rw [show goodB r c ds.length = false by simpa using hb]; rfl), fun hb => ⟨_, hB2.cell 1 rfl, fun h => no (by unfold timesOk; rw [decide_eq_false (by simpa using h), Bool.and_false]), fun h2 => ⟨_, hB2.cell 0 rfl, ?_⟩⟩⟩
 have hb : goodB r c ds.length = true := by simpa using hb
 have hok : timesOk ds r c vs = true := by unfold timesOk; rw [hb, decide_eq_true (by simpa using h2)]; rfl
 have hT : timesT ds r c vs s = timesL ds r.toNat c.toNat vs s := by unfold timesT; rw [hok]; rfl
 rw [hok, hT]
 have hgb := hb
 obtain ⟨R, C, rfl, rfl, r1, r2, c1, c2, hn⟩ := goodB_nat hb
 simp only [Int.toNat_natCast]
 have hL : (timesL ds R C vs s).length = R := by simp [timesL]
 have hLi : ∀ (j : Nat) (h : j < (timesL ds R C vs s).length), (timesL ds R C vs s)[j] = sat (shift (dotC (rowT ds R C j) vs) s) := fun j h => by
  have : rowT ds (R : Int) (C : Int) (j : Int) = rowAt ds C j := by
   unfold rowT; rw [hgb, decide_eq_true (by omega)]; rfl
  rw [this]; simp [timesL]
 generalize timesL ds R C vs s = L at hL hLi ⊢
 refine ⟨fun A j CC k x w' => k = j ∧ j ≤ L.length ∧ x = L.length - j ∧ Gr Non w2 w' t_int 1 A j CC ((L.take j).map (.int .i64)), ⟨_, rfl, Nat.zero_le _, rfl, Gr.nil (Ch.refl _ _)⟩, ?_⟩
 rintro jk A j CC k x w3 ⟨rfl, hj, rfl, hg⟩
 refine ⟨fun hlt => ?_, fun hge => ?_⟩
 ·have hlt : j < L.length := by simp at hlt; omega
  have hB3 := hB2.keepN hg.2
  have hC3 := hC2.andN hg.2
  refine ⟨_, _, _, _, _, ⟨hB3.cell 0 rfl, hB3.cell 1 rfl, hB3.cell 2 rfl⟩, ?_⟩
  refine step_call (Row_spec (hd.keepN hC3) hcap h8 hl R C j) ?_
  rintro v w4 ⟨A4, C4, rfl, hg4⟩
  refine ⟨_, _, _, rfl, ?_⟩
  have hC4 := hC3.andN hg4.2
  refine step_call (Dot_spec (xs := rowT ds R C j) (ys := vs) hg4.rd (hv.keepN hC4) ?_) ?_
  ·unfold rowT; split
   ·unfold rowAt; simp; omega
   ·simp
  rintro v w5 ⟨rfl, hc5⟩
  refine ⟨_, rfl, ?_⟩
  refine step_call (Shift_spec w5 (dot_in _ _) s) ?_
  rintro v w6 ⟨rfl, hc6⟩
  refine ⟨_, rfl, ?_⟩
  refine step_call (Sat_spec w6 _) ?_
  rintro v w7 ⟨rfl, rfl⟩
  refine ⟨_, rfl, fun w8 e8 => ?_⟩
  rw [← hLi j hlt] at e8
  obtain ⟨A', C', w9, hr, hg9, _⟩ := (((hg.keepN hg4.2).keepN hc5).keepN hc6).next el_S_int t_S_int hlt (by omega) e8 rfl rfl (by omega)
  exact ⟨A', _, C', w9, hr, L.length - (j + 1), by omega, by rw [wrap_id (by omega) (by omega)]; rfl, hlt, rfl, hg9⟩
 ·have : j = L.length := by simp at hge; omega
  subst this
  rw [List.take_length] at hg
  exact ⟨A, CC, rfl, hg.1.mono (fun i _ hN => ⟨Nat.le_trans hC2.size hN.1, hN.2⟩), hC2.andN hg.2⟩
end
end Go.Proofs.YtkbikekbaboclaaGreat.Vecs
set_option linter.unusedVariables false
set_option linter.unusedSimpArgs false
namespace Go.Proofs.YtkbikekbaboclaaGreat.Vecs
open Go Go.Proofs V Vc Num Go.RowKit
def ofE (r c : Int) (n : Nat) : Int := if goodB r c n then 0 else if 1 ≤ r ∧ r ≤ 64 ∧ 1 ≤ c ∧ c ≤ 64 then 5 else 1
def ofL (r c : Int) (s : ByteArray) : List Int := if goodB r c s.size then numsB s else []
def OfR (r c : Int) (s : ByteArray) (w : World) (v : Value) (w' : World) : Prop := ∃ (A : Option Addr) (C : Nat), v = .tuple #[.agg #[.int .i64 (if goodB r c s.size then r else 0), .int .i64 (if goodB r c s.size then c else 0), .slice A (ofL r c s).length C], .int .i64 (ofE r c s.size)] ∧ Gr Non w w' t_int8 1 A (ofL r c s).length C ((ofL r c s).map (.int .i8))
theorem OfR.bad {r c : Int} {s : ByteArray} {w w' : World} {e : Int} (hg : goodB r c s.size = false) (he : e = if 1 ≤ r ∧ r ≤ 64 ∧ 1 ≤ c ∧ c ≤ 64 then 5 else 1) (hC : Ch Non w w') : OfR r c s w (.tuple #[.agg #[.int .i64 0, .int .i64 0, .slice none 0 0], .int .i64 e]) w' := by
 have h1 : ofL r c s = [] := by unfold ofL; rw [hg]; rfl
 have h2 : ofE r c s.size = e := by unfold ofE; rw [hg, he]; rfl
 unfold OfR
 rw [h1, h2, hg]
 exact ⟨none, 0, rfl, Gr.nil hC⟩
theorem Of_spec (w : World) (r c : Int) (s : ByteArray) (hs : s.size ≤ 1000000) : Calls Tryz.prog i_vecs_Of #[.int .i64 r, .int .i64 c, .string s] w (Ret (OfR r c s w)) := by
 refine vecs_Of.calls _ _ _ ?_
 unfold vecs_Of.vc
 intro w1 e1
 have hB := Blk.new e1
 have hC : Ch Non w w1 := Ch.alloc e1
 refine step_call (isSide_spec w1 _) ?_
 rintro v w2 ⟨rfl, rfl⟩
 refine ⟨_, rfl, fun h => ?_, fun h1 => ?_⟩
 ·
  refine ⟨⟨hB.ok 0 rfl, hB.ok 1 rfl, hB.ok 2 rfl⟩, fun w3 e3 => ?_⟩
  have hB3 : Blk w3 w.heap.size [.int .i64 0, .int .i64 0, .slice none 0 0] t_vecs_Table := ((hB.set rfl).set rfl).set e3
  have hC3 : Ch Non w w3 := hC.trans (Ch.set3 (F := (· = w.heap.size)) e3 rfl rfl rfl) (fun i hi he => by omega)
  refine ⟨_, _, _, _, _, ⟨hB3.cell 0 rfl, hB3.cell 1 rfl, hB3.cell 2 rfl⟩, ?_⟩
  have hb : ¬ (1 ≤ r ∧ r ≤ 64) := by rw [Bool.not_eq_true'] at h; exact of_decide_eq_false h
  have hg : goodB r c s.size = false := decide_eq_false (fun h => hb ⟨h.1, h.2.1⟩)
  exact OfR.bad hg (by rw [if_neg (fun h => hb ⟨h.1, h.2.1⟩)]) hC3
 have h1 : 1 ≤ r ∧ r ≤ 64 := by simpa using h1
 refine step_call (isSide_spec w2 _) ?_
 rintro v w4 ⟨rfl, rfl⟩
 refine ⟨_, rfl, fun h => ?_, fun h2 => ?_⟩
 ·
  refine ⟨⟨hB.ok 0 rfl, hB.ok 1 rfl, hB.ok 2 rfl⟩, fun w3 e3 => ?_⟩
  have hB3 : Blk w3 w.heap.size [.int .i64 0, .int .i64 0, .slice none 0 0] t_vecs_Table := ((hB.set rfl).set rfl).set e3
  have hC3 : Ch Non w w3 := hC.trans (Ch.set3 (F := (· = w.heap.size)) e3 rfl rfl rfl) (fun i hi he => by omega)
  refine ⟨_, _, _, _, _, ⟨hB3.cell 0 rfl, hB3.cell 1 rfl, hB3.cell 2 rfl⟩, ?_⟩
  have hb : ¬ (1 ≤ c ∧ c ≤ 64) := by rw [Bool.not_eq_true'] at h; exact of_decide_eq_false h
  have hg : goodB r c s.size = false := decide_eq_false (fun h => hb ⟨h.2.2.1, h.2.2.2.1⟩)
  exact OfR.bad hg (by rw [if_neg (fun h => hb ⟨h.2.2.1, h.2.2.2⟩)]) hC3
 have h2 : 1 ≤ c ∧ c ≤ 64 := by simpa using h2
 have hm := mul64 h1.1 h1.2 h2.1 h2.2
 rw [wrap_id (x := r * c) (by omega) (by omega)]
 refine ⟨fun h => ?_, fun h3 => ?_⟩
 ·
  refine ⟨⟨hB.ok 0 rfl, hB.ok 1 rfl, hB.ok 2 rfl⟩, fun w3 e3 => ?_⟩
  have hB3 : Blk w3 w.heap.size [.int .i64 0, .int .i64 0, .slice none 0 0] t_vecs_Table := ((hB.set rfl).set rfl).set e3
  have hC3 : Ch Non w w3 := hC.trans (Ch.set3 (F := (· = w.heap.size)) e3 rfl rfl rfl) (fun i hi he => by omega)
  refine ⟨_, _, _, _, _, ⟨hB3.cell 0 rfl, hB3.cell 1 rfl, hB3.cell 2 rfl⟩, ?_⟩
  have hb : (s.size : Int) ≠ r * c := by simpa using h
  have hg : goodB r c s.size = false := decide_eq_false (fun h => hb h.2.2.2.2)
  exact OfR.bad hg (by rw [if_pos ⟨h1.1, h1.2, h2.1, h2.2⟩]) hC3
 have h3 : (s.size : Int) = r * c := by simpa using h3
 have hg : goodB r c s.size = true := decide_eq_true ⟨h1.1, h1.2, h2.1, h2.2, h3⟩
 have hR : ∀ v w', (∃ (A : Option Addr) (C : Nat), v = .tuple #[.agg #[.int .i64 r, .int .i64 c, .slice A (numsB s).length C], .int .i64 0] ∧ Gr Non w w' t_int8 1 A (numsB s).length C ((numsB s).map (.int .i8))) → OfR r c s w v w' := fun v w' h => by
  unfold OfR ofL ofE
  rw [hg, if_pos rfl, if_pos rfl, if_pos rfl, if_pos rfl]
  exact h
 intro w7 e7
 have hB7 := hB.alloc e7
 have hT7 := Blk.new e7
 have hC7 : Ch Non w w7 := hC.andN (Ch.alloc e7)
 have hbt : w.heap.size < w4.heap.size := hB.lt
 have htb : w4.heap.size < w7.heap.size := hT7.lt
 generalize w4.heap.size = tb at hT7 hbt htb ⊢
 refine ⟨⟨hT7.ok 0 rfl, hT7.ok 1 rfl, hT7.ok 2 rfl⟩, fun w8 e8 => ?_⟩
 have hT8 : Blk w8 tb [.int .i64 r, .int .i64 c, .slice none 0 0] t_vecs_Table := ((hT7.set rfl).set rfl).set e8
 have hc8 : Ch (· = tb) w7 w8 := Ch.set3 e8 rfl rfl rfl
 have hB8 := hB7.keep hc8 (by omega)
 have hC8 : Ch Non w w8 := hC7.trans hc8 (fun i hi he => by omega)
 obtain ⟨c33, w9, hr9, hrd, hc9, _⟩ := conv_in (P := Tryz.prog) (src := t_string) (dst := t_S_uint8) (e := t_uint8) (w := w8) s (by kernel_rfl) (by kernel_rfl) (by kernel_rfl)
 have hT9 := hT8.keepN hc9
 have hB9 := hB8.keepN hc9
 have hC9 := hC8.andN hc9
 have ht8 := hT8.lt
 have ht9 := hT9.lt
 have hlen := numsB_len s
 have hLi : ∀ (j : Nat) (h : j < (numsB s).length) (h1 : j < s.data.toList.length), (numsB s)[j] = IntKind.i8.wrap (s.data.toList[j].toNat : Int) := fun j h h1 => by simp [numsB]
 have hsl : s.data.toList.length = s.size := by simp
 generalize numsB s = L at hR hlen hLi
 refine ⟨_, _, _, w9, hr9, fun k x w' => ∃ (j : Nat) (A : Option Addr) (CC : Nat), k = j ∧ j ≤ L.length ∧ x = L.length - j ∧ Blk w' tb [.int .i64 r, .int .i64 c, .slice A j CC] t_vecs_Table ∧ Gr (· = tb) w9 w' t_int8 1 A j CC ((L.take j).map (.int .i8)), ⟨_, 0, none, 0, rfl, Nat.zero_le _, rfl, hT9, Gr.nil (Ch.refl _ _)⟩, ?_⟩
 rintro jk k x w10 ⟨j, A, CC, rfl, hj, rfl, hT, hg10⟩
 refine ⟨fun hlt => ?_, fun hge => ?_⟩
 ·have hlt : j < L.length := by simp at hlt; omega
  have hlt2 : j < s.data.toList.length := by omega
  refine ⟨⟨by omega, by omega⟩, (hrd.keep hg10.2 (fun i hi hN he => by have := hN.1; omega)).at (j := (j : Int).toNat * 1) (v := u8v s.data.toList[j]) (by rw [toNat_mul_one, List.getElem?_map, List.getElem?_eq_getElem hlt2]; rfl) fun p hp => ⟨_, hp, _, _, _, hT.cell 2 rfl, fun w11 e11 => ?_⟩⟩
  rw [← hLi j hlt hlt2] at e11
  obtain ⟨A', C', w12, hr, hg12, hc12⟩ := hg10.next el_S_int8 t_S_int8 hlt (by omega) e11 rfl rfl (by omega)
  have hT12 := hT.keep hc12 (fun hN => by have := hN.1; omega)
  refine ⟨A', _, C', w12, hr, hT12.ok 2 rfl, fun w13 e13 => ⟨L.length - (j + 1), by omega, j + 1, A', C', by rw [wrap_id (by omega) (by omega)]; rfl, hlt, rfl, hT12.set e13, hg12.step (Ch.set e13 rfl) (fun i hi => by omega)⟩⟩
 ·have : j = L.length := by simp at hge; omega
  subst this
  rw [List.take_length] at hg10
  have hB10 := hB9.keep hg10.2 (by omega)
  refine ⟨_, _, _, _, _, ⟨hT.cell 0 rfl, hT.cell 1 rfl, hT.cell 2 rfl⟩, ⟨hB10.ok 0 rfl, hB10.ok 1 rfl, hB10.ok 2 rfl⟩, fun w14 e14 => ?_⟩
  have hB14 : Blk w14 w.heap.size [.int .i64 r, .int .i64 c, .slice A L.length CC] t_vecs_Table := ((hB10.set rfl).set rfl).set e14
  have hc14 : Ch (· = w.heap.size) w10 w14 := Ch.set3 e14 rfl rfl rfl
  refine ⟨_, _, _, _, _, ⟨hB14.cell 0 rfl, hB14.cell 1 rfl, hB14.cell 2 rfl⟩, hR _ _ ⟨A, CC, rfl, (hg10.1.keep hc14 (fun i hi hN he => by have := hN.1; omega)).mono (fun i hi hN => ⟨by have := hN.1; omega, hi⟩), ?_⟩⟩
  exact (hC9.trans hg10.2 (fun i hi he => by omega)).trans hc14 (fun i hi he => by omega)
abbrev RowD := Option Addr × Nat × List Int
def encR (x : RowD) : Value := .slice x.1 x.2.2.length x.2.1
def wid (zs : List RowD) : Nat := (zs[0]?.map (·.2.2.length)).getD 0
def sameL (zs : List RowD) : Bool := zs.all fun z => decide (z.2.2.length = wid zs)
def colL (zs : List RowD) (k : Nat) : List Int := zs.map fun z => z.2.2.getD k 0
def plusL (zs : List RowD) : List Int := (List.range (wid zs)).map fun k => sat (sumC (colL zs k))
def plusT (zs : List RowD) : List Int := if sameL zs then plusL zs else []
theorem wid_pos {zs : List RowD} (h : 0 < zs.length) : wid zs = zs[0].2.2.length := by unfold wid; rw [List.getElem?_eq_getElem h]; rfl
theorem same_no {zs : List RowD} {j : Nat} (h : j < zs.length) (hn : zs[j].2.2.length ≠ wid zs) : sameL zs = false := by
 unfold sameL; rw [List.all_eq_false]; exact ⟨zs[j], List.getElem_mem h, by simpa using hn⟩
theorem same_yes {zs : List RowD} (h : ∀ z ∈ zs, z.2.2.length = wid zs) : sameL zs = true := by
 unfold sameL; rw [List.all_eq_true]; exact fun z hz => by simpa using h z hz
section
variable {w : World} {o : Option Addr} {cz : Nat} {zs : List RowD} {F G : Nat → Prop} {r c : Int} {ov : Option Addr} {ds vs : List Int} {cap cv : Nat}
theorem Plus_spec (hz : Rd w o (zs.map encR) F) (hzs : ∀ z ∈ zs, Rd w z.1 (z.2.2.map (.int .i64)) G ∧ z.2.2.length ≤ 1000000) (hl : zs.length ≤ 1000000) (cz : Nat) :
  Calls Tryz.prog i_vecs_Plus #[.slice o zs.length cz] w (Ret fun v w' => ∃ (A : Option Addr) (C : Nat), v = .tuple #[.slice A (plusT zs).length C, .int .i64 (if sameL zs then 0 else 1)] ∧ Gr Non w w' t_int 1 A (plusT zs).length C ((plusT zs).map (.int .i64))) := by
 refine vecs_Plus.calls _ _ _ ?_
 unfold vecs_Plus.vc
 refine ⟨fun h => ?_, fun h => ?_⟩
 ·have h : zs.length = 0 := by simpa using h
  have : zs = [] := List.length_eq_zero_iff.1 h
  subst this
  exact ⟨none, 0, rfl, Gr.nil (Ch.refl _ _)⟩
 have h0 : 0 < zs.length := by simp at h; exact List.length_pos_iff.2 h
 refine ⟨fun k x w' => w' = w ∧ ∃ j : Nat, k = j ∧ j ≤ zs.length ∧ x = zs.length - j ∧ ∀ z ∈ zs.take j, z.2.2.length = wid zs, ⟨_, rfl, 0, rfl, Nat.zero_le _, rfl, fun z hz => by simp at hz⟩, ?_⟩
 rintro jk k x w1 ⟨rfl, j, rfl, hj, rfl, hall⟩
 refine ⟨fun hlt => ?_, fun hge => ?_⟩
 ·have hlt : j < zs.length := by simpa using hlt
  refine ⟨⟨by omega, by omega⟩, hz.at (j := (j : Int).toNat * 1) (v := encR zs[j]) (by simp [hlt]) fun p hp => ⟨_, _, _, hp, ⟨by omega, by omega⟩, hz.at0 (v := encR zs[0]) (by rw [List.getElem?_map, List.getElem?_eq_getElem h0]; rfl) fun p2 hp2 => ⟨_, _, _, hp2, fun hne => ?_, fun heq => ?_⟩⟩⟩
  ·have hne : zs[j].2.2.length ≠ zs[0].2.2.length := by simp at hne; omega
   have := same_no hlt (by rw [wid_pos h0]; exact hne)
   unfold plusT; rw [this]
   exact ⟨none, 0, rfl, Gr.nil (Ch.refl _ _)⟩
  ·have heq : zs[j].2.2.length = zs[0].2.2.length := by simp at heq; omega
   refine ⟨zs.length - (j + 1), by omega, rfl, j + 1, by rw [wrap_id (by omega) (by omega)]; rfl, hlt, rfl, fun z hz => ?_⟩
   rw [take_snoc zs j hlt, List.mem_append] at hz
   rcases hz with hz | hz
   ·exact hall z hz
   ·rw [List.mem_singleton] at hz; subst hz; rw [wid_pos h0]; exact heq
 have hjl : j = zs.length := by simp at hge; omega
 subst hjl
 rw [List.take_length] at hall
 have hsame := same_yes hall
 unfold plusT
 rw [hsame, if_pos rfl, if_pos rfl]
 refine ⟨⟨by omega, by omega⟩, hz.at0 (v := encR zs[0]) (by rw [List.getElem?_map, List.getElem?_eq_getElem h0]; rfl) fun p2 hp2 => ⟨_, _, _, hp2, ?_⟩⟩
 rw [← wid_pos h0]
 have hL : (plusL zs).length = wid zs := by simp [plusL]
 have hw : wid zs ≤ 1000000 := by rw [wid_pos h0]; exact (hzs _ (List.getElem_mem h0)).2
 have hLi : ∀ (j : Nat) (h : j < (plusL zs).length), (plusL zs)[j] = sat (sumC (colL zs j)) := fun j h => by simp [plusL]
 generalize plusL zs = L at hL hLi ⊢
 refine ⟨fun A j CC k x w' => k = j ∧ j ≤ L.length ∧ x = L.length - j ∧ Gr Non w1 w' t_int 1 A j CC ((L.take j).map (.int .i64)), ⟨_, rfl, Nat.zero_le _, rfl, Gr.nil (Ch.refl _ _)⟩, ?_⟩
 rintro jk A j CC k x w2 ⟨rfl, hj, rfl, hg⟩
 refine ⟨fun hlt => ?_, fun hge => ?_⟩
 ·have hlt : j < L.length := by simp at hlt; omega
  have hM : (colL zs j).length = zs.length := by simp [colL]
  have hMi : ∀ (m : Nat) (h : m < (colL zs j).length) (h1 : m < zs.length) (h2 : j < zs[m].2.2.length), (colL zs j)[m] = zs[m].2.2[j] := fun m h h1 h2 => by simp [colL, List.getD_eq_getElem?_getD, List.getElem?_eq_getElem h2]
  have hval := hLi j hlt
  generalize colL zs j = M at hM hMi hval
  refine ⟨fun A m CC k x w' => k = m ∧ m ≤ M.length ∧ x = M.length - m ∧ Gr Non w2 w' t_int 1 A m CC ((M.take m).map (.int .i64)), ⟨_, rfl, Nat.zero_le _, rfl, Gr.nil (Ch.refl _ _)⟩, ?_⟩
  rintro jk A2 m CC2 k x w3 ⟨rfl, hm, rfl, hg3⟩
  refine ⟨fun hlt2 => ?_, fun hge2 => ?_⟩
  ·have hlt2 : m < M.length := by simp at hlt2; omega
   have hmz : m < zs.length := by omega
   have hjz : j < zs[m].2.2.length := by rw [hall _ (List.getElem_mem hmz)]; omega
   refine ⟨⟨by omega, by omega⟩, ((hz.keepN hg.2).keepN hg3.2).at (j := (m : Int).toNat * 1) (v := encR zs[m]) (by simp [hmz]) fun p hp => ⟨_, _, _, hp, ⟨by omega, by omega⟩, (((hzs _ (List.getElem_mem hmz)).1.keepN hg.2).keepN hg3.2).at (j := (j : Int).toNat * 1) (v := .int .i64 zs[m].2.2[j]) (by simp [hjz]) fun p2 hp2 => ⟨_, hp2, fun w4 e4 => ?_⟩⟩⟩
   rw [← hMi m hlt2 hmz hjz] at e4
   obtain ⟨A', C', w9, hr, hg9, _⟩ := hg3.next el_S_int t_S_int hlt2 (by omega) e4 rfl rfl (by omega)
   exact ⟨A', _, C', w9, hr, M.length - (m + 1), by omega, by rw [wrap_id (by omega) (by omega)]; rfl, hlt2, rfl, hg9⟩
  ·have : m = M.length := by simp at hge2; omega
   subst this
   rw [List.take_length] at hg3
   refine step_call (Sum_spec (c := CC2) hg3.rd (by omega)) ?_
   rintro v w6 ⟨rfl, rfl⟩
   refine ⟨_, rfl, ?_⟩
   refine step_call (Sat_spec _ _) ?_
   rintro v w7 ⟨rfl, rfl⟩
   refine ⟨_, rfl, fun w8 e8 => ?_⟩
   rw [← hval] at e8
   obtain ⟨A', C', w9, hr, hg9, _⟩ := (hg.keepN hg3.2).next el_S_int t_S_int hlt (by omega) e8 rfl rfl (by omega)
   exact ⟨A', _, C', w9, hr, L.length - (j + 1), by omega, by rw [wrap_id (by omega) (by omega)]; rfl, hlt, rfl, hg9⟩
 ·have : j = L.length := by simp at hge; omega
  subst this
  rw [List.take_length] at hg
  exact ⟨A, CC, rfl, hg⟩
end
end Go.Proofs.YtkbikekbaboclaaGreat.Vecs
