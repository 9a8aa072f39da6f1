/- For all whole numbers: what layer 1's Shift and Mul answer; and what the document's do. -/
import Derived.Test.YtbadkcnemcnhfaaDoorNumA
set_option linter.unusedVariables false
set_option linter.unusedSimpArgs false
namespace Go.Proofs.YtbadkcnemcnhfaaDoor.Num
open Go Go.Proofs Go.Proofs.YtbadkcnemcnhfaaDoor.V Go.Proofs.YtbadkcnemcnhfaaDoor.Vc

def inI (x : Int) : Prop := -9223372036854775808 ≤ x ∧ x ≤ 9223372036854775807
theorem div_pow_le {x : Int} (h : inI x) (n : Nat) : -9223372036854775808 ≤ x / 2 ^ n ∧ x / 2 ^ n ≤ 9223372036854775807 := by
  obtain ⟨h1, h2⟩ := h
  have hp := pow_pos2 n
  constructor
  · rw [Int.le_ediv_iff_mul_le hp]
    have := Int.mul_le_mul_of_nonpos_left (show (-9223372036854775808 : Int) ≤ 0 by omega) (show (1 : Int) ≤ 2 ^ n by omega)
    omega
  · have h3 : x / 2 ^ n * 2 ^ n ≤ x := Int.ediv_mul_le x (by omega)
    apply Int.le_of_not_gt; intro h4
    have := Int.mul_le_mul_of_nonneg_left (show (1 : Int) ≤ 2 ^ n by omega) (show 0 ≤ x / 2 ^ n by omega)
    omega
theorem div_half {x : Int} (h : inI x) {n : Nat} (hn : 1 ≤ n) : -4611686018427387904 ≤ x / 2 ^ n ∧ x / 2 ^ n ≤ 4611686018427387903 := by
  obtain ⟨m, rfl⟩ : ∃ m, n = m + 1 := ⟨n - 1, by omega⟩
  have := div_pow_le h m
  have e : x / 2 ^ (m + 1) = x / 2 ^ m / 2 := by rw [Int.pow_succ, Int.ediv_ediv_of_nonneg (Int.le_of_lt (pow_pos2 m))]
  rw [e]; omega
theorem shift_le {x : Int} (h : inI x) (n : Int) : inI (shift x n) := by
  unfold shift
  split
  · exact h
  · split
    · exact ⟨by omega, by omega⟩
    · have := div_half h (n := n.toNat) (by omega)
      exact ⟨by omega, by omega⟩
theorem fdiv_pow (x : Int) (n : Nat) : Int.fdiv x (2 ^ n) = x / 2 ^ n := Int.fdiv_eq_ediv_of_nonneg _ (Int.le_of_lt (pow_pos2 n))
/-- A product of two that are clamped. -/
def product (a b : Int) : Int := clamp a (-1073741824) 1073741824 * clamp b (-1073741824) 1073741824
theorem mul_le_of {a b m n : Int} (hm : 0 ≤ m) (h1 : -m ≤ a ∧ a ≤ m) (h2 : -n ≤ b ∧ b ≤ n) : -(m * n) ≤ a * b ∧ a * b ≤ m * n := by
  have hn : 0 ≤ n := by omega
  have e : (a * b).natAbs = a.natAbs * b.natAbs := Int.natAbs_mul a b
  have k : a.natAbs * b.natAbs ≤ m.natAbs * n.natAbs := Nat.mul_le_mul (by omega) (by omega)
  have e2 : (m * n).natAbs = m.natAbs * n.natAbs := Int.natAbs_mul m n
  have := Int.mul_nonneg hm hn
  omega
theorem product_le (a b : Int) : -1152921504606846976 ≤ product a b ∧ product a b ≤ 1152921504606846976 :=
  mul_le_of (m := 1073741824) (n := 1073741824) (by omega) (clamp_le (by omega)) (clamp_le (by omega))
def mul (a b n : Int) : Int := sat (shift (product a b) n)
theorem mul_le (a b n : Int) : -32767 ≤ mul a b n ∧ mul a b n ≤ 32767 := sat_le _
theorem product_in (a b : Int) : inI (product a b) := by have := product_le a b; exact ⟨by omega, by omega⟩
end Go.Proofs.YtbadkcnemcnhfaaDoor.Num
