/- For all whole numbers: what layer 1's Shift and Mul answer; and what the document's do. -/
import Derived.Test.YtfhnegfoglngoaaNumA
set_option linter.unusedVariables false
set_option linter.unusedSimpArgs false
namespace Go.Proofs.Ytfhnegfoglngoaa.Num
open Go Go.Proofs Go.Proofs.Ytfhnegfoglngoaa.V Go.Proofs.Ytfhnegfoglngoaa.Vc

def inI (x : Int) : Prop := -9223372036854775808 ≤ x ∧ x ≤ 9223372036854775807
theorem div_pow_le {x : Int} (h : inI x) (n : Nat) : -9223372036854775808 ≤ x / 2 ^ n ∧ x / 2 ^ n ≤ 9223372036854775807 := by
  obtain ⟨h1, h2⟩ := h
  have hp := pow_pos2 n
  constructor
  · rw [Int.le_ediv_iff_mul_le hp]
    have := Int.mul_le_mul_of_nonpos_left (show (-9223372036854775808 : Int) ≤ 0 by omega) (show (1 : Int) ≤ 2 ^ n by omega)
    omega
  · have h3 : x / 2 ^ n * 2 ^ n ≤ x := Int.ediv_mul_le x (by omega)
    apply Int.le_of_not_gt; intro h4
    have := Int.mul_le_mul_of_nonneg_left (show (1 : Int) ≤ 2 ^ n by omega) (show 0 ≤ x / 2 ^ n by omega)
    omega
theorem div_half {x : Int} (h : inI x) {n : Nat} (hn : 1 ≤ n) : -4611686018427387904 ≤ x / 2 ^ n ∧ x / 2 ^ n ≤ 4611686018427387903 := by
  obtain ⟨m, rfl⟩ : ∃ m, n = m + 1 := ⟨n - 1, by omega⟩
  have := div_pow_le h m
  have e : x / 2 ^ (m + 1) = x / 2 ^ m / 2 := by rw [Int.pow_succ, Int.ediv_ediv_of_nonneg (Int.le_of_lt (pow_pos2 m))]
  rw [e]; omega
theorem shift_le {x : Int} (h : inI x) (n : Int) : inI (shift x n) := by
  unfold shift
  split
  · exact h
  · split
    · exact ⟨by omega, by omega⟩
    · have := div_half h (n := n.toNat) (by omega)
      exact ⟨by omega, by omega⟩
theorem fdiv_pow (x : Int) (n : Nat) : Int.fdiv x (2 ^ n) = x / 2 ^ n := Int.fdiv_eq_ediv_of_nonneg _ (Int.le_of_lt (pow_pos2 n))
theorem Shift_spec (w : World) {x : Int} (h : inI x) (n : Int) : Calls Try.prog i_num_Shift #[.int .i64 x, .int .i64 n] w (Ret fun v w' => v = .int .i64 (shift x n) ∧ Ch Non w w') := by
  refine num_Shift.calls _ _ ?_
  unfold num_Shift.vc shift
  refine ⟨fun h1 => ?_, fun h1 => ⟨fun h2 => ?_, fun h2 => ?_⟩⟩
  · rw [if_pos (by simpa using h1)]; exact ⟨rfl, Ch.refl _ _⟩
  · rw [if_neg (by simpa using h1), if_pos (by simpa using h2)]; exact ⟨rfl, Ch.refl _ _⟩
  · have h1 : 0 < n := by simpa using h1
    have h2 : n < 63 := by simpa using h2
    rw [if_neg (by omega), if_neg (by omega)]
    refine ⟨fun _ => True, fun w1 e1 => ⟨trivial, by omega, ?_⟩⟩
    rw [wrap_id (x := n - 1) (by omega) (by omega)]
    refine ⟨by omega, ?_, Ch.drew e1⟩
    have m1 : min n.toNat IntKind.i64.bits = n.toNat := by show min n.toNat 64 = _; omega
    have m2 : min (n - 1).toNat IntKind.i64.bits = n.toNat - 1 := by show min (n - 1).toNat 64 = _; omega
    rw [m1, m2, fdiv_pow, fdiv_pow, and_one]
    have := div_half h (n := n.toNat) (by omega)
    rw [wrap_id (by omega) (by omega)]
/-- A product of two that are clamped. -/
def product (a b : Int) : Int := clamp a (-1073741824) 1073741824 * clamp b (-1073741824) 1073741824
theorem mul_le_of {a b m n : Int} (hm : 0 ≤ m) (h1 : -m ≤ a ∧ a ≤ m) (h2 : -n ≤ b ∧ b ≤ n) : -(m * n) ≤ a * b ∧ a * b ≤ m * n := by
  have hn : 0 ≤ n := by omega
  have e : (a * b).natAbs = a.natAbs * b.natAbs := Int.natAbs_mul a b
  have k : a.natAbs * b.natAbs ≤ m.natAbs * n.natAbs := Nat.mul_le_mul (by omega) (by omega)
  have e2 : (m * n).natAbs = m.natAbs * n.natAbs := Int.natAbs_mul m n
  have := Int.mul_nonneg hm hn
  omega
theorem product_le (a b : Int) : -1152921504606846976 ≤ product a b ∧ product a b ≤ 1152921504606846976 :=
  mul_le_of (m := 1073741824) (n := 1073741824) (by omega) (clamp_le (by omega)) (clamp_le (by omega))
theorem product_spec (w : World) (a b : Int) : Calls Try.prog i_num_product #[.int .i64 a, .int .i64 b] w (Ret fun v w' => v = .int .i64 (product a b) ∧ w' = w) := by
  refine num_product.calls _ _ ?_
  unfold num_product.vc
  refine step_call (Clamp_spec w _ _ _) ?_
  rintro v w1 ⟨rfl, rfl⟩
  refine ⟨_, rfl, ?_⟩
  refine step_call (Clamp_spec _ _ _ _) ?_
  rintro v w2 ⟨rfl, rfl⟩
  have := product_le a b
  refine ⟨_, rfl, ?_, rfl⟩
  rw [wrap_id (by show _ ≤ product a b; omega) (by show product a b ≤ _; omega)]; rfl
def mul (a b n : Int) : Int := sat (shift (product a b) n)
theorem mul_le (a b n : Int) : -32767 ≤ mul a b n ∧ mul a b n ≤ 32767 := sat_le _
theorem product_in (a b : Int) : inI (product a b) := by have := product_le a b; exact ⟨by omega, by omega⟩
theorem Mul_spec (w : World) (a b n : Int) : Calls Try.prog i_num_Mul #[.int .i64 a, .int .i64 b, .int .i64 n] w (Ret fun v w' => v = .int .i64 (mul a b n) ∧ Ch Non w w') := by
  refine num_Mul.calls _ _ _ ?_
  unfold num_Mul.vc
  refine step_call (product_spec w _ _) ?_
  rintro v w1 ⟨rfl, rfl⟩
  refine ⟨_, rfl, ?_⟩
  refine step_call (Shift_spec _ (product_in a b) _) ?_
  rintro v w2 ⟨rfl, h2⟩
  refine ⟨_, rfl, ?_⟩
  refine step_call (Sat_spec _ _) ?_
  rintro v w3 ⟨rfl, rfl⟩
  exact ⟨_, rfl, rfl, h2⟩
end Go.Proofs.Ytfhnegfoglngoaa.Num
