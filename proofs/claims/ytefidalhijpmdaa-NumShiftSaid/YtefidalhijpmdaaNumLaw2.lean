/- Layer 1's NumShift: of all whole numbers the Go function answers true and leaves what was there; the conditions stand in each theorem. -/
import Derived.Test.YtefidalhijpmdaaNumLaw1
set_option linter.unusedVariables false
namespace Go.Proofs.Ytefidalhijpmdaa.Num
open Go Go.Proofs Go.Proofs.Ytefidalhijpmdaa.V Go.Proofs.Ytefidalhijpmdaa.Vc Go.RowKit

/-- A half up: of the power before last what is left. -/
theorem shift_q {x n : Int} (h1 : 0 < n) (h2 : n < 63) : ∃ q : Int, q = 2 ^ (n.toNat - 1) ∧ 1 ≤ q ∧ (2 : Int) ^ n.toNat = 2 * q ∧ shift x n = (x / q + 1) / 2 := by
  obtain ⟨m, hm⟩ : ∃ m, n.toNat = m + 1 := ⟨n.toNat - 1, by omega⟩
  have hp := pow_pos2 m
  refine ⟨2 ^ m, by rw [hm]; rfl, by omega, by rw [hm, Int.pow_succ]; omega, ?_⟩
  unfold shift
  rw [if_neg (by omega), if_neg (by omega), hm, Nat.add_sub_cancel, Int.pow_succ, ← Int.ediv_ediv_of_nonneg (Int.le_of_lt hp)]
  omega
theorem shift_twice {x n : Int} (h1 : 0 < n) (h2 : n < 62) : shift (2 * x) (n + 1) = shift x n := by
  obtain ⟨q, q1, q2, q3, q4⟩ := shift_q (x := x) (n := n) h1 (by omega)
  obtain ⟨p, p1, p2, p3, p4⟩ := shift_q (x := 2 * x) (n := n + 1) (by omega) (by omega)
  rw [q4, p4]
  have hp : p = 2 * q := by rw [p1, ← q3]; congr 1; omega
  rw [hp, Int.mul_ediv_mul_of_pos _ _ (by omega)]
theorem NumShift_true (W : World) (x : Int) (wx : (Lit.int .i64 x).wf = true) (n : Int) (wn : (Lit.int .i64 n).wf = true) :
    Calls Try.prog i_coadjutorlaw01_NumShift #[.int .i64 x, .int .i64 n] W (Ret fun v w' => v = .bool true ∧ Ch Non W w') := by
  have ix : inI x := wf_i64 wx
  refine coadjutorlaw01_NumShift.calls _ _ ?_
  unfold coadjutorlaw01_NumShift.vc
  refine step_call (awake_spec W) ?_
  rintro v w1 ⟨rfl, hc1⟩
  have h0 : 0 ≤ IntKind.u64.wrap n := by rw [wrap_u64]; omega
  rw [tmod_pos h0]
  have k1 : 0 ≤ IntKind.u64.wrap n % 61 := Int.emod_nonneg _ (by omega)
  have k2 : IntKind.u64.wrap n % 61 < 61 := Int.emod_lt_of_pos _ (by omega)
  rw [wrap_id (x := IntKind.u64.wrap n % 61) (by omega) (by omega)]
  generalize IntKind.u64.wrap n % 61 = k at k1 k2
  refine ⟨_, rfl, iteF rfl ⟨by decide, fun _ => ⟨rfl, hc1⟩, fun x1 => ⟨fun _ => ⟨rfl, hc1⟩, fun x2 => ?_⟩⟩⟩
  simp only [decide_eq_false_iff_not] at x1 x2
  rw [wrap_id (x := 2 * x) (by omega) (by omega), wrap_id (x := k + 1) (by omega) (by omega)]
  have i2 : inI (2 * x) := ⟨by omega, by omega⟩
  refine step_call (Shift_spec w1 ix k) ?_
  rintro v w2 ⟨rfl, hc2⟩
  refine ⟨_, rfl, ?_⟩
  refine step_call (Shift_spec w2 i2 (k + 1)) ?_
  rintro v w3 ⟨rfl, hc3⟩
  have hc3 := (hc1.andN hc2).andN hc3
  refine ⟨_, rfl, ?_⟩
  by_cases hk : k = 0
  · subst hk
    have s0 : shift x 0 = x := by unfold shift; rw [if_pos (by omega)]
    have s1 : shift (2 * x) 1 = x := by
      unfold shift; rw [if_neg (by omega), if_neg (by omega)]
      show 2 * x / 2 + (2 * x / 1) % 2 = x
      omega
    have s1' : shift (2 * x) (0 + 1) = x := s1
    rw [s0, s1']
    refine iteF (by simp) (iteT rfl (iteT (by simp) ?_))
    refine step_call (Shift_spec w3 i2 1) ?_
    rintro v w4 ⟨rfl, hc4⟩
    exact ⟨_, rfl, by rw [s1]; simp, hc3.andN hc4⟩
  · rw [shift_twice (by omega) (by omega)]
    obtain ⟨q, q1, q2, q3, q4⟩ := shift_q (x := x) (n := k) (by omega) (by omega)
    have hmin : min k.toNat IntKind.i64.bits = k.toNat := by show min k.toNat 64 = _; omega
    rw [hmin, q3]
    have hq : q ≤ 576460752303423488 := by
      have h : (2 : Nat) ^ (k.toNat - 1) ≤ 2 ^ 59 := Nat.pow_le_pow_right (by omega) (by omega)
      have h' : (((2 : Nat) ^ (k.toNat - 1) : Nat) : Int) ≤ ((2 ^ 59 : Nat) : Int) := Int.ofNat_le.2 h
      rw [q1]; simpa using h'
    have e1 := Int.mul_ediv_add_emod x q
    have e2 := Int.emod_nonneg x (show q ≠ 0 by omega)
    have e3 := Int.emod_lt_of_pos x (show 0 < q by omega)
    have e4 : ∃ d : Int, (d = 0 ∨ d = 1) ∧ 2 * ((x / q + 1) / 2) = x / q + d := ⟨2 * ((x / q + 1) / 2) - x / q, by omega, by omega⟩
    obtain ⟨d, hd, e4⟩ := e4
    -- what is shifted out
    have e5 : shift x k * (2 * q) = q * (x / q) + d * q := by
      rw [q4, ← Int.mul_assoc, Int.mul_comm ((x / q + 1) / 2) 2, e4, Int.add_mul, Int.mul_comm q]
    have e6 : d * q = 0 ∨ d * q = q := by rcases hd with rfl | rfl <;> simp
    rw [e5, wrap_id (x := q * (x / q) + d * q) (by omega) (by omega), wrap_id (x := x - (q * (x / q) + d * q)) (by omega) (by omega), wrap_id (x := 2 * (x - (q * (x / q) + d * q))) (by omega) (by omega), wrap_id (x := 1 * (2 * q)) (by omega) (by omega), wrap_id (x := -1 * (2 * q)) (by omega) (by omega)]
    refine iteF (by simp) (iteF (by simpa using hk) ⟨by omega, by omega, iteT (by simp; omega) ⟨by omega, by simp; omega, hc3⟩⟩)
end Go.Proofs.Ytefidalhijpmdaa.Num
