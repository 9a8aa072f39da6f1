/- For all whole numbers: what the document's Clamp, Sat, Shift and Mul answer. -/
import Derived.Test.YtefidalhijpmdaaNumM
set_option linter.unusedVariables false
namespace Go.Proofs.Ytefidalhijpmdaa.Num
open Go Go.Proofs Go.Proofs.Ytefidalhijpmdaa.V Go.Proofs.Ytefidalhijpmdaa.Vc

theorem rClamp_spec (w : World) (x low high : Int) : Calls Try.prog i_coadjutorref01_Clamp #[.int .i64 x, .int .i64 low, .int .i64 high] w (Ret fun v w' => v = .int .i64 (clamp x low high) ∧ w' = w) := by
  refine coadjutorref01_Clamp.calls _ _ _ ?_
  unfold coadjutorref01_Clamp.vc clamp
  refine ⟨fun h => ?_, fun h => ⟨fun h2 => ?_, fun h2 => ?_⟩⟩
  · rw [if_pos (by simpa using h)]; exact ⟨rfl, rfl⟩
  · rw [if_neg (by simpa using h), if_pos (by simpa using h2)]; exact ⟨rfl, rfl⟩
  · rw [if_neg (by simpa using h), if_neg (by simpa using h2)]; exact ⟨rfl, rfl⟩
theorem rSat_spec (w : World) (x : Int) : Calls Try.prog i_coadjutorref01_Sat #[.int .i64 x] w (Ret fun v w' => v = .int .i64 (sat x) ∧ w' = w) := by
  refine coadjutorref01_Sat.calls _ ?_
  unfold coadjutorref01_Sat.vc
  refine step_call (rClamp_spec w _ _ _) ?_
  rintro v w ⟨rfl, rfl⟩
  exact ⟨_, rfl, rfl, rfl⟩
theorem rShift_spec (w : World) {x : Int} (h : inI x) (n : Int) : Calls Try.prog i_coadjutorref01_Shift #[.int .i64 x, .int .i64 n] w (Ret fun v w' => v = .int .i64 (shift x n) ∧ Ch Non w w') := by
  refine coadjutorref01_Shift.calls _ _ ?_
  unfold coadjutorref01_Shift.vc
  refine ⟨fun h1 => ?_, fun h1 => ?_⟩
  · have h1 : n ≥ 63 := by simpa using h1
    unfold shift; rw [if_neg (by omega), if_pos (by omega)]; exact ⟨rfl, Ch.refl _ _⟩
  have h1 : n < 63 := by simpa using h1
  refine ⟨fun y last i k w' => w' = w ∧ ∃ j : Nat, i = j ∧ (j : Int) ≤ max n 0 ∧ k = n.toNat - j ∧ y = x / 2 ^ j ∧ last = (if j = 0 then 0 else (x / 2 ^ (j - 1)) % 2), ⟨_, rfl, 0, rfl, by omega, rfl, by simp, rfl⟩, ?_⟩
  rintro jk y last i k w' ⟨rfl, j, rfl, hj, rfl, rfl, rfl⟩
  have hd := div_pow_le h j
  refine ⟨fun hlt => ?_, fun hge => ?_⟩
  · have hlt : (j : Int) < n := by simpa using hlt
    refine ⟨by decide, n.toNat - (j + 1), by omega, rfl, j + 1, ?_, by omega, rfl, ?_, ?_⟩
    · rw [wrap_id (by omega) (by omega)]; rfl
    · rw [and_one, wrap_id (x := x / 2 ^ j - x / 2 ^ j % 2) (by omega) (by omega), Int.pow_succ, ← Int.ediv_ediv_of_nonneg (Int.le_of_lt (pow_pos2 j))]
      have e : (x / 2 ^ j - x / 2 ^ j % 2) = 2 * (x / 2 ^ j / 2) := by omega
      rw [e, Int.mul_tdiv_cancel_left _ (by decide), wrap_id (by omega) (by omega)]
    · rw [and_one, if_neg (by omega), Nat.add_sub_cancel]
  · have hge : n ≤ (j : Int) := by simpa using hge
    refine ⟨?_, Ch.refl _ _⟩
    unfold shift
    by_cases hn : n ≤ 0
    · have : j = 0 := by omega
      subst this
      rw [if_pos hn, if_pos rfl]
      simp only [Int.pow_zero, Int.ediv_one, Int.add_zero]
      rw [wrap_id h.1 h.2]
    · have : n.toNat = j := by omega
      rw [if_neg hn, if_neg (by omega), if_neg (by omega), this]
      have := div_half h (n := j) (by omega)
      rw [wrap_id (by omega) (by omega)]
theorem rMul_spec (w : World) (a b n : Int) : Calls Try.prog i_coadjutorref01_Mul #[.int .i64 a, .int .i64 b, .int .i64 n] w (Ret fun v w' => v = .int .i64 (mul a b n) ∧ Ch Non w w') := by
  refine coadjutorref01_Mul.calls _ _ _ ?_
  unfold coadjutorref01_Mul.vc
  refine step_call (rClamp_spec w _ _ _) ?_
  rintro v w1 ⟨rfl, rfl⟩
  refine ⟨_, rfl, ?_⟩
  refine step_call (rClamp_spec _ _ _ _) ?_
  rintro v w2 ⟨rfl, rfl⟩
  refine ⟨_, rfl, ?_⟩
  have hp := product_in a b
  have e : IntKind.i64.wrap (clamp a (-1073741824) 1073741824 * clamp b (-1073741824) 1073741824) = product a b := wrap_id hp.1 hp.2
  rw [e]
  refine step_call (rShift_spec _ hp _) ?_
  rintro v w3 ⟨rfl, h2⟩
  refine ⟨_, rfl, ?_⟩
  refine step_call (rSat_spec _ _) ?_
  rintro v w4 ⟨rfl, rfl⟩
  exact ⟨_, rfl, rfl, h2⟩
end Go.Proofs.Ytefidalhijpmdaa.Num
