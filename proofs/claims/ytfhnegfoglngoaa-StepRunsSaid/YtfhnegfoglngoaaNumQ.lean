/- For all whole numbers: what layer 1's Sqrt answers, and the document's. -/
import Derived.Test.YtfhnegfoglngoaaNumM
set_option linter.unusedVariables false
set_option linter.unusedSimpArgs false
namespace Go.Proofs.Ytfhnegfoglngoaa.Num
open Go Go.Proofs Go.Proofs.Ytfhnegfoglngoaa.V Go.Proofs.Ytfhnegfoglngoaa.Vc

theorem Sqrt_spec (w : World) {n : Int} (hn : inI n) : Calls Try.prog i_num_Sqrt #[.int .i64 n] w (Ret fun v w' => v = .int .i64 (root n) ∧ w' = w) := by
  obtain ⟨n1, n2⟩ := hn
  refine num_Sqrt.calls _ ?_
  unfold num_Sqrt.vc
  refine ⟨fun h => ?_, fun h => ⟨by decide, ?_⟩⟩
  · have h : n ≤ 0 := by simpa using h
    exact ⟨by rw [root_neg h], rfl⟩
  have h : 0 < n := by simpa using h
  obtain ⟨r0, r1, r2⟩ := root_spec (n := n) (by omega)
  have hr1 : 1 ≤ root n := by
    apply Int.le_of_not_gt; intro hh
    have : root n = 0 := by omega
    rw [this] at r2; omega
  refine ⟨fun x y k w' => w' = w ∧ 1 ≤ x ∧ x ≤ n ∧ root n ≤ x ∧ y = (x + n / x) / 2 ∧ root n ≤ y ∧ 2 * y ≤ n + 1 ∧ k = x.toNat, ⟨_, rfl, by omega, by omega, ?_, ?_, ?_, ?_, rfl⟩, ?_⟩
  · apply Int.le_of_not_gt; intro hh
    have := Int.mul_le_mul (show n + 1 ≤ root n by omega) (show n + 1 ≤ root n by omega) (by omega) r0
    have e : (n + 1) * (n + 1) = n * n + 2 * n + 1 := by rw [Int.mul_add, Int.add_mul]; omega
    have := Int.mul_nonneg (show 0 ≤ n by omega) (show 0 ≤ n by omega)
    omega
  · rw [and_one, Int.tdiv_eq_ediv_of_nonneg (by omega), wrap_id (x := n / 2) (by omega) (by omega), wrap_id (by omega) (by omega), Int.ediv_self (by omega)]
    omega
  · have := newton_ge (x := n) h r1
    rw [Int.ediv_self (by omega)] at this
    rw [and_one, Int.tdiv_eq_ediv_of_nonneg (by omega), wrap_id (x := n / 2) (by omega) (by omega), wrap_id (by omega) (by omega)]
    omega
  · rw [and_one, Int.tdiv_eq_ediv_of_nonneg (by omega), wrap_id (x := n / 2) (by omega) (by omega), wrap_id (by omega) (by omega)]
    omega
  rintro jk x y k w' ⟨rfl, hx1, hx2, hx3, hy, hy2, hy3, rfl⟩
  refine ⟨fun hlt => ?_, fun hge => ?_⟩
  · have hlt : y < x := by simpa using hlt
    have hy1 : 1 ≤ y := by omega
    have hq0 : 0 ≤ n / y := Int.ediv_nonneg (by omega) (by omega)
    have hqn : n / y ≤ n := Int.ediv_le_self y (by omega)
    have htop : y + n / y ≤ 9223372036854775807 ∧ (2 * ((y + n / y) / 2) ≤ n + 1) := by
      by_cases hy2' : 2 ≤ y
      · have := newton_top hy2' hy3; omega
      · have : y = 1 := by omega
        subst this
        rw [Int.ediv_one] at *
        have : root n = 1 := by omega
        rw [this] at r2; omega
    have e1 : IntKind.i64.wrap (Int.tdiv n y) = n / y := by rw [Int.tdiv_eq_ediv_of_nonneg (by omega), wrap_id (by omega) (by omega)]
    rw [e1, wrap_id (x := y + n / y) (by omega) (by omega), Int.tdiv_eq_ediv_of_nonneg (by omega), wrap_id (by omega) (by omega)]
    exact ⟨by omega, by decide, y.toNat, by omega, rfl, by omega, by omega, hy2, rfl, newton_ge (by omega) r1, htop.2, rfl⟩
  · have hge : x ≤ y := by simpa using hge
    have hxx : x * x ≤ n := newton_end (by omega) (by rw [← hy]; exact hge)
    refine ⟨?_, rfl⟩
    have : ¬ root n + 1 ≤ x := fun hh => by
      have := Int.mul_le_mul hh hh (by omega) (by omega)
      omega
    have : root n = x := by omega
    rw [this]
end Go.Proofs.Ytfhnegfoglngoaa.Num
