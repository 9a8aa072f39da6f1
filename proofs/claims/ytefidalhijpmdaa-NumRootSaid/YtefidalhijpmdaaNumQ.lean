/- For all whole numbers: what layer 1's Sqrt answers, and the document's. -/
import Derived.Test.YtefidalhijpmdaaNumM
set_option linter.unusedVariables false
namespace Go.Proofs.Ytefidalhijpmdaa.Num
open Go Go.Proofs Go.Proofs.Ytefidalhijpmdaa.V Go.Proofs.Ytefidalhijpmdaa.Vc

theorem Sqrt_spec (w : World) {n : Int} (hn : inI n) : Calls Try.prog i_num_Sqrt #[.int .i64 n] w (Ret fun v w' => v = .int .i64 (root n) ∧ w' = w) := by
  obtain ⟨n1, n2⟩ := hn
  refine num_Sqrt.calls _ ?_
  unfold num_Sqrt.vc
  refine ⟨fun h => ?_, fun h => ⟨by decide, ?_⟩⟩
  · have h : n ≤ 0 := by simpa using h
    exact ⟨by rw [root_neg h], rfl⟩
  have h : 0 < n := by simpa using h
  obtain ⟨r0, r1, r2⟩ := root_spec (n := n) (by omega)
  have hr1 : 1 ≤ root n := by
    apply Int.le_of_not_gt; intro hh
    have : root n = 0 := by omega
    rw [this] at r2; omega
  refine ⟨fun x y k w' => w' = w ∧ 1 ≤ x ∧ x ≤ n ∧ root n ≤ x ∧ y = (x + n / x) / 2 ∧ root n ≤ y ∧ 2 * y ≤ n + 1 ∧ k = x.toNat, ⟨_, rfl, by omega, by omega, ?_, ?_, ?_, ?_, rfl⟩, ?_⟩
  · apply Int.le_of_not_gt; intro hh
    have := Int.mul_le_mul (show n + 1 ≤ root n by omega) (show n + 1 ≤ root n by omega) (by omega) r0
    have e : (n + 1) * (n + 1) = n * n + 2 * n + 1 := by rw [Int.mul_add, Int.add_mul]; omega
    have := Int.mul_nonneg (show 0 ≤ n by omega) (show 0 ≤ n by omega)
    omega
  · rw [and_one, Int.tdiv_eq_ediv_of_nonneg (by omega), wrap_id (x := n / 2) (by omega) (by omega), wrap_id (by omega) (by omega), Int.ediv_self (by omega)]
    omega
  · have := newton_ge (x := n) h r1
    rw [Int.ediv_self (by omega)] at this
    rw [and_one, Int.tdiv_eq_ediv_of_nonneg (by omega), wrap_id (x := n / 2) (by omega) (by omega), wrap_id (by omega) (by omega)]
    omega
  · rw [and_one, Int.tdiv_eq_ediv_of_nonneg (by omega), wrap_id (x := n / 2) (by omega) (by omega), wrap_id (by omega) (by omega)]
    omega
  rintro jk x y k w' ⟨rfl, hx1, hx2, hx3, hy, hy2, hy3, rfl⟩
  refine ⟨fun hlt => ?_, fun hge => ?_⟩
  · have hlt : y < x := by simpa using hlt
    have hy1 : 1 ≤ y := by omega
    have hq0 : 0 ≤ n / y := Int.ediv_nonneg (by omega) (by omega)
    have hqn : n / y ≤ n := Int.ediv_le_self y (by omega)
    have htop : y + n / y ≤ 9223372036854775807 ∧ (2 * ((y + n / y) / 2) ≤ n + 1) := by
      by_cases hy2' : 2 ≤ y
      · have := newton_top hy2' hy3; omega
      · have : y = 1 := by omega
        subst this
        rw [Int.ediv_one] at *
        have : root n = 1 := by omega
        rw [this] at r2; omega
    have e1 : IntKind.i64.wrap (Int.tdiv n y) = n / y := by rw [Int.tdiv_eq_ediv_of_nonneg (by omega), wrap_id (by omega) (by omega)]
    rw [e1, wrap_id (x := y + n / y) (by omega) (by omega), Int.tdiv_eq_ediv_of_nonneg (by omega), wrap_id (by omega) (by omega)]
    exact ⟨by omega, by decide, y.toNat, by omega, rfl, by omega, by omega, hy2, rfl, newton_ge (by omega) r1, htop.2, rfl⟩
  · have hge : x ≤ y := by simpa using hge
    have hxx : x * x ≤ n := newton_end (by omega) (by rw [← hy]; exact hge)
    refine ⟨?_, rfl⟩
    have : ¬ root n + 1 ≤ x := fun hh => by
      have := Int.mul_le_mul hh hh (by omega) (by omega)
      omega
    have : root n = x := by omega
    rw [this]
theorem rSqrt_spec (w : World) {n : Int} (hn : inI n) : Calls Try.prog i_coadjutorref01_Sqrt #[.int .i64 n] w (Ret fun v w' => v = .int .i64 (root n) ∧ w' = w) := by
  obtain ⟨n1, n2⟩ := hn
  refine coadjutorref01_Sqrt.calls _ ?_
  unfold coadjutorref01_Sqrt.vc
  refine ⟨fun out i k w' => w' = w ∧ ∃ j : Nat, j ≤ 32 ∧ i = (j : Int) - 1 ∧ k = j ∧ 0 ≤ out ∧ out ≤ 3037000499 ∧ (out = 0 ∨ out * out ≤ n) ∧ n < (out + 2 ^ j) * (out + 2 ^ j), ⟨_, rfl, 32, by omega, rfl, rfl, by omega, by omega, .inl rfl, ?_⟩, ?_⟩
  · show n < (0 + 4294967296) * (0 + 4294967296)
    omega
  rintro jk out i j w' ⟨rfl, j', hj, rfl, hjj, h0, h1, h2, h3⟩
  subst hjj
  refine ⟨fun hlt => ?_, fun hge => ?_⟩
  · have hlt : 1 ≤ j := by simp at hlt; omega
    obtain ⟨m, rfl⟩ : ∃ m, j = m + 1 := ⟨j - 1, by omega⟩
    have hm : (((m + 1 : Nat) : Int) - 1) = m := by omega
    have hp := pow_pos2 m
    have hp2 : (2 : Int) ^ m ≤ 2147483648 := by
      have h : (2 : Nat) ^ m ≤ 2 ^ 31 := Nat.pow_le_pow_right (by omega) (by omega)
      have h' : (((2 : Nat) ^ m : Nat) : Int) ≤ ((2 ^ 31 : Nat) : Int) := Int.ofNat_le.2 h
      simpa using h'
    have hmin : min (m : Int).toNat IntKind.i64.bits = m := by show min (m : Int).toNat 64 = m; omega
    rw [hm, hmin, Int.one_mul, wrap_id (x := 2 ^ m) (by omega) (by omega), wrap_id (x := out + 2 ^ m) (by omega) (by omega), wrap_id (x := (m : Int) - 1) (by omega) (by omega)]
    have e2 : out + 2 ^ (m + 1) = out + 2 ^ m + 2 ^ m := by rw [Int.pow_succ]; omega
    rw [e2] at h3
    have no : ∀ (hno : n < (out + 2 ^ m) * (out + 2 ^ m)), ∃ vk_1 : Nat, vk_1 < m + 1 ∧ w' = w' ∧ ∃ j : Nat, j ≤ 32 ∧ (m : Int) - 1 = (j : Int) - 1 ∧ vk_1 = j ∧ 0 ≤ out ∧ out ≤ 3037000499 ∧ (out = 0 ∨ out * out ≤ n) ∧ n < (out + 2 ^ j) * (out + 2 ^ j) :=
      fun hno => ⟨m, by omega, rfl, m, by omega, rfl, rfl, h0, h1, h2, hno⟩
    have yes : (out + 2 ^ m ≤ 3037000499) → ((out + 2 ^ m) * (out + 2 ^ m) ≤ n) → ∃ vk_1 : Nat, vk_1 < m + 1 ∧ w' = w' ∧ ∃ j : Nat, j ≤ 32 ∧ (m : Int) - 1 = (j : Int) - 1 ∧ vk_1 = j ∧ 0 ≤ out + 2 ^ m ∧ out + 2 ^ m ≤ 3037000499 ∧ (out + 2 ^ m = 0 ∨ (out + 2 ^ m) * (out + 2 ^ m) ≤ n) ∧ n < (out + 2 ^ m + 2 ^ j) * (out + 2 ^ m + 2 ^ j) :=
      fun ha hb => ⟨m, by omega, rfl, m, by omega, rfl, rfl, by omega, ha, .inr hb, h3⟩
    generalize (2 : Int) ^ m = q at *
    refine ⟨by omega, fun hx => ?_, fun hx => ?_⟩
    · have hx : out + q ≤ 3037000499 := by simpa using hx
      have hsq : 0 ≤ (out + q) * (out + q) ∧ (out + q) * (out + q) ≤ 9223372030926249001 := by
        have := mul_le_of (a := out + q) (b := out + q) (m := 3037000499) (n := 3037000499) (by omega) (by omega) (by omega)
        have h4 := Int.mul_nonneg (show 0 ≤ out + q by omega) (show 0 ≤ out + q by omega)
        omega
      rw [wrap_id (x := (out + q) * (out + q)) (by omega) (by omega)]
      refine ⟨fun hs => ?_, fun hs => ?_⟩
      · have hs : (out + q) * (out + q) ≤ n := by simpa using hs
        exact yes hx hs
      · exact no (by simpa using hs)
    · have hx : 3037000499 < out + q := by simpa using hx
      refine no ?_
      have := Int.mul_le_mul (show 3037000500 ≤ out + q by omega) (show 3037000500 ≤ out + q by omega) (by omega) (by omega)
      omega
  · have : j = 0 := by simp at hge; omega
    subst this
    refine ⟨?_, rfl⟩
    rcases h2 with h2 | h2
    · subst h2
      have : n ≤ 0 := by simp at h3; omega
      rw [root_neg this]
    · rw [root_eq h0 h2 (by simpa using h3)]
end Go.Proofs.Ytefidalhijpmdaa.Num
