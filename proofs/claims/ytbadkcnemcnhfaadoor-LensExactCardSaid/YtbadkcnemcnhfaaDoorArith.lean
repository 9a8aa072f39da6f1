/- For all whole numbers: what a shift, a root, a division and a product of layer 1 come to; no program is in sight; the conditions stand in each theorem. -/
import Derived.Test.YtbadkcnemcnhfaaDoorH
set_option linter.unusedVariables false
set_option linter.unusedSimpArgs false
namespace Go.Proofs.YtbadkcnemcnhfaaDoor.Num
open Go Go.Proofs Go.Proofs.YtbadkcnemcnhfaaDoor.V

theorem and_one (x : Int) : Go.bits .and .i64 x 1 = x % 2 := by
  have h : (BitVec.ofInt 64 x &&& BitVec.ofInt 64 1).toNat = (x % 2).toNat := by
    rw [BitVec.toNat_and, BitVec.toNat_ofInt]
    have : (BitVec.ofInt 64 1).toNat = 1 := by decide
    rw [this, Nat.and_one_is_mod]
    have h0 : (((2 : Nat) ^ 64 : Nat) : Int) = 18446744073709551616 := by decide
    rw [h0]
    omega
  show IntKind.i64.wrap ((BitVec.ofInt 64 x &&& BitVec.ofInt 64 1).toNat : Int) = x % 2
  rw [h, wrap_id (by omega) (by omega)]
  omega
theorem wf_i64 {x : Int} (h : (Lit.int .i64 x).wf = true) : -9223372036854775808 ≤ x ∧ x ≤ 9223372036854775807 := by
  have := h
  simp [Lit.wf] at this
  exact this
/-- The nearest from one to another. -/
def clamp (x low high : Int) : Int := if x < low then low else if x > high then high else x
theorem clamp_le {x low high : Int} (h : low ≤ high) : low ≤ clamp x low high ∧ clamp x low high ≤ high := by unfold clamp; split <;> (try split) <;> omega
theorem clamp_id {x low high : Int} (h1 : low ≤ x) (h2 : x ≤ high) : clamp x low high = x := by unfold clamp; rw [if_neg (by omega), if_neg (by omega)]
theorem clamp_mono {x y low high : Int} (h : x ≤ y) (hl : low ≤ high) : clamp x low high ≤ clamp y low high := by unfold clamp; repeat' (first | omega | split)
def sat (x : Int) : Int := clamp x (-32767) 32767
theorem sat_le (x : Int) : -32767 ≤ sat x ∧ sat x ≤ 32767 := clamp_le (by omega)
theorem sat_id {x : Int} (h1 : -32767 ≤ x) (h2 : x ≤ 32767) : sat x = x := clamp_id h1 h2
theorem sat_mono {x y : Int} (h : x ≤ y) : sat x ≤ sat y := clamp_mono h (by omega)
theorem sat_neg (x : Int) : sat (-x) = - sat x := by unfold sat clamp; repeat' (first | omega | split)
/-- Divided by a power of two, rounded. -/
def shift (x n : Int) : Int := if n ≤ 0 then x else if n ≥ 63 then 0 else x / 2 ^ n.toNat + (x / 2 ^ (n.toNat - 1)) % 2
/-- Divided, rounded down. -/
def div (a b : Int) : Int := if b = 0 then 0 else if b = -1 ∧ a = -9223372036854775808 then 9223372036854775807 else Int.fdiv a b
theorem pow_pos2 (n : Nat) : (0 : Int) < 2 ^ n := Int.pow_pos (by omega)
theorem fdiv_q {a b : Int} (hb : b ≠ 0) : (if Int.tmod a b ≠ 0 ∧ ((a < 0 ∧ ¬ b < 0) ∨ (¬ a < 0 ∧ b < 0)) then Int.tdiv a b - 1 else Int.tdiv a b) = Int.fdiv a b := by
  have e1 := Int.mul_tdiv_add_tmod a b
  have e2 := Int.mul_fdiv_add_fmod a b
  have m1 : a.natAbs % b.natAbs < b.natAbs := Nat.mod_lt _ (by omega)
  have m2 := Int.natAbs_tmod a b
  have key : ∀ q r : Int, b * q + r = a → (0 < b → 0 ≤ r ∧ r < b) → (b < 0 → b < r ∧ r ≤ 0) → q = Int.fdiv a b := by
    intro q r he h1 h2
    rcases Int.lt_or_gt_of_ne hb with hn | hp
    · have f1 : Int.fmod a b ≤ 0 := by
        have := Int.fmod_nonneg_of_pos (-a) (show 0 < -b by omega)
        rw [Int.neg_fmod_neg] at this; omega
      have f2 : b < Int.fmod a b := by
        have := Int.fmod_lt_of_pos (-a) (show 0 < -b by omega)
        rw [Int.neg_fmod_neg] at this; omega
      have ⟨h3, h4⟩ := h2 hn
      have h5 : b * (q - Int.fdiv a b) = Int.fmod a b - r := by rw [Int.mul_sub]; omega
      have h6 : q - Int.fdiv a b < 1 := by
        apply Int.lt_of_not_ge; intro hge
        have := Int.mul_le_mul_of_nonneg_left hge (show 0 ≤ -b by omega); rw [Int.neg_mul, Int.neg_mul] at this; omega
      have h7 : -1 < q - Int.fdiv a b := by
        apply Int.lt_of_not_ge; intro hge
        have := Int.mul_le_mul_of_nonneg_left hge (show 0 ≤ -b by omega); rw [Int.neg_mul, Int.neg_mul] at this; omega
      omega
    · have f1 : 0 ≤ Int.fmod a b := Int.fmod_nonneg_of_pos a hp
      have f2 : Int.fmod a b < b := Int.fmod_lt_of_pos a hp
      have ⟨h3, h4⟩ := h1 hp
      have h5 : b * (q - Int.fdiv a b) = Int.fmod a b - r := by rw [Int.mul_sub]; omega
      have h6 : q - Int.fdiv a b < 1 := by
        apply Int.lt_of_not_ge; intro hge
        have := Int.mul_le_mul_of_nonneg_left hge (Int.le_of_lt hp); omega
      have h7 : -1 < q - Int.fdiv a b := by
        apply Int.lt_of_not_ge; intro hge
        have := Int.mul_le_mul_of_nonneg_left hge (Int.le_of_lt hp); omega
      omega
  have s1 : 0 ≤ a → 0 ≤ Int.tmod a b := fun h => Int.tmod_nonneg b h
  have s2 : a ≤ 0 → Int.tmod a b ≤ 0 := fun h => by
    have := Int.tmod_nonneg b (show 0 ≤ -a by omega)
    rw [Int.neg_tmod] at this; omega
  have s3 : (Int.tmod a b).natAbs < b.natAbs := by rw [m2]; exact m1
  split
  · rename_i hc
    refine key _ (Int.tmod a b + b) (by rw [Int.mul_sub, Int.mul_one]; omega) (fun h => ?_) (fun h => ?_)
    · rcases hc.2 with h1 | h1
      · have := s2 (by omega); omega
      · omega
    · rcases hc.2 with h1 | h1
      · omega
      · have := s1 (by omega); omega
  · rename_i hc
    refine key _ (Int.tmod a b) e1 (fun h => ?_) (fun h => ?_)
    · by_cases ha : a < 0
      · have hz : Int.tmod a b = 0 := Classical.byContradiction fun hz => hc ⟨hz, .inl ⟨ha, by omega⟩⟩
        omega
      · have := s1 (by omega); omega
    · by_cases ha : a < 0
      · have := s2 (by omega); omega
      · have hz : Int.tmod a b = 0 := Classical.byContradiction fun hz => hc ⟨hz, .inr ⟨ha, h⟩⟩
        omega
/-- The root, rounded down. -/
def rootN : Nat → Nat
  | 0 => 0
  | n + 1 => if (rootN n + 1) * (rootN n + 1) ≤ n + 1 then rootN n + 1 else rootN n
theorem rootN_spec : ∀ n : Nat, rootN n * rootN n ≤ n ∧ n < (rootN n + 1) * (rootN n + 1)
  | 0 => ⟨by decide, by decide⟩
  | n + 1 => by
    obtain ⟨h1, h2⟩ := rootN_spec n
    rw [rootN]
    split
    · rename_i h
      refine ⟨h, ?_⟩
      have e : (rootN n + 1 + 1) * (rootN n + 1 + 1) = (rootN n + 1) * (rootN n + 1) + 2 * rootN n + 3 := by rw [Nat.mul_add, Nat.add_mul]; omega
      omega
    · rename_i h
      exact ⟨by omega, by omega⟩
def root (n : Int) : Int := (rootN n.toNat : Int)
theorem root_spec {n : Int} (h : 0 ≤ n) : 0 ≤ root n ∧ root n * root n ≤ n ∧ n < (root n + 1) * (root n + 1) := by
  obtain ⟨h1, h2⟩ := rootN_spec n.toNat
  unfold root
  refine ⟨by omega, ?_, ?_⟩
  · have : ((rootN n.toNat * rootN n.toNat : Nat) : Int) ≤ n := by omega
    simpa using this
  · have : n < (((rootN n.toNat + 1) * (rootN n.toNat + 1) : Nat) : Int) := by omega
    simpa using this
theorem root_neg {n : Int} (h : n ≤ 0) : root n = 0 := by
  unfold root
  have : n.toNat = 0 := by omega
  rw [this]; rfl
theorem root_eq {n s : Int} (h0 : 0 ≤ s) (h1 : s * s ≤ n) (h2 : n < (s + 1) * (s + 1)) : root n = s := by
  have hn : 0 ≤ n := Int.le_trans (Int.mul_nonneg h0 h0) h1
  obtain ⟨r0, r1, r2⟩ := root_spec hn
  have a1 : ¬ root n + 1 ≤ s := fun hh => by
    have := Int.mul_le_mul hh hh (by omega) h0; omega
  have a2 : ¬ s + 1 ≤ root n := fun hh => by
    have := Int.mul_le_mul hh hh (by omega) r0; omega
  omega
theorem root_mono {m n : Int} (h : m ≤ n) : root m ≤ root n := by
  by_cases hm : m ≤ 0
  · rw [root_neg hm]; unfold root; omega
  obtain ⟨r0, r1, r2⟩ := root_spec (n := n) (by omega)
  obtain ⟨q0, q1, q2⟩ := root_spec (n := m) (by omega)
  apply Int.le_of_not_gt; intro hh
  have := Int.mul_le_mul (show root n + 1 ≤ root m by omega) (show root n + 1 ≤ root m by omega) (by omega) q0
  omega
/-- A Newton step comes down to the root, and no further. -/
theorem newton_ge {n s x : Int} (hx : 0 < x) (hs : s * s ≤ n) : s ≤ (x + n / x) / 2 := by
  have h : 2 * s - x ≤ n / x := by
    rw [Int.le_ediv_iff_mul_le hx]
    have h1 : 0 ≤ (s - x) * (s - x) := by
      rcases Int.le_total 0 (s - x) with h | h
      · exact Int.mul_nonneg h h
      · exact Int.mul_nonneg_of_nonpos_of_nonpos h h
    have h2 : (s - x) * (s - x) = s * s - (2 * s - x) * x := by
      simp only [Int.sub_mul, Int.mul_sub]
      rw [Int.mul_comm x s, Int.mul_assoc 2 s x]; omega
    omega
  omega
theorem newton_end {n x : Int} (hx : 0 < x) (h : x ≤ (x + n / x) / 2) : x * x ≤ n := by
  have h1 : x ≤ n / x := by omega
  exact (Int.le_ediv_iff_mul_le hx).1 h1
theorem newton_top {n y : Int} (h2 : 2 ≤ y) (h : 2 * y ≤ n + 1) : y + n / y ≤ n := by
  have h1 : n / y ≤ n / 2 := by
    rw [Int.le_ediv_iff_mul_le (by omega)]
    have h3 : n / y * y ≤ n := Int.ediv_mul_le n (by omega)
    by_cases hn : 0 ≤ n / y
    · have := Int.mul_le_mul_of_nonneg_left h2 hn; omega
    · omega
  omega
end Go.Proofs.YtbadkcnemcnhfaaDoor.Num
