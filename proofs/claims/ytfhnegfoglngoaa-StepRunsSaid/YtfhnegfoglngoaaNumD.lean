/- For all whole numbers: what layer 1's Div answers, and the document's. -/
import Derived.Test.YtfhnegfoglngoaaNumM
set_option linter.unusedVariables false
set_option linter.unusedSimpArgs false
namespace Go.Proofs.Ytfhnegfoglngoaa.Num
open Go Go.Proofs Go.Proofs.Ytfhnegfoglngoaa.V Go.Proofs.Ytfhnegfoglngoaa.Vc

theorem tdiv_le {a b : Int} (ha : inI a) (hb : b ≠ -1) : inI (Int.tdiv a b) ∧ (Int.tmod a b ≠ 0 → inI (Int.tdiv a b - 1)) := by
  obtain ⟨h1, h2⟩ := ha
  have e : (Int.tdiv a b).natAbs = a.natAbs / b.natAbs := Int.natAbs_tdiv a b
  by_cases hb0 : b.natAbs = 0
  · have hb0 : b = 0 := by omega
    subst hb0
    rw [Int.tdiv_zero]; exact ⟨⟨by omega, by omega⟩, fun _ => ⟨by omega, by omega⟩⟩
  by_cases hb1 : b.natAbs = 1
  · have : b = 1 := by omega
    subst this
    rw [Int.tdiv_one, Int.tmod_one]
    exact ⟨⟨h1, h2⟩, fun h => absurd rfl h⟩
  have k : a.natAbs / b.natAbs ≤ a.natAbs / 2 := Nat.div_le_div_left (by omega) (by omega)
  exact ⟨⟨by omega, by omega⟩, fun _ => ⟨by omega, by omega⟩⟩
theorem div_m1 {a : Int} (ha : inI a) : (if IntKind.i64.wrap (0 - IntKind.i64.wrap (a + 1)) > IntKind.i64.wrap (0 - a) then IntKind.i64.wrap (0 - IntKind.i64.wrap (a + 1)) else IntKind.i64.wrap (0 - a)) = div a (-1) := by
  obtain ⟨h1, h2⟩ := ha
  have hd : div a (-1) = if a = -9223372036854775808 then 9223372036854775807 else -a := by
    have e : Int.fdiv a (-1) = -a := by
      have := Int.neg_fdiv_neg a (-1)
      rw [Int.neg_neg, Int.fdiv_one] at this; exact this.symm
    unfold div; rw [if_neg (by omega), e]; simp
  rw [hd]
  by_cases hm : a = -9223372036854775808
  · subst hm; decide
  · rw [if_neg hm]
    by_cases ht : a = 9223372036854775807
    · subst ht; decide
    · rw [wrap_id (x := a + 1) (by omega) (by omega), wrap_id (x := 0 - (a + 1)) (by omega) (by omega), wrap_id (x := 0 - a) (by omega) (by omega), if_neg (by omega)]
      omega
/-- The rest of both, where the divisor is neither 0 nor -1. -/
theorem div_rest {R : Value → World → Prop} {w : World} {a b : Int} (ha : inI a) (h0 : b ≠ 0) (h1 : b ≠ -1) (hR : R (.int .i64 (div a b)) w) :
    (((Int.tmod a b) != (0 : Int)) = true →
      ((!((decide (a < (0 : Int))) == (decide (b < (0 : Int))))) = true → R (.int .i64 (IntKind.i64.wrap ((IntKind.i64.wrap (Int.tdiv a b)) - 1))) w) ∧
      ((!((decide (a < (0 : Int))) == (decide (b < (0 : Int))))) = false → R (.int .i64 (IntKind.i64.wrap (Int.tdiv a b))) w)) ∧
    (((Int.tmod a b) != (0 : Int)) = false → R (.int .i64 (IntKind.i64.wrap (Int.tdiv a b))) w) := by
  obtain ⟨l1, l2⟩ := tdiv_le (b := b) ha h1
  have hq := fdiv_q (a := a) h0
  have hd : div a b = Int.fdiv a b := by unfold div; rw [if_neg h0, if_neg (fun h => h1 h.1)]
  rw [hd, ← hq] at hR
  rw [wrap_id l1.1 l1.2]
  refine ⟨fun h => ?_, fun h => ?_⟩
  · have h : Int.tmod a b ≠ 0 := by simpa using h
    have l2 := l2 h
    rw [wrap_id l2.1 l2.2]
    refine ⟨fun h3 => ?_, fun h3 => ?_⟩
    · rw [if_pos ⟨h, by simp at h3; omega⟩] at hR; exact hR
    · rw [if_neg (fun hc => by simp at h3; omega)] at hR; exact hR
  · have h : Int.tmod a b = 0 := by simpa using h
    rw [if_neg (fun hc => hc.1 h)] at hR; exact hR
theorem Div_spec (w : World) {a : Int} (ha : inI a) (b : Int) : Calls Try.prog i_num_Div #[.int .i64 a, .int .i64 b] w (Ret fun v w' => v = .int .i64 (div a b) ∧ w' = w) := by
  refine num_Div.calls _ _ ?_
  unfold num_Div.vc
  refine ⟨fun h => ?_, fun h => ⟨fun h1 => ?_, fun h1 => ?_⟩⟩
  · have : b = 0 := by simpa using h
    subst this; exact ⟨rfl, rfl⟩
  · have : b = -1 := by simpa using h1
    subst this; exact ⟨by rw [div_m1 ha], rfl⟩
  · have h : b ≠ 0 := by simpa using h
    exact ⟨h, h, div_rest (R := fun v w' => v = .int .i64 (div a b) ∧ w' = w) ha h (by simpa using h1) ⟨rfl, rfl⟩⟩
end Go.Proofs.Ytfhnegfoglngoaa.Num
