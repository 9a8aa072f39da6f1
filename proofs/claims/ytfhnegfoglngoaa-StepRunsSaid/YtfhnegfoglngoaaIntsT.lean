/- For all rows of whole numbers: whether two are the same, as the laws' own functions tell; the conditions stand in each theorem. -/
import Derived.Test.YtfhnegfoglngoaaViews
import Derived.Test.YtfhnegfoglngoaaNumS
import Derived.Test.YtfhnegfoglngoaaVcInts
set_option linter.unusedVariables false
set_option linter.unusedSimpArgs false
namespace Go.Proofs.Ytfhnegfoglngoaa.IntsT
open Go Go.Proofs Go.Proofs.Ytfhnegfoglngoaa.V Go.Proofs.Ytfhnegfoglngoaa.Vc Go.Proofs.Ytfhnegfoglngoaa.Brain Go.Proofs.Ytfhnegfoglngoaa.Num Go.RowKit

section
variable {w : World} {u v : Value} {xs ys : List Int} {F G : Nat → Prop}
theorem ints17_spec (ha : IV w u xs F) (hb : IV w v ys G) : Calls Try.prog i_coadjutorlaw17_ints #[u, v] w (Ret fun v w' => v = .bool (decide (xs = ys)) ∧ Ch Non w w') := by
  obtain ⟨oa, ca, rfl, h1, h2, ha⟩ := ha
  obtain ⟨ob, cb, rfl, _, _, hb⟩ := hb
  have hl := Nat.le_trans h1 h2
  refine coadjutorlaw17_ints.calls _ _ _ _ _ _ ?_
  unfold coadjutorlaw17_ints.vc
  refine ⟨fun h => ?_, fun h => ?_⟩
  · have h : xs.length ≠ ys.length := by simp at h; omega
    exact ⟨by rw [decide_eq_false (fun e => h (by rw [e]))], Ch.refl _ _⟩
  have h : xs.length = ys.length := by simp at h; omega
  refine ⟨fun i k w' => ∃ j : Nat, i = j ∧ j ≤ xs.length ∧ k = xs.length - j ∧ xs.take j = ys.take j ∧ Ch Non w w', ⟨_, 0, rfl, Nat.zero_le _, rfl, rfl, Ch.refl _ _⟩, ?_⟩
  rintro jk i k w1 ⟨j, rfl, hj, rfl, he, hc⟩
  refine ⟨fun hlt => ?_, fun hge => ?_⟩
  · have hlt : j < xs.length := by have := of_decide_eq_true hlt; omega
    have hlt2 : j < ys.length := by omega
    refine ⟨fun w2 => Ch Non w w2, fun w2 e2 => ⟨hc.andN (Ch.drew e2), ⟨by omega, by omega⟩, Rd.keeps (j := (j : Int).toNat * 1) (S := fun w2 => Ch Non w w2) (fun w2 h2 => ha.keepN h2) hc (by simpa using hlt) fun p hp => ⟨_, hp, ⟨by omega, by omega⟩,
      Rd.keeps (j := (j : Int).toNat * 1) (S := fun w2 => Ch Non w w2) (fun w2 h2 => hb.keepN h2) hc (by simpa using hlt2) fun p2 hp2 => ⟨_, hp2, fun hne => ?_, fun heq => ?_⟩⟩⟩⟩
    · refine ⟨?_, hc.andN (Ch.drew e2)⟩
      rw [decide_eq_false]
      intro e
      subst e
      simp at hne
    · have heq : xs[j] = ys[j] := by simpa using heq
      refine ⟨xs.length - (j + 1), by omega, j + 1, by rw [wrap_id (by omega) (by unfold maxLen at hl; omega)]; rfl, hlt, rfl, ?_, hc.andN (Ch.drew e2)⟩
      rw [take_snoc xs j hlt, take_snoc ys j hlt2, he, heq]
  · have : j = xs.length := by have := of_decide_eq_false hge; omega
    subst this
    rw [List.take_length, h, List.take_length] at he
    exact ⟨by rw [decide_eq_true he], hc⟩
theorem ints18_spec (ha : IV w u xs F) (hb : IV w v ys G) : Calls Try.prog i_coadjutorlaw18_ints #[u, v] w (Ret fun v w' => v = .bool (decide (xs = ys)) ∧ Ch Non w w') := by
  obtain ⟨oa, ca, rfl, h1, h2, ha⟩ := ha
  obtain ⟨ob, cb, rfl, _, _, hb⟩ := hb
  have hl := Nat.le_trans h1 h2
  refine coadjutorlaw18_ints.calls _ _ _ _ _ _ ?_
  unfold coadjutorlaw18_ints.vc
  refine ⟨fun h => ?_, fun h => ?_⟩
  · have h : xs.length ≠ ys.length := by simp at h; omega
    exact ⟨by rw [decide_eq_false (fun e => h (by rw [e]))], Ch.refl _ _⟩
  have h : xs.length = ys.length := by simp at h; omega
  refine ⟨fun i k w' => ∃ j : Nat, i = j ∧ j ≤ xs.length ∧ k = xs.length - j ∧ xs.take j = ys.take j ∧ Ch Non w w', ⟨_, 0, rfl, Nat.zero_le _, rfl, rfl, Ch.refl _ _⟩, ?_⟩
  rintro jk i k w1 ⟨j, rfl, hj, rfl, he, hc⟩
  refine ⟨fun hlt => ?_, fun hge => ?_⟩
  · have hlt : j < xs.length := by have := of_decide_eq_true hlt; omega
    have hlt2 : j < ys.length := by omega
    refine ⟨fun w2 => Ch Non w w2, fun w2 e2 => ⟨hc.andN (Ch.drew e2), ⟨by omega, by omega⟩, Rd.keeps (j := (j : Int).toNat * 1) (S := fun w2 => Ch Non w w2) (fun w2 h2 => ha.keepN h2) hc (by simpa using hlt) fun p hp => ⟨_, hp, ⟨by omega, by omega⟩,
      Rd.keeps (j := (j : Int).toNat * 1) (S := fun w2 => Ch Non w w2) (fun w2 h2 => hb.keepN h2) hc (by simpa using hlt2) fun p2 hp2 => ⟨_, hp2, fun hne => ?_, fun heq => ?_⟩⟩⟩⟩
    · refine ⟨?_, hc.andN (Ch.drew e2)⟩
      rw [decide_eq_false]
      intro e
      subst e
      simp at hne
    · have heq : xs[j] = ys[j] := by simpa using heq
      refine ⟨xs.length - (j + 1), by omega, j + 1, by rw [wrap_id (by omega) (by unfold maxLen at hl; omega)]; rfl, hlt, rfl, ?_, hc.andN (Ch.drew e2)⟩
      rw [take_snoc xs j hlt, take_snoc ys j hlt2, he, heq]
  · have : j = xs.length := by have := of_decide_eq_false hge; omega
    subst this
    rw [List.take_length, h, List.take_length] at he
    exact ⟨by rw [decide_eq_true he], hc⟩
end
end Go.Proofs.Ytfhnegfoglngoaa.IntsT
