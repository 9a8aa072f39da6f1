/- For all rows of whole numbers: what layer 1's Sum answers. -/
import Derived.Test.YtbadkcnemcnhfaaDoorNumA
set_option linter.unusedVariables false
set_option linter.unusedSimpArgs false
namespace Go.Proofs.YtbadkcnemcnhfaaDoor.Num
open Go Go.Proofs Go.Proofs.YtbadkcnemcnhfaaDoor.V Go.Proofs.YtbadkcnemcnhfaaDoor.Vc

/-- A sum, one behind the other. -/
def sumC (l : List Int) : Int := l.foldl (fun out x => clamp (out + clamp x (-2305843009213693952) 2305843009213693952) (-4611686018427387904) 4611686018427387904) 0
theorem sumC_snoc (l : List Int) (x : Int) : sumC (l ++ [x]) = clamp (sumC l + clamp x (-2305843009213693952) 2305843009213693952) (-4611686018427387904) 4611686018427387904 := by
  unfold sumC; rw [List.foldl_append]; rfl
theorem snoc_ind {α : Type} {p : List α → Prop} (h0 : p []) (h1 : ∀ l x, p l → p (l ++ [x])) (l : List α) : p l := by
  have h : ∀ m : List α, p m.reverse := fun m => by
    induction m with
    | nil => exact h0
    | cons x r ih => rw [List.reverse_cons]; exact h1 _ _ ih
  have := h l.reverse
  rwa [List.reverse_reverse] at this
theorem sumC_le (l : List Int) : -4611686018427387904 ≤ sumC l ∧ sumC l ≤ 4611686018427387904 := by
  refine snoc_ind (p := fun l => -4611686018427387904 ≤ sumC l ∧ sumC l ≤ 4611686018427387904) ⟨by decide, by decide⟩ (fun l x _ => ?_) l
  rw [sumC_snoc]
  exact clamp_le (by omega)
/-- Where nothing is cut off: the sum. -/
theorem sumC_sum {b : Int} (hb : 0 ≤ b) (l : List Int) (h : ∀ x ∈ l, -b ≤ x ∧ x ≤ b) (hl : b * l.length ≤ 2305843009213693952) (hb2 : b ≤ 2305843009213693952) : sumC l = l.sum ∧ -(b * l.length) ≤ l.sum ∧ l.sum ≤ b * l.length := by
  have main : ∀ l : List Int, (∀ x ∈ l, -b ≤ x ∧ x ≤ b) → b * l.length ≤ 2305843009213693952 → sumC l = l.sum ∧ -(b * l.length) ≤ l.sum ∧ l.sum ≤ b * l.length := by
    intro l
    refine snoc_ind (p := fun l => (∀ x ∈ l, -b ≤ x ∧ x ≤ b) → b * l.length ≤ 2305843009213693952 → sumC l = l.sum ∧ -(b * l.length) ≤ l.sum ∧ l.sum ≤ b * l.length) (fun _ _ => by simp [sumC]) (fun l x ih h hl => ?_) l
    have e : b * ((l ++ [x]).length : Int) = b * l.length + b := by simp [Int.mul_add]
    rw [e] at hl ⊢
    have hx := h x (by simp)
    obtain ⟨i1, i2, i3⟩ := ih (fun y hy => h y (by simp [hy])) (by omega)
    have es : (l ++ [x]).sum = l.sum + x := by simp
    rw [sumC_snoc, i1, es, clamp_id (x := x) (by omega) (by omega), clamp_id (by omega) (by omega)]
    exact ⟨rfl, by omega, by omega⟩
  exact main l h hl
theorem take_snoc {α : Type} (l : List α) (j : Nat) (h : j < l.length) : l.take (j + 1) = l.take j ++ [l[j]] := List.take_succ_eq_append_getElem h
end Go.Proofs.YtbadkcnemcnhfaaDoor.Num
