/- For all rows of whole numbers: what layer 1's Dot answers; the conditions stand in each theorem. -/
import Derived.Test.YtbadkcnemcnhfaaDoorNumM
import Derived.Test.YtbadkcnemcnhfaaDoorNumS
set_option linter.unusedVariables false
set_option linter.unusedSimpArgs false
namespace Go.Proofs.YtbadkcnemcnhfaaDoor.Num
open Go Go.Proofs Go.Proofs.YtbadkcnemcnhfaaDoor.V Go.Proofs.YtbadkcnemcnhfaaDoor.Vc Go.RowKit

section
variable {w : World} {oa ob : Option Addr} {ca cb : Nat} {xs ys : List Int} {F G : Nat → Prop}
def dotC (xs ys : List Int) : Int := (List.zipWith product xs ys).foldl (fun out p => clamp (out + p) (-4611686018427387904) 4611686018427387904) 0
theorem zip_take {xs ys : List Int} {j : Nat} (h1 : j < xs.length) (h2 : j < ys.length) : (List.zipWith product xs ys).take (j + 1) = (List.zipWith product xs ys).take j ++ [product xs[j] ys[j]] := by
  rw [List.take_succ_eq_append_getElem (by simp; omega)]; simp
end
theorem dotC_le (xs ys : List Int) : -4611686018427387904 ≤ dotC xs ys ∧ dotC xs ys ≤ 4611686018427387904 := by
  unfold dotC
  generalize List.zipWith product xs ys = l
  refine snoc_ind (p := fun l => -4611686018427387904 ≤ List.foldl (fun out p => clamp (out + p) (-4611686018427387904) 4611686018427387904) 0 l ∧ List.foldl (fun out p => clamp (out + p) (-4611686018427387904) 4611686018427387904) 0 l ≤ 4611686018427387904) ⟨by decide, by decide⟩ (fun l x _ => ?_) l
  rw [List.foldl_append]
  exact clamp_le (by omega)
theorem sumC_dot (xs ys : List Int) : sumC (List.zipWith product xs ys) = dotC xs ys := by
  unfold sumC dotC
  have hl : ∀ p ∈ List.zipWith product xs ys, clamp p (-2305843009213693952) 2305843009213693952 = p := by
    intro p hp
    obtain ⟨i, hi, rfl⟩ := List.getElem_of_mem hp
    rw [List.getElem_zipWith]
    have := product_le (xs[i]'(by simp at hi; omega)) (ys[i]'(by simp at hi; omega))
    exact clamp_id (by omega) (by omega)
  generalize List.zipWith product xs ys = l at hl
  generalize (0 : Int) = a
  induction l generalizing a with
  | nil => rfl
  | cons p r ih =>
    rw [List.foldl_cons, List.foldl_cons, hl p (by simp)]
    exact ih (fun q hq => hl q (by simp [hq])) _
end Go.Proofs.YtbadkcnemcnhfaaDoor.Num
