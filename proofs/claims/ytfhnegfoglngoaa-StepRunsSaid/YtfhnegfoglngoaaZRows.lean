/- For rows of rows of whole numbers: whether all are as long as the first; the conditions stand in each theorem. -/
import Derived.Test.YtfhnegfoglngoaaH
set_option linter.unusedVariables false
set_option linter.unusedSimpArgs false
namespace Go.Proofs.Ytfhnegfoglngoaa.V
open Go Go.Proofs Go.RowKit

/-- Rows, each with where it lies. -/
abbrev RowD := Option Addr × Nat × List Int
def encR (x : RowD) : Value := .slice x.1 x.2.2.length x.2.1
def wid (zs : List RowD) : Nat := (zs[0]?.map (·.2.2.length)).getD 0
def sameL (zs : List RowD) : Bool := zs.all fun z => decide (z.2.2.length = wid zs)
theorem wid_pos {zs : List RowD} (h : 0 < zs.length) : wid zs = zs[0].2.2.length := by unfold wid; rw [List.getElem?_eq_getElem h]; rfl
theorem same_no {zs : List RowD} {j : Nat} (h : j < zs.length) (hn : zs[j].2.2.length ≠ wid zs) : sameL zs = false := by
  unfold sameL; rw [List.all_eq_false]; exact ⟨zs[j], List.getElem_mem h, by simpa using hn⟩
theorem same_yes {zs : List RowD} (h : ∀ z ∈ zs, z.2.2.length = wid zs) : sameL zs = true := by
  unfold sameL; rw [List.all_eq_true]; exact fun z hz => by simpa using h z hz
theorem same_all {zs : List RowD} (h : sameL zs = true) : ∀ z ∈ zs, z.2.2.length = wid zs := fun z hz => by
  have := List.all_eq_true.1 h z hz; simpa using this
/-- A sum's bounds. -/
theorem sum_bd {b : Int} : ∀ {l : List Int}, (∀ x ∈ l, -b ≤ x ∧ x ≤ b) → -(b * l.length) ≤ l.sum ∧ l.sum ≤ b * l.length
  | [], _ => by simp
  | x :: r, h => by
    have ih := sum_bd (l := r) (fun y hy => h y (by simp [hy]))
    have hx := h x (by simp)
    have e : b * ((x :: r).length : Int) = b * r.length + b := by simp [Int.mul_add]
    rw [e, List.sum_cons]
    omega
theorem sum_snoc (l : List Int) (x : Int) : (l ++ [x]).sum = l.sum + x := by simp
theorem mul_bd {A B x y : Int} (h1 : -A ≤ x) (h2 : x ≤ A) (h3 : -B ≤ y) (h4 : y ≤ B) : -(A * B) ≤ x * y ∧ x * y ≤ A * B := by
  have a1 := Int.mul_nonneg (show 0 ≤ A - x by omega) (show 0 ≤ B + y by omega)
  have a2 := Int.mul_nonneg (show 0 ≤ A + x by omega) (show 0 ≤ B - y by omega)
  have a3 := Int.mul_nonneg (show 0 ≤ A - x by omega) (show 0 ≤ B - y by omega)
  have a4 := Int.mul_nonneg (show 0 ≤ A + x by omega) (show 0 ≤ B + y by omega)
  simp only [Int.sub_mul, Int.add_mul, Int.mul_sub, Int.mul_add] at a1 a2 a3 a4
  omega
/-- The greatest. -/
def maxL : List Int → Int
  | [] => 0
  | [x] => x
  | x :: y :: r => if x > maxL (y :: r) then x else maxL (y :: r)
theorem maxL_is : ∀ {l : List Int}, l ≠ [] → maxL l ∈ l ∧ ∀ x ∈ l, x ≤ maxL l
  | [], h => absurd rfl h
  | [x], _ => by simp [maxL]
  | x :: y :: r, _ => by
    obtain ⟨h1, h2⟩ := maxL_is (l := y :: r) (by simp)
    unfold maxL
    split
    · refine ⟨by simp, fun z hz => ?_⟩
      rcases List.mem_cons.1 hz with rfl | hz
      · omega
      · have := h2 z hz; omega
    · refine ⟨List.mem_cons_of_mem _ h1, fun z hz => ?_⟩
      rcases List.mem_cons.1 hz with rfl | hz
      · omega
      · exact h2 z hz
theorem maxL_uniq {l : List Int} {m : Int} (h1 : m ∈ l) (h2 : ∀ x ∈ l, x ≤ m) : m = maxL l := by
  obtain ⟨a, b⟩ := maxL_is (l := l) (fun h => by subst h; simp at h1)
  have := h2 _ a
  have := b _ h1
  omega
end Go.Proofs.Ytfhnegfoglngoaa.V
