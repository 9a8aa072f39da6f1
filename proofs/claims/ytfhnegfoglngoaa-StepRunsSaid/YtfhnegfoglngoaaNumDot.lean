/- For all rows of whole numbers: what layer 1's Dot answers; the conditions stand in each theorem. -/
import Derived.Test.YtfhnegfoglngoaaNumM
import Derived.Test.YtfhnegfoglngoaaNumS
set_option linter.unusedVariables false
set_option linter.unusedSimpArgs false
namespace Go.Proofs.Ytfhnegfoglngoaa.Num
open Go Go.Proofs Go.Proofs.Ytfhnegfoglngoaa.V Go.Proofs.Ytfhnegfoglngoaa.Vc Go.RowKit

section
variable {w : World} {oa ob : Option Addr} {ca cb : Nat} {xs ys : List Int} {F G : Nat → Prop}
def dotC (xs ys : List Int) : Int := (List.zipWith product xs ys).foldl (fun out p => clamp (out + p) (-4611686018427387904) 4611686018427387904) 0
theorem zip_take {xs ys : List Int} {j : Nat} (h1 : j < xs.length) (h2 : j < ys.length) : (List.zipWith product xs ys).take (j + 1) = (List.zipWith product xs ys).take j ++ [product xs[j] ys[j]] := by
  rw [List.take_succ_eq_append_getElem (by simp; omega)]; simp
theorem Dot_spec (hx : Rd w oa (xs.map (.int .i64)) F) (hy : Rd w ob (ys.map (.int .i64)) G) (hl : xs.length ≤ 1000000) : Calls Try.prog i_num_Dot #[.slice oa xs.length ca, .slice ob ys.length cb] w (Ret fun v w' => v = .int .i64 (dotC xs ys) ∧ Ch Non w w') := by
  refine num_Dot.calls _ _ _ _ _ _ ?_
  unfold num_Dot.vc
  have hmin : (if ((ys.length : Nat) : Int) < ((xs.length : Nat) : Int) then ((ys.length : Nat) : Int) else ((xs.length : Nat) : Int)) = ((min xs.length ys.length : Nat) : Int) := by split <;> omega
  rw [hmin]
  refine ⟨fun m i k w' => Ch Non w w' ∧ -4611686018427387904 ≤ m ∧ m ≤ 4611686018427387904 ∧ ∃ j : Nat, i = j ∧ j ≤ min xs.length ys.length ∧ k = min xs.length ys.length - j ∧ m = ((List.zipWith product xs ys).take j).foldl (fun out p => clamp (out + p) (-4611686018427387904) 4611686018427387904) 0, ⟨_, Ch.refl _ _, by omega, by omega, 0, rfl, Nat.zero_le _, rfl, rfl⟩, ?_⟩
  rintro jk m i k w1 ⟨hc, hm1, hm2, j, rfl, hj, rfl, hm⟩
  refine ⟨fun hlt => ?_, fun hge => ?_⟩
  · have hlt : j < min xs.length ys.length := by simp at hlt; omega
    refine ⟨fun w' => Ch Non w w', fun w2 e2 => ⟨hc.andN (Ch.drew e2), ⟨by omega, by omega⟩, Rd.keeps (j := (j : Int).toNat * 1) (S := fun w2 => Ch Non w w2) (fun w2 h2 => hx.keepN h2) hc (by simp; omega) fun p hp => ⟨_, hp, ⟨by omega, by omega⟩,
      Rd.keeps (j := (j : Int).toNat * 1) (S := fun w2 => Ch Non w w2) (fun w2 h2 => hy.keepN h2) hc (by simp; omega) fun p2 hp2 => ⟨_, hp2, ?_⟩⟩⟩⟩
    have hc2 := hc.andN (Ch.drew (F := Non) e2)
    refine step_call (product_spec w2 _ _) ?_
    rintro v w3 ⟨rfl, rfl⟩
    refine ⟨_, rfl, hc2, ?_⟩
    have hp := product_le (xs[(j : Int).toNat * 1]'(by simp; omega)) (ys[(j : Int).toNat * 1]'(by simp; omega))
    rw [wrap_id (x := m + _) (by omega) (by omega)]
    refine step_call (Clamp_spec _ _ _ _) ?_
    rintro v w4 ⟨rfl, rfl⟩
    have hcl := clamp_le (x := m + product (xs[(j : Int).toNat * 1]'(by simp; omega)) (ys[(j : Int).toNat * 1]'(by simp; omega))) (low := -4611686018427387904) (high := 4611686018427387904) (by omega)
    refine ⟨_, rfl, hc2, min xs.length ys.length - (j + 1), by omega, hc2, hcl.1, hcl.2, j + 1, by rw [wrap_id (by omega) (by omega)]; rfl, hlt, rfl, ?_⟩
    rw [zip_take (by omega) (by omega), List.foldl_append, ← hm]; simp
  · have : j = min xs.length ys.length := by simp at hge; omega
    subst this
    rw [List.take_of_length_le (by simp)] at hm
    exact ⟨by rw [hm]; rfl, hc⟩
end
theorem dotC_le (xs ys : List Int) : -4611686018427387904 ≤ dotC xs ys ∧ dotC xs ys ≤ 4611686018427387904 := by
  unfold dotC
  generalize List.zipWith product xs ys = l
  refine snoc_ind (p := fun l => -4611686018427387904 ≤ List.foldl (fun out p => clamp (out + p) (-4611686018427387904) 4611686018427387904) 0 l ∧ List.foldl (fun out p => clamp (out + p) (-4611686018427387904) 4611686018427387904) 0 l ≤ 4611686018427387904) ⟨by decide, by decide⟩ (fun l x _ => ?_) l
  rw [List.foldl_append]
  exact clamp_le (by omega)
theorem sumC_dot (xs ys : List Int) : sumC (List.zipWith product xs ys) = dotC xs ys := by
  unfold sumC dotC
  have hl : ∀ p ∈ List.zipWith product xs ys, clamp p (-2305843009213693952) 2305843009213693952 = p := by
    intro p hp
    obtain ⟨i, hi, rfl⟩ := List.getElem_of_mem hp
    rw [List.getElem_zipWith]
    have := product_le (xs[i]'(by simp at hi; omega)) (ys[i]'(by simp at hi; omega))
    exact clamp_id (by omega) (by omega)
  generalize List.zipWith product xs ys = l at hl
  generalize (0 : Int) = a
  induction l generalizing a with
  | nil => rfl
  | cons p r ih =>
    rw [List.foldl_cons, List.foldl_cons, hl p (by simp)]
    exact ih (fun q hq => hl q (by simp [hq])) _
end Go.Proofs.Ytfhnegfoglngoaa.Num
