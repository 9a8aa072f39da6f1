/- For every world of the model: what a slice of structs that is read as data has in its cells; the conditions stand in each theorem. -/
import Derived.Test.YtbadkcnemcnhfaaDoorH
set_option linter.unusedVariables false
set_option linter.unusedSimpArgs false
namespace Go.Proofs.YtbadkcnemcnhfaaDoor.V
open Go Go.Proofs Go.RowKit

section
variable {P : Program} {w w' : World} {t e : TypeId} {cs : List Value} {α : Type} {enc : α → List Value} {Q : α → Prop} {o : Option Addr} {F : Nat → Prop} {sz : Nat}
/-- A slice, each of whose elements is told by something. -/
theorem DatC.sliceOf (h : DatC P w t cs) (hu : P.underlying t = some (.slice e)) (hel : ∀ x, x.length = P.cellsOf e → DatC P w e x → ∃ y, x = enc y ∧ Q y) :
    ∃ (o : Option Addr) (c : Nat) (ys : List α), cs = [.slice o ys.length c] ∧ ys.length ≤ c ∧ c ≤ maxLen ∧ ys.length * P.bytesOf e ≤ 140737488351232 ∧ (∀ y ∈ ys, Q y) ∧ Rd w o (ys.map enc).flatten (fun _ => True) := by
  obtain ⟨o, n, c, es, hc, h1, h2, h3, hl, hes, hr⟩ := h.slice hu
  obtain ⟨ys, hyl, hy⟩ := all_choose (R := fun (x : List Value) (y : α) => x = enc y ∧ Q y) (l := es) (fun x hx => hel x (hes x hx).1 (hes x hx).2)
  have hm := eq_map_of hyl (f := enc) (fun i x y ha hb => (hy i x y ha hb).1)
  subst hl
  rw [← hyl] at hc h1 h3
  refine ⟨o, c, ys, hc, h1, h2, h3, fun y hym => ?_, by rw [← hm]; exact hr⟩
  obtain ⟨i, hi⟩ := List.getElem?_of_mem hym
  have hlt := (List.getElem?_eq_some_iff.1 hi).1
  exact (hy i _ y (List.getElem?_eq_getElem (by omega)) hi).2
theorem flatten_at (ys : List α) (hsz : ∀ y, (enc y).length = sz) {j q : Nat} (hj : j < ys.length) (hq : q < sz) : (ys.map enc).flatten[j * sz + q]? = (enc ys[j])[q]? := by
  induction ys generalizing j with
  | nil => simp at hj
  | cons y r ih =>
    rw [List.map_cons, List.flatten_cons]
    cases j with
    | zero => rw [Nat.zero_mul, Nat.zero_add, List.getElem?_append_left (by rw [hsz]; exact hq)]; rfl
    | succ j =>
      rw [List.getElem?_append_right (by rw [hsz, Nat.succ_mul]; omega), hsz, show (j + 1) * sz + q - sz = j * sz + q by rw [Nat.succ_mul]; omega]
      rw [ih (j := j) (by simpa using hj)]; rfl
/-- An element of such a row. -/
theorem Rd.elem {ys : List α} (h : Rd w o (ys.map enc).flatten F) (hsz : ∀ y, (enc y).length = sz) (hpos : 0 < sz) {j : Nat} (hj : j < ys.length) : ∃ p, o = some p ∧ p.block < w.heap.size ∧ F p.block ∧ ∀ q v, (enc ys[j])[q]? = some v → w.cell? ((p.add (j * sz)).add q) = some v := by
  have h0 : (ys.map enc).flatten[j * sz + 0]? = some ((enc ys[j])[0]'(by rw [hsz]; exact hpos)) := by rw [flatten_at ys hsz hj hpos]; exact List.getElem?_eq_getElem _
  obtain ⟨p, hp, hF, hlt, _⟩ := h _ _ h0
  refine ⟨p, hp, hlt, hF, fun q v hv => ?_⟩
  have hq : q < sz := by
    have := (List.getElem?_eq_some_iff.1 hv).1
    rwa [hsz] at this
  have h1 : (ys.map enc).flatten[j * sz + q]? = some v := by rw [flatten_at ys hsz hj hq]; exact hv
  obtain ⟨p', hp', _, _, hc⟩ := h _ _ h1
  rw [hp] at hp'
  injection hp' with hp'
  subst hp'
  rw [add_add]; exact hc
end
end Go.Proofs.YtbadkcnemcnhfaaDoor.V
