/- For every world of the model: what a block behind which a mark stands has in its cells; the conditions stand in each theorem. -/
import Derived.Test.YtkbikekbaboclaaGreatH
import Derived.Test.YtkbikekbaboclaaGreatPkA
set_option linter.unusedVariables false
set_option linter.unusedSimpArgs false
namespace Go.Proofs.YtkbikekbaboclaaGreat.V
open Go Go.Proofs Go.RowKit
/-- A block of cells with a mark from lo to hi. -/
def FB (w : World) (b : Nat) (cs : List Value) (T lo hi : Nat) : Prop := w.heap[b]? = some (.cells cs.toArray T (lo, hi))
section
variable {w w' : World} {b T lo hi : Nat} {cs : List Value} {F : Nat → Prop}
theorem FB.lt (h : FB w b cs T lo hi) : b < w.heap.size := (Array.getElem?_eq_some_iff.1 h).1
theorem FB.cell (h : FB w b cs T lo hi) (o : Nat) {v : Value} (hv : cs[o]? = some v) : w.cell? ⟨b, o, none⟩ = some v := by
  unfold World.cell?
  rw [show w.heap[(⟨b, o, none⟩ : Addr).block]? = _ from h]
  simpa using hv
theorem FB.ok (h : FB w b cs T lo hi) (o : Nat) {v : Value} (hv : cs[o]? = some v) (hl : o < lo) : (∃ u, w.cell? ⟨b, o, none⟩ = some u) ∧ w.frozen? ⟨b, o, none⟩ = false := by
  refine ⟨⟨v, h.cell o hv⟩, ?_⟩
  unfold World.frozen?
  rw [show w.heap[(⟨b, o, none⟩ : Addr).block]? = _ from h]
  simp
  omega
theorem FB.keep {F : Nat → Prop} (h : FB w b cs T lo hi) (hc : Ch F w w') (hF : ¬ F b) : FB w' b cs T lo hi := (hc.block b h.lt hF).trans h
theorem FB.keepN (h : FB w b cs T lo hi) (hc : Ch Non w w') : FB w' b cs T lo hi := h.keep hc id
theorem FB.set (h : FB w b cs T lo hi) {o : Nat} {v : Value} (e : w' = w.setCell ⟨b, o, none⟩ v) : FB w' b (cs.set o v) T lo hi := by
  subst e
  unfold FB World.setCell at *
  simp only [Array.getElem?_modify]
  rw [if_pos trivial, h]
  simp
theorem FB.rd (h : FB w b cs T lo hi) {xs : List Value} (hx : ∀ (j : Nat) (v : Value), xs[j]? = some v → cs[j]? = some v) : Rd w (some ⟨b, 0, none⟩) xs (· = b) := fun j v hj => ⟨_, rfl, rfl, h.lt, by rw [add_at, Nat.zero_add]; exact h.cell j (hx j v hj)⟩
end
end Go.Proofs.YtkbikekbaboclaaGreat.V
