/- For every pool of pages: what layer 22's functions answer where there is no pool, what the law's own comparison answers, and two pools side by side; the conditions stand in each theorem. -/
import Derived.Test.YtkbikekbaboclaaGreatPagesLaw4
import Derived.Test.YtkbikekbaboclaaGreatVcPagesN
set_option linter.unusedVariables false
set_option linter.unusedSimpArgs false
namespace Go.Proofs.YtkbikekbaboclaaGreat.Pages
open Go Go.Proofs Go.Proofs.YtkbikekbaboclaaGreat.V Go.Proofs.YtkbikekbaboclaaGreat.Vc Go.Proofs.YtkbikekbaboclaaGreat.Step Go.RowKit

section
variable {w : World} {o : Option Addr} {l : List Int} {F G : Nat → Prop}
end
theorem ofL_prefix (ps : List PageD) (v : Int) {j m : Nat} (h : j ≤ m) : ofL ps v j <+: ofL ps v m := by
  induction m with
  | zero => obtain rfl : j = 0 := by omega
            exact List.prefix_rfl
  | succ m ih =>
    by_cases e : j = m + 1
    · subst e; exact List.prefix_rfl
    · rw [ofL_succ]
      exact (ih (by omega)).trans (List.prefix_append _ _)
theorem ofL_at {ps : List PageD} {v : Int} {j n : Nat} (hj : j < n) (hb : isB ps (j : Int) = true) (hv : (pgAt ps (j : Int)).ver = v) : (ofL ps v n)[(ofL ps v j).length]? = some (j : Int) := by
  have h := ofL_prefix ps v (show j + 1 ≤ n by omega)
  have hs := ofL_succ ps v j
  rw [hb, hv] at hs
  simp only [Bool.true_and, beq_self_eq_true, if_true] at hs
  obtain ⟨t, ht⟩ := h
  rw [← ht, hs, List.append_assoc, List.getElem?_append_right (Nat.le_refl _), Nat.sub_self]
  rfl
section
variable {w w' : World} {ub : Nat} {ps : List PageD} {F : Nat → Prop}
end
/-- Two pools side by side, each with its own part of what was laid since W. -/
structure Both (W w : World) (pb ub : Nat) (ps qs : List PageD) (F FU : Nat → Prop) : Prop where
  p : Pool W w pb ps F
  r : FPoolR w ub qs FU
  f : Foot W w FU
  ap : Apart F FU
section
variable {W w w' : World} {pb ub : Nat} {ps qs ps' qs' : List PageD} {F FU G : Nat → Prop}
theorem Both.keepN (h : Both W w pb ub ps qs F FU) (hc : Ch Non w w') : Both W w' pb ub ps qs F FU := ⟨h.p.keepN hc, h.r.keepN hc, h.f.le hc.size, h.ap⟩
theorem Both.far (h : Both W w pb ub ps qs F FU) (hc : Ch G w w') (hG : ∀ i, G i → i < w.heap.size → W.heap.size ≤ i ∧ ¬ F i ∧ ¬ FU i) : Both W w' pb ub ps qs F FU :=
  ⟨⟨h.p.r.keep hc (fun i hi hF hg => (hG i hg hi).2.1 hF), h.p.f.le hc.size, h.p.c.trans hc (fun i hi hg => by
    by_cases hw : i < w.heap.size
    · have := (hG i hg hw).1; omega
    · have := h.p.c.size; omega)⟩, h.r.keep hc (fun i hi hF hg => (hG i hg hi).2.2 hF), h.f.le hc.size, h.ap⟩
theorem Both.stepE (h : Both W w pb ub ps qs F FU) (hr : FPoolR w' ub qs' (fun i => Ext FU w w' i ∨ G i)) (hc : Ch FU w w') (hG : ∀ i, G i → W.heap.size ≤ i ∧ i < w.heap.size ∧ ¬ F i) : Both W w' pb ub ps qs' F (fun i => Ext FU w w' i ∨ G i) := by
  have hs := h.p.c.size
  refine ⟨⟨h.p.r.keep hc (fun i _ hf hu => h.ap i hf hu), h.p.f.le hc.size, h.f.hi h.p.c hc⟩, hr, fun i hi => ?_, fun i h1 h2 => ?_⟩
  · rcases hi with (hi | hi) | hi
    · exact ⟨(h.f i hi).1, Nat.lt_of_lt_of_le (h.f i hi).2 hc.size⟩
    · exact ⟨by have := hi.1; omega, hi.2⟩
    · exact ⟨(hG i hi).1, Nat.lt_of_lt_of_le (hG i hi).2.1 hc.size⟩
  · rcases h2 with (h2 | h2) | h2
    · exact h.ap i h1 h2
    · exact absurd (h.p.lt i h1) (Nat.not_lt.2 h2.1)
    · exact (hG i h2).2.2 h1
end
end Go.Proofs.YtkbikekbaboclaaGreat.Pages
