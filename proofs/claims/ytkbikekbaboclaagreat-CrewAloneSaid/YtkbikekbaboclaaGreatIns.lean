/- For every world of the model: what copy leaves, and what a row of one's own has when an element is put ahead of all; the conditions stand in each theorem. -/
import Derived.Test.YtkbikekbaboclaaGreatCut
import Derived.Test.YtkbikekbaboclaaGreatVcWardI
import Derived.Lib.Overlaps
import Derived.Lib.AppendZerosOnto
import Derived.Laws.IdiomCopy
set_option linter.unusedVariables false
set_option linter.unusedSimpArgs false
namespace Go.Proofs.YtkbikekbaboclaaGreat.V
open Go Go.Proofs Go.Proofs.YtkbikekbaboclaaGreat.Vc Go.RowKit

section
variable {P : Program} {w w' : World} {t T sz n c bytes g : Nat} {o : Option Addr} {cs cur : List Value} {F : Nat → Prop}
/-- copy(d, s) into a block: all is read before anything is written. -/
theorem Blk.copy (el : Elem P t T sz bytes) (h : Blk w g cur T) (ty : TypeId) {off dLen dCap sLen sCap m : Nat} {a : Addr} (hm : m = Nat.min sLen dLen) (hl : cs.length = m * sz)
    (hsrc : ∀ j v, cs[j]? = some v → w.cell? (a.add j) = some v) (hfit : off + cs.length ≤ cur.length) (h1 : ∀ v ∈ cs, v.oneCell' = true) :
    ∃ w', (Builtin.copy_ #[t, t] ty #[.slice (some ⟨g, off, none⟩) dLen dCap, .slice (some a) sLen sCap]).run P w = .ok (.int .i64 m) w' ∧ Blk w' g (cur.take off ++ cs ++ cur.drop (off + cs.length)) T ∧ Ch (· = g) w w' := by
  obtain ⟨inf, z, hinf, hz, hs, hb, hzs⟩ := el.inf
  have hld := run_loadCells_list (P := P) w a cs hsrc
  have hst := run_storeCells_cells (P := P) g off cs 0 w
    (fun j hj => by
      rw [h.cells]; simp only [Nat.add_zero, Option.isSome_iff_ne_none, ne_eq, List.getElem?_eq_none_iff, Nat.not_le]; omega)
    (fun j hj => h.frozen _ rfl) h1
  simp only [Nat.add_zero] at hst
  obtain ⟨b1, b2, b3, b4, b5⟩ := setCells_blk cs off h hfit
  refine ⟨_, ?_, b1, ⟨b2, b3, b4, by rw [b5]; exact Nat.le_refl _, fun k _ hk => setCells_far _ _ k (fun he => hk he)⟩⟩
  have hz0 : (⟨g, off, none⟩ : Addr) = (⟨g, off, none⟩ : Addr).add 0 := by rw [add_none]
  simp [Builtin.copy_, Sem.run_bind, run_underlying el.und, Builtin.lenOf, Builtin.firstCells, sizeOf, typeInfo, hinf, hs, ← hm, ← hl, hld, hst, pure, Sem.run, Result.andThen, goInt, program]
end
end Go.Proofs.YtkbikekbaboclaaGreat.V
