/- StepRuns's contract: of all shapes, weights and tokens the Go function answers true and leaves what was there; the conditions stand in each theorem. -/
import Derived.Test.YtbadkcnemcnhfaaGreatDoorStpL
import Derived.Test.YtbadkcnemcnhfaaGreatDoorVcStpR
set_option linter.unusedVariables false
set_option linter.unusedSimpArgs false
namespace Go.Proofs.YtbadkcnemcnhfaaGreatDoor.Stp
open Go Go.Proofs Go.Proofs.YtbadkcnemcnhfaaGreatDoor.V Go.Proofs.YtbadkcnemcnhfaaGreatDoor.Vc Go.Proofs.YtbadkcnemcnhfaaGreatDoor.Conf Go.Proofs.YtbadkcnemcnhfaaGreatDoor.Brain Go.Proofs.YtbadkcnemcnhfaaGreatDoor.Num Go.Proofs.YtbadkcnemcnhfaaGreatDoor.IntsT Go.RowKit

section
variable {w w' : World} {o : Option Addr} {n cp : Nat} {es : List Ent} {F : Nat → Prop}
/-- An element of a row of entries, that stays. -/
theorem PV.get (h : PV w (.slice o n cp) es F) {j : Nat} (hj : j < es.length) : ∃ (a : Addr) (o1 : Option Addr) (c1 : Nat) (o2 : Option Addr) (c2 : Nat), o = some a ∧ n = es.length ∧ EV w (.slice o1 es[j].1.length c1, .slice o2 es[j].2.length c2) es[j] F ∧
    (∀ w', Ch Non w w' → w'.cell? (a.add (j * 2)) = some (.slice o1 es[j].1.length c1) ∧ w'.cell? ((a.add (j * 2)).add 1) = some (.slice o2 es[j].2.length c2)) := by
  obtain ⟨o', c', ps, e, h1, h2, hr, ha⟩ := h
  injection e with e1 e2 e3
  subst e1; subst e2; subst e3
  have hp : j < ps.length := by rw [ha.length]; exact hj
  have hE := ha.get j hp hj
  obtain ⟨a, had, _, _, hc⟩ := Rd.elem (sz := 2) (enc := pairE) hr (fun _ => rfl) (by omega) hp
  obtain ⟨o1, c1, o2, c2, heq⟩ := ents_of hE
  have hE' := hE
  rw [heq] at hE'
  refine ⟨a, o1, c1, o2, c2, had, rfl, hE', fun w' k => ?_⟩
  obtain ⟨a', had', _, _, hc'⟩ := Rd.elem (sz := 2) (enc := pairE) (hr.keepN k) (fun _ => rfl) (by omega) hp
  rw [had] at had'
  injection had' with had'
  subst had'
  have h0 := hc' 0 _ rfl
  have h1 := hc' 1 _ rfl
  rw [add_none] at h0
  rw [heq] at h0 h1
  exact ⟨h0, h1⟩
theorem PV.num (h : PV w (.slice o n cp) es F) : n = es.length := by
  obtain ⟨o', c', ps, e, _⟩ := h
  injection e with e1 e2 e3
end
end Go.Proofs.YtbadkcnemcnhfaaGreatDoor.Stp
