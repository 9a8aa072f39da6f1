/- StepRuns's contract: of all shapes, weights and tokens the Go function answers true and leaves what was there; the conditions stand in each theorem. -/
import Derived.Test.YtbadkcnemcnhfaaGreatDoorStpL
import Derived.Test.YtbadkcnemcnhfaaGreatDoorVcStpR
set_option linter.unusedVariables false
set_option linter.unusedSimpArgs false
namespace Go.Proofs.YtbadkcnemcnhfaaGreatDoor.Stp
open Go Go.Proofs Go.Proofs.YtbadkcnemcnhfaaGreatDoor.V Go.Proofs.YtbadkcnemcnhfaaGreatDoor.Vc Go.Proofs.YtbadkcnemcnhfaaGreatDoor.Conf Go.Proofs.YtbadkcnemcnhfaaGreatDoor.Brain Go.Proofs.YtbadkcnemcnhfaaGreatDoor.Num Go.Proofs.YtbadkcnemcnhfaaGreatDoor.IntsT Go.RowKit

section
variable {w w' : World} {o : Option Addr} {n cp : Nat} {es : List Ent} {F : Nat → Prop}
/-- An element of a row of entries, that stays. -/
theorem PV.get (h : PV w (.slice o n cp) es F) {j : Nat} (hj : j < es.length) : ∃ (a : Addr) (o1 : Option Addr) (c1 : Nat) (o2 : Option Addr) (c2 : Nat), o = some a ∧ n = es.length ∧ EV w (.slice o1 es[j].1.length c1, .slice o2 es[j].2.length c2) es[j] F ∧
    (∀ w', Ch Non w w' → w'.cell? (a.add (j * 2)) = some (.slice o1 es[j].1.length c1) ∧ w'.cell? ((a.add (j * 2)).add 1) = some (.slice o2 es[j].2.length c2)) := by
  obtain ⟨o', c', ps, e, h1, h2, hr, ha⟩ := h
  injection e with e1 e2 e3
  subst e1; subst e2; subst e3
  have hp : j < ps.length := by rw [ha.length]; exact hj
  have hE := ha.get j hp hj
  obtain ⟨a, had, _, _, hc⟩ := Rd.elem (sz := 2) (enc := pairE) hr (fun _ => rfl) (by omega) hp
  obtain ⟨o1, c1, o2, c2, heq⟩ := ents_of hE
  have hE' := hE
  rw [heq] at hE'
  refine ⟨a, o1, c1, o2, c2, had, rfl, hE', fun w' k => ?_⟩
  obtain ⟨a', had', _, _, hc'⟩ := Rd.elem (sz := 2) (enc := pairE) (hr.keepN k) (fun _ => rfl) (by omega) hp
  rw [had] at had'
  injection had' with had'
  subst had'
  have h0 := hc' 0 _ rfl
  have h1 := hc' 1 _ rfl
  rw [add_none] at h0
  rw [heq] at h0 h1
  exact ⟨h0, h1⟩
theorem PV.num (h : PV w (.slice o n cp) es F) : n = es.length := by
  obtain ⟨o', c', ps, e, _⟩ := h
  injection e with e1 e2 e3
end
/-- Rows that a comparison can take. -/
theorem rows_small {n d : Nat} {l : List (List Int)} (h : rowsOk n d l) (hn : n ≤ 1000000) (hd : d ≤ 1000000) : Step.small l := ⟨by rw [h.1]; exact hn, fun r hr => Nat.le_trans (by rw [(h.2 r hr).1]; exact hd) (show 1000000 ≤ 17592186043904 by decide)⟩
theorem good_small {c : CfD} {e : Ent} (ok : okC c) (h : goodE c e) : Step.small e.1 ∧ Step.small e.2 := by
  have h1 := ok.2.1
  have h2 := ok.2.2.2.1
  exact ⟨rows_small h.1 (by omega) (by omega), rows_small h.2 (by omega) (by omega)⟩
def badT (c : CfD) (t : Int) : Bool := decide (t < 0) || decide (t ≥ c.vocab)
theorem badT_iff {c : CfD} {t : Int} : badT c t = false ↔ tokOk c t := by
  unfold badT tokOk
  rw [Bool.or_eq_false_iff, decide_eq_false_iff_not, decide_eq_false_iff_not]
  omega
theorem runE_take {c : CfD} {wt : ByteArray} (ts : List Int) (k : Nat) : newE c wt (newE c wt [] (ts.take k)) (ts.drop k) = (newE c wt [] ts).drop k ∧ (newE c wt [] (ts.take k)).length = min k ts.length ∧ ∀ j, j < (newE c wt [] ts).length → True := by
  refine ⟨?_, by rw [newE_len, List.length_take], fun _ _ => trivial⟩
  have e : ∀ l : List Int, newE c wt [] l = runE c wt [] l := fun l => rfl
  rw [e, e]
  unfold newE
  rw [← runE_app, List.take_append_drop, runE_len, List.length_take, List.length_nil, Nat.zero_add]
  by_cases h : k ≤ ts.length
  · rw [Nat.min_eq_left h]
  · rw [Nat.min_eq_right (by omega), List.drop_of_length_le (by rw [runE_len]; simp), List.drop_of_length_le (by rw [runE_len]; simp; omega)]
theorem newE_at {c : CfD} {wt : ByteArray} (ts : List Int) {j : Nat} (hj : j < ts.length) : (newE c wt [] ts)[j]'(by rw [newE_len]; exact hj) = stepE c wt (newE c wt [] (ts.take j)) ts[j] := by
  have h1 : newE c wt [] ts = newE c wt [] (ts.take (j + 1)) ++ newE c wt (newE c wt [] (ts.take (j + 1))) (ts.drop (j + 1)) := by
    have := runE_app (c := c) (wt := wt) (past := []) (ts.take (j + 1)) (b := ts.drop (j + 1))
    rw [List.take_append_drop] at this
    show runE c wt [] ts = _
    rw [this, runE_new]
    rfl
  have h2 : newE c wt [] (ts.take (j + 1)) = newE c wt [] (ts.take j) ++ [stepE c wt (newE c wt [] (ts.take j)) ts[j]] := by
    rw [take_snoc ts j hj, newE_snoc]; rfl
  have hl : (newE c wt [] (ts.take j)).length = j := by rw [newE_len, List.length_take]; omega
  have h3 : newE c wt [] ts = newE c wt [] (ts.take j) ++ ([stepE c wt (newE c wt [] (ts.take j)) ts[j]] ++ newE c wt (newE c wt [] (ts.take (j + 1))) (ts.drop (j + 1))) := by rw [h1, h2, List.append_assoc, ← h2]
  rw [List.getElem_of_eq h3, List.getElem_append_right (by omega)]
  simp [hl]
end Go.Proofs.YtbadkcnemcnhfaaGreatDoor.Stp
