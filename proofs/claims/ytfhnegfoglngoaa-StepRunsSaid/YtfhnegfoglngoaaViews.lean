/- For every world of the model: what rows of rows of numbers, entries, and rows of entries that are read have in their cells; the conditions stand in each theorem. -/
import Derived.Test.YtfhnegfoglngoaaBrain
set_option linter.unusedVariables false
set_option linter.unusedSimpArgs false
namespace Go.Proofs.Ytfhnegfoglngoaa.Brain
open Go Go.Proofs Go.Proofs.Ytfhnegfoglngoaa.V Go.Proofs.Ytfhnegfoglngoaa.Vc Go.Proofs.Ytfhnegfoglngoaa.Conf Go.Proofs.Ytfhnegfoglngoaa.Num Go.RowKit

def RV (w : World) (v : Value) (xss : List (List Int)) (F : Nat → Prop) : Prop :=
  ∃ (o : Option Addr) (c : Nat) (vs : List Value), v = .slice o xss.length c ∧ xss.length ≤ c ∧ c ≤ maxLen ∧ Rd w o vs F ∧ All2 (fun u xs => IV w u xs F) vs xss
def EV (w : World) (p : Value × Value) (e : Ent) (F : Nat → Prop) : Prop := RV w p.1 e.1 F ∧ RV w p.2 e.2 F
def PV (w : World) (v : Value) (es : List Ent) (F : Nat → Prop) : Prop :=
  ∃ (o : Option Addr) (c : Nat) (ps : List (Value × Value)), v = .slice o es.length c ∧ es.length ≤ c ∧ c ≤ maxLen ∧ Rd w o (ps.map pairE).flatten F ∧ All2 (fun p e => EV w p e F) ps es
section
variable {o : Option Addr} {n c : Nat} {w w' : World} {v : Value} {p : Value × Value} {xss : List (List Int)} {e : Ent} {es : List Ent} {F G : Nat → Prop}
theorem RV.keep (h : RV w v xss F) (hc : Ch G w w') (hd : ∀ i, i < w.heap.size → F i → ¬ G i) : RV w' v xss F := by
  obtain ⟨o, c, vs, e, h1, h2, hr, ha⟩ := h
  exact ⟨o, c, vs, e, h1, h2, hr.keep hc hd, ha.imp (fun _ _ k => k.keep hc hd)⟩
theorem RV.mono (h : RV w v xss F) (hg : ∀ i, i < w.heap.size → F i → G i) : RV w v xss G := by
  obtain ⟨o, c, vs, e, h1, h2, hr, ha⟩ := h
  exact ⟨o, c, vs, e, h1, h2, hr.mono hg, ha.imp (fun _ _ k => k.mono hg)⟩
theorem RV.keepN (h : RV w v xss F) (hc : Ch Non w w') : RV w' v xss F := h.keep hc (fun _ _ _ => id)
theorem RV.rows (h : RV w v xss F) : RowsV w v xss F := by
  obtain ⟨o, c, vs, e, h1, h2, hr, ha⟩ := h
  exact ⟨o, c, vs, e, hr, ha.imp (fun _ _ k => k.ints)⟩
theorem RV.nil (w : World) (F : Nat → Prop) : RV w (.slice none 0 0) [] F := ⟨none, 0, [], rfl, Nat.le_refl _, Nat.zero_le _, Rd.nil _ _ _, .nil⟩
/-- One of its rows. -/
theorem RV.at (h : RV w (.slice o n c) xss F) {j : Nat} (hj : j < xss.length) {K : Addr → Prop} (hk : ∀ (p : Addr) (u : Value), w.cell? (p.add (j * 1)) = some u → IV w u xss[j] F → K p) : someV o K := by
  obtain ⟨o', c', vs, e, h1, h2, hr, ha⟩ := h
  injection e with e1 e2 e3
  subst e1
  have hv : j < vs.length := by rw [ha.length]; exact hj
  refine hr.at (j := j) (v := vs[j]) (List.getElem?_eq_getElem hv) fun p hp => hk p vs[j] (by rw [Nat.mul_one]; exact hp) (ha.get j hv hj)
theorem EV.keep (h : EV w p e F) (hc : Ch G w w') (hd : ∀ i, i < w.heap.size → F i → ¬ G i) : EV w' p e F := ⟨h.1.keep hc hd, h.2.keep hc hd⟩
theorem EV.mono (h : EV w p e F) (hg : ∀ i, i < w.heap.size → F i → G i) : EV w p e G := ⟨h.1.mono hg, h.2.mono hg⟩
theorem EV.keepN (h : EV w p e F) (hc : Ch Non w w') : EV w' p e F := h.keep hc (fun _ _ _ => id)
theorem EV.ent (h : EV w p e F) : EntV w p e F := ⟨h.1.rows, h.2.rows⟩
theorem PV.keep (h : PV w v es F) (hc : Ch G w w') (hd : ∀ i, i < w.heap.size → F i → ¬ G i) : PV w' v es F := by
  obtain ⟨o, c, vs, e, h1, h2, hr, ha⟩ := h
  exact ⟨o, c, vs, e, h1, h2, hr.keep hc hd, ha.imp (fun _ _ k => k.keep hc hd)⟩
theorem PV.mono (h : PV w v es F) (hg : ∀ i, i < w.heap.size → F i → G i) : PV w v es G := by
  obtain ⟨o, c, vs, e, h1, h2, hr, ha⟩ := h
  exact ⟨o, c, vs, e, h1, h2, hr.mono hg, ha.imp (fun _ _ k => k.mono hg)⟩
theorem PV.keepN (h : PV w v es F) (hc : Ch Non w w') : PV w' v es F := h.keep hc (fun _ _ _ => id)
theorem PV.nil (w : World) (F : Nat → Prop) : PV w (.slice none 0 0) [] F := ⟨none, 0, [], rfl, Nat.le_refl _, Nat.zero_le _, Rd.nil _ _ _, .nil⟩
/-- The pairs of values that a row of entries has, at a place. -/
theorem Rd.pair {o : Option Addr} {ps : List (Value × Value)} (h : Rd w o (ps.map pairE).flatten F) {j : Nat} (hj : j < ps.length) {K : Addr → Prop} (hk : ∀ p : Addr, w.cell? (p.add (j * 2)) = some ps[j].1 → w.cell? ((p.add (j * 2)).add 1) = some ps[j].2 → K p) : someV o K := by
  obtain ⟨a, ha, _, _, hc⟩ := Rd.elem (sz := 2) (enc := pairE) h (fun _ => rfl) (by omega) hj
  subst ha
  have h0 := hc 0 _ rfl
  rw [add_none] at h0
  exact hk a h0 (hc 1 _ rfl)
end
end Go.Proofs.Ytfhnegfoglngoaa.Brain
