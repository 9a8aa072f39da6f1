/- For every world of the model: what a slice that grows by append has in its cells, and what a block that is filled has; the conditions stand in each theorem. -/
import Derived.Test.YtbadkcnemcnhfaaDoorH
set_option linter.unusedVariables false
set_option linter.unusedSimpArgs false
namespace Go.Proofs.YtbadkcnemcnhfaaDoor.V
open Go Go.Proofs Go.RowKit

/-- A slice of one's own in blocks that are new since w0; G is all that was changed of what was there. -/
def Gr (G : Nat → Prop) (w0 w : World) (T sz : Nat) (o : Option Addr) (n c : Nat) (vs : List Value) : Prop := Own w T sz o n c vs (New w0 w) ∧ Ch G w0 w
section
variable {G : Nat → Prop} {P : Program} {w0 w w1 w' : World} {T sz t bytes n c : Nat} {o : Option Addr} {vs : List Value} {α : Type} {enc : α → Value}
theorem Gr.nil (h : Ch G w0 w) : Gr G w0 w T sz none 0 0 [] := ⟨Own.nil _ _ _ _, h⟩
theorem Gr.made {cells : Array Value} (h : Ch G w0 w) (e1 : w1 = w.alloc (.cells cells T (0, 0))) (hn : cells.size = n * sz) (hm : n ≤ 1000000) : Gr G w0 w1 T sz (some ⟨w.heap.size, 0, none⟩) n n cells.toList :=
  ⟨Own.made e1 hn (by unfold maxLen; omega) ⟨h.size, (Blk.new e1).lt⟩, h.andN (Ch.alloc e1)⟩
theorem Gr.made0 (h : Ch G w0 w) (e1 : w1 = w.alloc (.cells #[] T (0, 0))) : Gr G w0 w1 T sz (some ⟨w.heap.size, 0, none⟩) 0 0 [] := Gr.made h e1 (by simp) (by omega)
theorem Gr.step (h : Gr G w0 w T sz o n c vs) (hc : Ch G w w') (hG : ∀ i, G i → i < w0.heap.size) : Gr G w0 w' T sz o n c vs :=
  ⟨(h.1.keep hc (fun i _ hN hi => absurd (hG i hi) (Nat.not_lt.2 hN.1))).mono (fun i _ hN => New.le hN hc.size), h.2.same hc⟩
theorem Gr.keepN (h : Gr G w0 w T sz o n c vs) (hc : Ch Non w w') : Gr G w0 w' T sz o n c vs :=
  ⟨(h.1.keepN hc).mono (fun i _ hN => New.le hN hc.size), h.2.andN hc⟩
theorem Gr.rd (h : Gr G w0 w T sz o n c vs) : Rd w o vs (New w0 w) := h.1.rd
theorem Gr.push (el : Elem P t T sz bytes) (h : Gr G w0 w T sz o n c vs) (ty : TypeId) {news : Array Value} (e1 : w1 = w.alloc (.cells news T (0, 0))) (hl : news.size = sz) (h1 : news.toList.all (·.oneCell') = true) (hn : n < 1000000) (hb : bytes ≤ 1000) :
    ∃ (o' : Option Addr) (c' : Nat) (w' : World), (Builtin.append_ #[t, t] ty #[.slice o n c, .slice (some ⟨w.heap.size, 0, none⟩) 1 1]).run P w1 = .ok (.slice o' (n + 1) c') w' ∧ Gr G w0 w' T sz o' (n + 1) c' (vs ++ news.toList) ∧ Ch (New w0 w) w w' := by
  obtain ⟨o', c', w', hr, ho, hc⟩ := Own.push el h.1 ty e1 hl h1 (by unfold maxLen; omega) (Nat.le_trans (Nat.mul_le_mul (show n + 1 ≤ 1000000 by omega) hb) (by omega))
  exact ⟨o', c', w', hr, ⟨ho.mono (fun i _ hi => New.ext hi h.2.size hc.size), h.2.trans hc (fun i hi hN => absurd hi (Nat.not_lt.2 hN.1))⟩, hc⟩
/-- append(s, xs...) -/
theorem Gr.app {o2 : Option Addr} {c2 m : Nat} {news : List Value} {F : Nat → Prop} (el : Elem P t T sz bytes) (h : Gr G w0 w T sz o n c vs) (ty : TypeId) (hr : Rd w o2 news F) (hl : news.length = m * sz) (h1 : ∀ u ∈ news, u.oneCell' = true) (hn : n + m ≤ 1000000) (hb : bytes ≤ 1000) :
    ∃ (o' : Option Addr) (c' : Nat) (w' : World), (Builtin.append_ #[t, t] ty #[.slice o n c, .slice o2 m c2]).run P w = .ok (.slice o' (n + m) c') w' ∧ Gr G w0 w' T sz o' (n + m) c' (vs ++ news) ∧ Ch (New w0 w) w w' := by
  obtain ⟨o', c', w', hr, ho, hc⟩ := Own.appendRd (c2 := c2) el h.1 ty hr hl h1 (by unfold maxLen; omega) (Nat.le_trans (Nat.mul_le_mul hn hb) (by omega))
  exact ⟨o', c', w', hr, ⟨ho.mono (fun i _ hi => New.ext hi h.2.size hc.size), h.2.trans hc (fun i hi hN => absurd hi (Nat.not_lt.2 hN.1))⟩, hc⟩
/-- The next of a list. -/
theorem Gr.next (el : Elem P t T 1 bytes) {L : List α} {j : Nat} (h : Gr G w0 w T 1 o j c ((L.take j).map enc)) (ty : TypeId) (hj : j < L.length) (hL : L.length ≤ 1000000) {v : Value} (e1 : w1 = w.alloc (.cells #[v] T (0, 0))) (hv : v = enc L[j]) (h1 : v.oneCell' = true) (hb : bytes ≤ 1000) :
    ∃ (o' : Option Addr) (c' : Nat) (w' : World), (Builtin.append_ #[t, t] ty #[.slice o j c, .slice (some ⟨w.heap.size, 0, none⟩) 1 1]).run P w1 = .ok (.slice o' (j + 1) c') w' ∧ Gr G w0 w' T 1 o' (j + 1) c' ((L.take (j + 1)).map enc) ∧ Ch (New w0 w) w w' := by
  obtain ⟨o', c', w', hr, ho, hc⟩ := h.push el ty e1 rfl (by simpa using h1) (by omega) hb
  refine ⟨o', c', w', hr, ?_, hc⟩
  rw [List.take_succ_eq_append_getElem hj, List.map_append]
  subst hv; exact ho
end
/-- The first j of a list, and then zeros. -/
def fillTo {α : Type} (L : List α) (z : α) (j : Nat) : List α := L.take j ++ List.replicate (L.length - j) z
section
variable {α : Type} {L : List α} {z : α} {j : Nat}
theorem fillTo_len : (fillTo L z j).length = L.length := by unfold fillTo; simp; omega
theorem fillTo_zero : fillTo L z 0 = List.replicate L.length z := by unfold fillTo; simp
theorem fillTo_all : fillTo L z L.length = L := by unfold fillTo; simp
theorem fillTo_set (hj : j < L.length) : (fillTo L z j).set j L[j] = fillTo L z (j + 1) := by
  unfold fillTo
  rw [List.set_append_right _ _ (by simp; omega), List.take_succ_eq_append_getElem hj]
  have : L.length - j = (L.length - (j + 1)) + 1 := by omega
  rw [this, List.replicate_succ]
  simp only [List.length_take, Nat.min_eq_left (Nat.le_of_lt hj), Nat.sub_self, List.set_cons_zero, List.append_assoc, List.singleton_append]
end
theorem zeroRow_rep (v : Value) : ∀ n, zeroRow [v] n = List.replicate n v
  | 0 => rfl
  | n + 1 => by rw [zeroRow, zeroRow_rep v n, List.replicate_succ]; rfl
theorem Ch.set2 {w w' : World} {F : Nat → Prop} {p q : Addr} {x y : Value} (e : w' = (w.setCell p x).setCell q y) (h1 : F p.block) (h2 : F q.block) : Ch F w w' :=
  (Ch.set (w' := w.setCell p x) rfl h1).same (Ch.set e h2)
theorem Ch.set3 {w w' : World} {F : Nat → Prop} {p q r : Addr} {x y z : Value} (e : w' = ((w.setCell p x).setCell q y).setCell r z) (h1 : F p.block) (h2 : F q.block) (h3 : F r.block) : Ch F w w' :=
  (Ch.set2 (w' := (w.setCell p x).setCell q y) rfl h1 h2).same (Ch.set e h3)
theorem add_none (a : Addr) : a.add 0 = a := by unfold Addr.add; split <;> simp_all
theorem Rd.at0 {w : World} {o : Option Addr} {cs : List Value} {F : Nat → Prop} (h : Rd w o cs F) {v : Value} (hj : cs[0]? = some v) {K : Addr → Prop} (hk : ∀ p : Addr, w.cell? p = some v → K p) : someV o K :=
  h.at hj (fun p hp => hk p (by rwa [add_none] at hp))
theorem Blk.rd {w : World} {b : Nat} {cs : List Value} {T : Nat} (h : Blk w b cs T) : Rd w (some ⟨b, 0, none⟩) cs (· = b) := fun j v hj => ⟨_, rfl, rfl, h.lt, by rw [add_at, Nat.zero_add]; exact h.cell j hj⟩
end Go.Proofs.YtbadkcnemcnhfaaDoor.V
