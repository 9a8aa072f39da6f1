/- For every index of beginnings over a pool of pages: what a version forgotten leaves and answers; the conditions stand in each theorem. -/
import Derived.Test.YtkbikekbaboclaaGreatPkX
set_option linter.unusedVariables false
set_option linter.unusedSimpArgs false
namespace Go.Proofs.YtkbikekbaboclaaGreat.Prefix
open Go Go.Proofs Go.Proofs.YtkbikekbaboclaaGreat.V Go.Proofs.YtkbikekbaboclaaGreat.Vc Go.Proofs.YtkbikekbaboclaaGreat.Step Go.Proofs.YtkbikekbaboclaaGreat.Pages Go.RowKit

/-- An entry's three cells are laid anew. -/
theorem set3 {w w' : World} {T n c : Nat} {o : Option Addr} {gs : List EcC} {F : Nat → Prop} (h : Own w T 3 o n c (gs.map ecE).flatten F) {a : Nat} (ha : a < gs.length) {p : Addr} (hp : o = some p) {g : EcC}
    (ew : w' = ((w.setCell (p.add (a * 3)) (.int .i64 g.ver)).setCell ((p.add (a * 3)).add 1) (.slice g.to g.tn g.tc)).setCell ((p.add (a * 3)).add 2) (.int .i64 g.page)) :
    Own w' T 3 o n c ((gs.set a g).map ecE).flatten F ∧ Ch F w w' := by
  have put : ∀ {w w' : World} {gs : List EcC}, Own w T 3 o n c (gs.map ecE).flatten F → ∀ {q : Nat} {v : Value} {g : EcC} (ha : a < gs.length), q < 3 → w' = w.setCell ((p.add (a * 3)).add q) v → ecE g = (ecE gs[a]).set q v →
      Own w' T 3 o n c ((gs.set a g).map ecE).flatten F ∧ Ch F w w' := by
    intro w w' gs h q v g ha hq ew hg
    rw [add_add] at ew
    have hfl : (gs.map ecE).flatten.length = gs.length * 3 := by
      rw [List.length_flatten, List.map_map]
      have : (List.length ∘ ecE) = fun _ => 3 := by funext x; rfl
      rw [this, List.map_const']; simp
    obtain ⟨h1, h2⟩ := h.set (by rw [hfl]; omega) hp ew
    rw [flatten_set (enc := ecE) gs (fun _ => rfl) ha hg hq] at h1
    exact ⟨h1, h2⟩
  have h0 : w.setCell (p.add (a * 3)) (.int .i64 g.ver) = w.setCell ((p.add (a * 3)).add 0) (.int .i64 g.ver) := by rw [add_none]
  rw [h0] at ew
  obtain ⟨a1, b1⟩ := put h (g := ⟨g.ver, gs[a].to, gs[a].tn, gs[a].tc, gs[a].page⟩) ha (q := 0) (by omega) rfl rfl
  have hj1 : a < (gs.set a ⟨g.ver, gs[a].to, gs[a].tn, gs[a].tc, gs[a].page⟩).length := by rw [List.length_set]; exact ha
  obtain ⟨a2, b2⟩ := put a1 (g := ⟨g.ver, g.to, g.tn, g.tc, gs[a].page⟩) hj1 (q := 1) (by omega) rfl (by rw [List.getElem_set_self]; rfl)
  rw [List.set_set] at a2
  have hj2 : a < (gs.set a ⟨g.ver, g.to, g.tn, g.tc, gs[a].page⟩).length := by rw [List.length_set]; exact ha
  obtain ⟨a3, b3⟩ := put a2 (g := g) hj2 (q := 2) (by omega) ew (by rw [List.getElem_set_self]; rfl)
  rw [List.set_set] at a3
  exact ⟨a3, (b1.same b2).same b3⟩
/-- What a row in which entries are deleted rests on. -/
structure Del (w : World) (pb xb c0 c1 k : Nat) (B : Int) (v : Int) (ps : List PageD) (FP Fa : Nat → Prop) : Prop where
  p : PoolR w pb ps FP
  lt : ∀ i, FP i → i < w.heap.size
  g : Pages.Good k B ps
  b0 : ∃ T, Blk w c0 [.int .i64 v] T
  b1 : ∃ T, Blk w c1 [.pointer (some ⟨xb, 0, none⟩)] T
  bx : ∃ sv, Blk w xb [.pointer (some ⟨pb, 0, none⟩), sv] t_prefix_Index
  n : ¬ FP c0 ∧ ¬ FP c1 ∧ ¬ FP xb ∧ ¬ Fa c0 ∧ ¬ Fa c1 ∧ ¬ Fa xb
  ap : Apart Fa FP
section
variable {w w' : World} {pb xb c0 c1 k n : Nat} {B v : Int} {ps ps' : List PageD} {es : List EntD} {FP Fa Fd G : Nat → Prop} {o : Option Addr} {c : Nat} {gs : List EcC}
theorem Del.keepG (h : Del w pb xb c0 c1 k B v ps FP Fa) (hc : Ch G w w') (hG : ∀ i, G i → FP i ∨ Fa i) (hp : PoolR w' pb ps' FP) (hg : Pages.Good k B ps') : Del w' pb xb c0 c1 k B v ps' FP Fa := by
  obtain ⟨n1, n2, n3, n4, n5, n6⟩ := h.n
  have no : ∀ i, ¬ FP i → ¬ Fa i → ¬ G i := fun i a b hi => (hG i hi).elim a b
  refine ⟨hp, fun i hi => Nat.lt_of_lt_of_le (h.lt i hi) hc.size, hg, ?_, ?_, ?_, h.n, h.ap⟩
  · obtain ⟨T, hb⟩ := h.b0; exact ⟨T, hb.keep hc (no _ n1 n4)⟩
  · obtain ⟨T, hb⟩ := h.b1; exact ⟨T, hb.keep hc (no _ n2 n5)⟩
  · obtain ⟨T, hb⟩ := h.bx; exact ⟨T, hb.keep hc (no _ n3 n6)⟩
theorem Del.keepA (h : Del w pb xb c0 c1 k B v ps FP Fa) (hc : Ch Fa w w') : Del w' pb xb c0 c1 k B v ps FP Fa :=
  h.keepG hc (fun i hi => .inr hi) (h.p.keep hc (fun i _ a b => h.ap i b a)) h.g
theorem Del.keepN (h : Del w pb xb c0 c1 k B v ps FP Fa) (hc : Ch Non w w') : Del w' pb xb c0 c1 k B v ps FP Fa := h.keepA hc.any
theorem Del.call (h : Del w pb xb c0 c1 k B v ps FP Fa) (hk : k ≤ 1000) (hB : 0 ≤ B ∧ B ≤ 1000000000) {g : EcC} {e : EntD} (he : EcR w g e Fd) :
    Calls Tryz.prog i_prefix_Index_Forget_c1 #[.agg #[.int .i64 g.ver, .slice g.to g.tn g.tc, .int .i64 g.page], .pointer (some ⟨c0, 0, none⟩), .pointer (some ⟨c1, 0, none⟩)] w
      (Ret fun x w' => x = .bool (e.ver == v) ∧ Del w' pb xb c0 c1 k B v (fgS v ps e) FP Fa ∧ Ch FP w w') := by
  obtain ⟨T0, hb0⟩ := h.b0
  obtain ⟨T1, hb1⟩ := h.b1
  obtain ⟨sv, hbx⟩ := h.bx
  refine step_call (Forget_c1_spec he h.p h.lt h.g hk hB hb0 hb1 hbx h.n.1 h.n.2.1 h.n.2.2.1) ?_
  rintro x w1 ⟨rfl, hr, hc⟩
  refine ⟨rfl, h.keepG hc (fun i hi => .inl hi) hr ?_, hc⟩
  unfold fgS
  split
  · exact dropQ_good h.g hB.1 _
  · exact h.g
end
section
variable {W w : World} {pb xb k : Nat} {B : Int} {ps : List PageD} {es : List EntD} {FP FI : Nat → Prop}
end
end Go.Proofs.YtkbikekbaboclaaGreat.Prefix
