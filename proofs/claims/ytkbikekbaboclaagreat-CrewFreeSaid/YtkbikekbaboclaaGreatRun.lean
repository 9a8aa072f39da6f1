/- For every model, entries and tokens: what Run answers; the conditions stand in each theorem. -/
import Derived.Test.YtkbikekbaboclaaGreatStp3
import Derived.Test.YtkbikekbaboclaaGreatPkV
set_option linter.unusedVariables false
set_option linter.unusedSimpArgs false
namespace Go.Proofs.YtkbikekbaboclaaGreat.Stp
open Go Go.Proofs Go.Proofs.YtkbikekbaboclaaGreat.V Go.Proofs.YtkbikekbaboclaaGreat.Vc Go.Proofs.YtkbikekbaboclaaGreat.Conf Go.Proofs.YtkbikekbaboclaaGreat.Brain Go.Proofs.YtkbikekbaboclaaGreat.Num Go.RowKit

/-- Entries behind tokens, and the scores behind the last of them. -/
def runE (c : CfD) (wt : ByteArray) (past : List Ent) : List Int → List Ent
  | [] => past
  | t :: r => runE c wt (past ++ [stepE c wt past t]) r
def runS (c : CfD) (wt : ByteArray) (past : List Ent) (acc : List Int) : List Int → List Int
  | [] => acc
  | t :: r => runS c wt (past ++ [stepE c wt past t]) (stepL c wt past t) r
def tokOk (c : CfD) (t : Int) : Prop := 0 ≤ t ∧ t < c.vocab
section
variable {c : CfD} {wt : ByteArray}
theorem runE_app : ∀ (a : List Int) {b : List Int} {past : List Ent}, runE c wt past (a ++ b) = runE c wt (runE c wt past a) b
  | [], _, _ => rfl
  | t :: r, b, past => runE_app r
theorem runS_app : ∀ (a : List Int) {b : List Int} {past : List Ent} {acc : List Int}, runS c wt past acc (a ++ b) = runS c wt (runE c wt past a) (runS c wt past acc a) b
  | [], _, _, _ => rfl
  | t :: r, b, past, acc => runS_app r
theorem runE_len : ∀ (a : List Int) {past : List Ent}, (runE c wt past a).length = past.length + a.length
  | [], _ => rfl
  | t :: r, past => by rw [runE, runE_len r, List.length_append, List.length_cons]; simp; omega
def newE (c : CfD) (wt : ByteArray) (past : List Ent) (ts : List Int) : List Ent := (runE c wt past ts).drop past.length
theorem runE_pre : ∀ (a : List Int) (past : List Ent), ∃ l, runE c wt past a = past ++ l
  | [], past => ⟨[], by rw [List.append_nil]; rfl⟩
  | t :: r, past => by
    obtain ⟨l, hl⟩ := runE_pre r (past ++ [stepE c wt past t])
    exact ⟨stepE c wt past t :: l, by rw [runE, hl, List.append_assoc]; rfl⟩
theorem runE_good (m : Md c wt) : ∀ (a : List Int) {past : List Ent}, (∀ e ∈ past, goodE c e) → (∀ t ∈ a, tokOk c t) → ((past.length + a.length : Nat) : Int) ≤ c.context → ∀ e ∈ runE c wt past a, goodE c e
  | [], past, h, _, _ => h
  | t :: r, past, h, ht, hl => by
    rw [List.length_cons] at hl
    refine runE_good m r (fun e he => ?_) (fun x hx => ht x (List.mem_cons_of_mem _ hx)) (by rw [List.length_append]; show ((past.length + 1 + r.length : Nat) : Int) ≤ _; omega)
    rcases List.mem_append.1 he with he | he
    · exact h e he
    · rw [List.mem_singleton] at he
      subst he
      exact (step_ok m h (by omega) (ht t List.mem_cons_self)).2
variable {w w' : World} {bb : Nat} {v tv : Value} {F G : Nat → Prop} {past : List Ent} {ts : List Int}
/-- Entries of one's own that grow: since W. -/
def PB (W w : World) (o : Option Addr) (n cp : Nat) (es : List Ent) (A : Nat → Prop) : Prop :=
  ∃ nps : List (Value × Value), V.Own w t_step_Entry 2 o n cp (nps.map pairE).flatten A ∧ n = es.length ∧ All2 (fun p e => EV w p e (fun i => New W w i ∧ ¬ A i)) nps es ∧ (∀ i, A i → New W w i) ∧ Ch Non W w
section
variable {W w1 : World} {o : Option Addr} {n cp : Nat} {es : List Ent} {A : Nat → Prop} {p : Value × Value} {e : Ent}
theorem PB.keepN (h : PB W w o n cp es A) (hc : Ch Non w w') : PB W w' o n cp es A := by
  obtain ⟨nps, h1, h2, h3, h4, h5⟩ := h
  have hs := hc.size
  exact ⟨nps, h1.keepN hc, h2, h3.imp fun p e k => (k.keepN hc).mono (fun i _ h => ⟨⟨h.1.1, by have := h.1.2; omega⟩, h.2⟩), fun i hi => ⟨(h4 i hi).1, by have := (h4 i hi).2; omega⟩, h5.andN hc⟩
theorem PB.pv (h : PB W w o n cp es A) : PV w (.slice o n cp) es (New W w) := by
  obtain ⟨nps, h1, rfl, h3, h4, h5⟩ := h
  exact ⟨o, cp, nps, rfl, h1.2.1, h1.2.2.1, h1.rd.mono (fun i _ hi => h4 i hi), h3.imp fun p e k => k.mono (fun i _ hi => hi.1)⟩
theorem PB.len (h : PB W w o n cp es A) : n = es.length := by obtain ⟨_, _, h, _⟩ := h; exact h
theorem PB.ch (h : PB W w o n cp es A) : Ch Non W w := by obtain ⟨_, _, _, _, _, h⟩ := h; exact h
theorem PB.nil (h : Ch Non W w) : PB W w none 0 0 [] Non := ⟨[], V.Own.nil _ _ _ _, rfl, .nil, fun i hi => hi.elim, h⟩
theorem PB.made (h : Ch Non W w) (e1 : w1 = w.alloc (.cells #[] t_step_Entry (0, 0))) : PB W w1 (some ⟨w.heap.size, 0, none⟩) 0 0 [] (· = w.heap.size) :=
  ⟨[], V.Own.made e1 rfl (Nat.zero_le _) rfl, rfl, .nil, fun i hi => by subst hi; exact ⟨h.size, (Blk.new e1).lt⟩, h.andN (Ch.alloc e1)⟩
theorem PB.push (h : PB W w o n cp es A) (hE : EV w p e (fun i => New W w i ∧ ¬ A i)) (e1 : w1 = w.alloc (.cells #[p.1, p.2] t_step_Entry (0, 0))) (hn : n < 1000000) :
    ∃ (o' : Option Addr) (c' : Nat) (w' : World), (Builtin.append_ #[t_S_step_Entry, t_S_step_Entry] t_S_step_Entry #[.slice o n cp, .slice (some ⟨w.heap.size, 0, none⟩) 1 1]).run Tryz.prog w1 = .ok (.slice o' (n + 1) c') w' ∧ PB W w' o' (n + 1) c' (es ++ [e]) (Ext A w w') ∧ Ch A w w' := by
  obtain ⟨nps, h1, rfl, h3, h4, h5⟩ := h
  obtain ⟨o', c', w', hr, hO, hc⟩ := V.Own.push el_S_step_Entry h1 t_S_step_Entry e1 rfl (by simp [RV.one hE.1, RV.one hE.2]) (by unfold maxLen; omega) (by omega)
  have hs := hc.size
  have hWs := h5.size
  have hreg : ∀ i, i < w.heap.size → (New W w i ∧ ¬ A i) → New W w' i ∧ ¬ Ext A w w' i := fun i hi h => ⟨⟨h.1.1, by omega⟩, fun k => by
    rcases k with k | k
    · exact h.2 k
    · have := k.1; omega⟩
  refine ⟨o', c', w', hr, ⟨nps ++ [p], by rw [show ((nps ++ [p]).map pairE).flatten = (nps.map pairE).flatten ++ [p.1, p.2] by simp [pairE]]; exact hO, by simp, ?_, fun i hi => ?_, h5.trans hc (fun i hi k => by have := (h4 i k).1; omega)⟩, hc⟩
  · have step : ∀ {p : Value × Value} {e : Ent}, EV w p e (fun i => New W w i ∧ ¬ A i) → EV w' p e (fun i => New W w' i ∧ ¬ Ext A w w' i) := fun k => ((k.mono (fun i hi h => (⟨hreg i hi h, h⟩ : (New W w' i ∧ ¬ Ext A w w' i) ∧ (New W w i ∧ ¬ A i)))).keep hc (fun i _ h k => h.2.2 k)).mono (fun i _ h => h.1)
    exact (h3.imp fun p e k => step k).snoc (step hE)
  · rcases hi with hi | hi
    · exact ⟨(h4 i hi).1, by have := (h4 i hi).2; omega⟩
    · exact ⟨by have := hi.1; omega, hi.2⟩
/-- What is new since the row was built is not of it. -/
theorem PB.far (h : PB W w o n cp es A) {w2 w3 : World} (hs : w.heap.size ≤ w2.heap.size) (hW : w3.heap.size ≤ w'.heap.size) {i : Nat} (hi : New w2 w3 i) : New W w' i ∧ ¬ A i := by
  obtain ⟨nps, h1, rfl, h3, h4, h5⟩ := h
  have := h5.size
  exact ⟨⟨by have := hi.1; omega, by have := hi.2; omega⟩, fun k => by have := (h4 i k).2; have := hi.1; omega⟩
end
def nilR (n : Int) : Value := .tuple #[.slice none 0 0, .slice none 0 0, .int .i64 n]
structure RunR (c : CfD) (wt : ByteArray) (past : List Ent) (ts : List Int) (w : World) (v : Value) (w' : World) : Prop where
  ch : Ch Non w w'
  bad : ¬ (∀ e ∈ past, goodE c e) → v = nilR 1
  none : (∀ e ∈ past, goodE c e) → ts = [] → v = nilR 1
  rng : (∀ e ∈ past, goodE c e) → ts ≠ [] → ¬ (∀ t ∈ ts, tokOk c t) → v = nilR 3
  long : (∀ e ∈ past, goodE c e) → ts ≠ [] → (∀ t ∈ ts, tokOk c t) → ¬ ((past.length + ts.length : Nat) : Int) ≤ c.context → v = nilR 12
  yes : (∀ e ∈ past, goodE c e) → ts ≠ [] → (∀ t ∈ ts, tokOk c t) → ((past.length + ts.length : Nat) : Int) ≤ c.context → ∃ (o : Option Addr) (n cp : Nat) (u : Value) (A : Nat → Prop), v = .tuple #[.slice o n cp, u, .int .i64 0] ∧ PB w w' o n cp (newE c wt past ts) A ∧ IV w' u (runS c wt past [] ts) (fun i => New w w' i ∧ ¬ A i)
end
end Go.Proofs.YtkbikekbaboclaaGreat.Stp
