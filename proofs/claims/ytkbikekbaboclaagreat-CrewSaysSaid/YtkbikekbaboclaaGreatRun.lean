import Derived.Test.YtkbikekbaboclaaGreatStp3
import Derived.Test.YtkbikekbaboclaaGreatPkV
set_option linter.unusedVariables false
set_option linter.unusedSimpArgs false
namespace Go.Proofs.YtkbikekbaboclaaGreat.Stp
open Go Go.Proofs V Vc Conf Brain Num Go.RowKit
def runE (c : CfD) (wt : ByteArray) (past : List Ent) : List Int → List Ent
 | [] => past
 | t :: r => runE c wt (past ++ [stepE c wt past t]) r
def runS (c : CfD) (wt : ByteArray) (past : List Ent) (acc : List Int) : List Int → List Int
 | [] => acc
 | t :: r => runS c wt (past ++ [stepE c wt past t]) (stepL c wt past t) r
def tokOk (c : CfD) (t : Int) : Prop := 0 ≤ t ∧ t < c.vocab
section
variable {c : CfD} {wt : ByteArray}
theorem runE_app : ∀ (a : List Int) {b : List Int} {past : List Ent}, runE c wt past (a ++ b) = runE c wt (runE c wt past a) b
 | [], _, _ => rfl
 | t :: r, b, past => runE_app r
theorem runS_app : ∀ (a : List Int) {b : List Int} {past : List Ent} {acc : List Int}, runS c wt past acc (a ++ b) = runS c wt (runE c wt past a) (runS c wt past acc a) b
 | [], _, _, _ => rfl
 | t :: r, b, past, acc => runS_app r
theorem runE_len : ∀ (a : List Int) {past : List Ent}, (runE c wt past a).length = past.length + a.length
 | [], _ => rfl
 | t :: r, past => by rw [runE, runE_len r, List.length_append, List.length_cons]; simp; omega
def newE (c : CfD) (wt : ByteArray) (past : List Ent) (ts : List Int) : List Ent := (runE c wt past ts).drop past.length
theorem runE_pre : ∀ (a : List Int) (past : List Ent), ∃ l, runE c wt past a = past ++ l
 | [], past => ⟨[], by rw [List.append_nil]; rfl⟩
 | t :: r, past => by
  obtain ⟨l, hl⟩ := runE_pre r (past ++ [stepE c wt past t])
  exact ⟨stepE c wt past t :: l, by rw [runE, hl, List.append_assoc]; rfl⟩
theorem runE_new {past : List Ent} (ts : List Int) : runE c wt past ts = past ++ newE c wt past ts := by
 obtain ⟨l, hl⟩ := runE_pre (c := c) (wt := wt) ts past
 unfold newE
 rw [hl, List.drop_left]
theorem newE_len {past : List Ent} (ts : List Int) : (newE c wt past ts).length = ts.length := by
 unfold newE
 rw [List.length_drop, runE_len]; omega
theorem newE_snoc {past : List Ent} (ts : List Int) (t : Int) : newE c wt past (ts ++ [t]) = newE c wt past ts ++ [stepE c wt (runE c wt past ts) t] := by
 have h := runE_app (c := c) (wt := wt) (past := past) ts (b := [t])
 unfold newE
 rw [h, runE, runE, List.drop_append_of_le_length (by rw [runE_len]; omega)]
theorem runE_good (m : Md c wt) : ∀ (a : List Int) {past : List Ent}, (∀ e ∈ past, goodE c e) → (∀ t ∈ a, tokOk c t) → ((past.length + a.length : Nat) : Int) ≤ c.context → ∀ e ∈ runE c wt past a, goodE c e
 | [], past, h, _, _ => h
 | t :: r, past, h, ht, hl => by
  rw [List.length_cons] at hl
  refine runE_good m r (fun e he => ?_) (fun x hx => ht x (List.mem_cons_of_mem _ hx)) (by rw [List.length_append]; show ((past.length + 1 + r.length : Nat) : Int) ≤ _; omega)
  rcases List.mem_append.1 he with he | he
  ·exact h e he
  ·rw [List.mem_singleton] at he
   subst he
   exact (step_ok m h (by omega) (ht t List.mem_cons_self)).2
variable {w w' : World} {bb : Nat} {v tv : Value} {F G : Nat → Prop} {past : List Ent} {ts : List Int}
theorem Run_c1_spec {c0 T : Nat} (hC : Blk w c0 [.pointer (some ⟨bb, 0, none⟩)] T) (h : BrK w bb c wt) (n : Int) : Calls Tryz.prog i_step_Run_c1 #[.int .i64 n, .pointer (some ⟨c0, 0, none⟩)] w (Ret fun v w' => v = .bool (!decide (0 ≤ n ∧ n < c.vocab)) ∧ w' = w) := by
 refine step_Run_c1.calls _ _ ?_
 unfold step_Run_c1.vc
 refine ⟨_, hC.cell 0 rfl, step_call (isToken_spec h n) ?_⟩
 rintro v w1 ⟨rfl, rfl⟩
 exact ⟨_, rfl, rfl, rfl⟩
theorem ContainsT_spec {c0 T : Nat} (hC : Blk w c0 [.pointer (some ⟨bb, 0, none⟩)] T) (h : BrK w bb c wt) (ht : IV w tv ts F) : Calls Tryz.prog 52 #[tv, .func (.func i_step_Run_c1) #[] #[.pointer (some ⟨c0, 0, none⟩)]] w (Ret fun v w' => ∃ bv : Bool, v = .bool bv ∧ (bv = false ↔ ∀ t ∈ ts, tokOk c t) ∧ w' = w) := by
 obtain ⟨o, cc, rfl, h1, h2, hr⟩ := ht
 have hl := Nat.le_trans h1 h2
 refine slices_ContainsFunc.calls_rn _ _ _ _ ?_
 unfold slices_ContainsFunc.vc_rn
 have hi : Calls Tryz.prog 91 #[.slice o ts.length cc, .func (.func i_step_Run_c1) #[] #[.pointer (some ⟨c0, 0, none⟩)]] w (Ret fun v w' => ∃ x : Int, v = .int .i64 x ∧ (x < 0 ↔ ∀ t ∈ ts, tokOk c t) ∧ w' = w) := by
  refine slices_IndexFunc.calls_rn _ _ _ _ ?_
  unfold slices_IndexFunc.vc_rn
  refine ⟨fun i k w' => w' = w ∧ ∃ j : Nat, i = j ∧ j ≤ ts.length ∧ k = ts.length - j ∧ ∀ t ∈ ts.take j, tokOk c t, ⟨_, rfl, 0, rfl, Nat.zero_le _, rfl, fun x hx => by simp at hx⟩, ?_⟩
  rintro jk i k w1 ⟨rfl, j, rfl, hj, rfl, hs⟩
  refine ⟨fun hlt => ?_, fun hge => ?_⟩
  ·have hlt : j < ts.length := by have := of_decide_eq_true hlt; omega
   refine ⟨⟨by omega, by omega⟩, hr.at (j := (j : Int).toNat * 1) (v := .int .i64 ts[j]) (by simp [hlt]) fun p hp => ⟨_, hp, step_call (Run_c1_spec hC h _) ?_⟩⟩
   rintro v w2 ⟨rfl, rfl⟩
   refine ⟨_, rfl, fun hb => ⟨_, rfl, ?_, rfl⟩, fun hb => ?_⟩
   ·constructor
    ·intro h; omega
    ·intro h
     have := h _ (List.getElem_mem hlt)
     unfold tokOk at this
     rw [decide_eq_true this] at hb; cases hb
   ·refine ⟨ts.length - (j + 1), by omega, rfl, j + 1, by rw [wrap_id (by omega) (by unfold maxLen at hl; omega)]; rfl, hlt, rfl, fun x hx => ?_⟩
    rw [take_snoc ts j hlt] at hx
    rcases List.mem_append.1 hx with hx | hx
    ·exact hs x hx
    ·rw [List.mem_singleton] at hx
     subst hx
     unfold tokOk
     generalize ts[j] = t at hb
     by_cases ht : 0 ≤ t ∧ t < c.vocab
     ·exact ht
     ·rw [decide_eq_false ht] at hb; cases hb
  ·have : j = ts.length := by have := of_decide_eq_false hge; omega
   subst this
   rw [List.take_length] at hs
   exact ⟨_, rfl, ⟨fun _ => hs, fun _ => by decide⟩, rfl⟩
 refine step_call hi ?_
 rintro v w1 ⟨x, rfl, hx, rfl⟩
 refine ⟨_, rfl, _, rfl, ?_, rfl⟩
 rw [← hx]
 constructor
 ·intro h; have := of_decide_eq_false h; omega
 ·intro h; exact decide_eq_false (by omega)
def PB (W w : World) (o : Option Addr) (n cp : Nat) (es : List Ent) (A : Nat → Prop) : Prop :=
 ∃ nps : List (Value × Value), V.Own w t_step_Entry 2 o n cp (nps.map pairE).flatten A ∧ n = es.length ∧ All2 (fun p e => EV w p e (fun i => New W w i ∧ ¬ A i)) nps es ∧ (∀ i, A i → New W w i) ∧ Ch Non W w
section
variable {W w1 : World} {o : Option Addr} {n cp : Nat} {es : List Ent} {A : Nat → Prop} {p : Value × Value} {e : Ent}
end
def nilR (n : Int) : Value := .tuple #[.slice none 0 0, .slice none 0 0, .int .i64 n]
structure RunR (c : CfD) (wt : ByteArray) (past : List Ent) (ts : List Int) (w : World) (v : Value) (w' : World) : Prop where
 ch : Ch Non w w'
 bad : ¬ (∀ e ∈ past, goodE c e) → v = nilR 1
 none : (∀ e ∈ past, goodE c e) → ts = [] → v = nilR 1
 rng : (∀ e ∈ past, goodE c e) → ts ≠ [] → ¬ (∀ t ∈ ts, tokOk c t) → v = nilR 3
 long : (∀ e ∈ past, goodE c e) → ts ≠ [] → (∀ t ∈ ts, tokOk c t) → ¬ ((past.length + ts.length : Nat) : Int) ≤ c.context → v = nilR 12
 yes : (∀ e ∈ past, goodE c e) → ts ≠ [] → (∀ t ∈ ts, tokOk c t) → ((past.length + ts.length : Nat) : Int) ≤ c.context → ∃ (o : Option Addr) (n cp : Nat) (u : Value) (A : Nat → Prop), v = .tuple #[.slice o n cp, u, .int .i64 0] ∧ PB w w' o n cp (newE c wt past ts) A ∧ IV w' u (runS c wt past [] ts) (fun i => New w w' i ∧ ¬ A i)
set_option maxHeartbeats 4000000 in
theorem Run_spec (h : BrK w bb c wt) (hp : PV w v past F) (ht : IV w tv ts G) (hbt : ts.length ≤ 1000000) (hbp : past.length ≤ 1000000) : Calls Tryz.prog i_step_Run #[.pointer (some ⟨bb, 0, none⟩), v, tv] w (Ret (RunR c wt past ts w)) := by
 have m : Md c wt := ⟨h.ok, h.sz⟩
 have hp' := hp
 have ht' := ht
 obtain ⟨po, pc, ps, rfl, hpc, hpm, hpr, hpa⟩ := hp
 obtain ⟨to, tc, rfl, htc, htm, htr⟩ := ht
 have hctx := m.ok.2.2.2.2.2.1
 have hlt := Nat.le_trans htc htm
 have hlp := Nat.le_trans hpc hpm
 unfold maxLen at hlt hlp
 refine step_Run.calls _ _ _ _ _ _ _ ?_
 unfold step_Run.vc
 intro w1 e1
 have hC := Blk.new e1
 have hc1 : Ch Non w w1 := Ch.alloc e1
 refine ⟨_, hC.cell 0 rfl, step_call (check_spec (h.keepN hc1) (hp'.keepN hc1)) ?_⟩
 rintro v w2 ⟨hc2, hy, hno⟩
 have hc02 := hc1.andN hc2
 by_cases hgood : ∀ e ∈ past, goodE c e
 case neg =>
  rw [hno hgood]
  exact ⟨_, rfl, fun _ => ⟨hc02, fun _ => rfl, fun k => absurd k hgood, fun k => absurd k hgood, fun k => absurd k hgood, fun k => absurd k hgood⟩, fun hf => by cases hf⟩
 rw [hy hgood]
 refine ⟨_, rfl, iteF rfl ⟨fun h0 => ?_, fun h0 => ?_⟩⟩
 ·have h0 : ts = [] := List.eq_nil_of_length_eq_zero (by have := eq_of_beq h0; omega)
  exact ⟨hc02, fun k => absurd hgood k, fun _ _ => rfl, fun _ k => absurd h0 k, fun _ k => absurd h0 k, fun _ k => absurd h0 k⟩
 have h0 : ts ≠ [] := fun e => by subst e; simp at h0
 refine step_call (ContainsT_spec (hC.keepN hc2) (h.keepN hc02) (ht'.keepN hc02)) ?_
 rintro v w3 ⟨bv, rfl, hbv, rfl⟩
 refine ⟨_, rfl, fun hb => ?_, fun hb => ?_⟩
 ·have hn : ¬ ∀ t ∈ ts, tokOk c t := fun k => by rw [hbv.2 k] at hb; cases hb
  exact ⟨hc02, fun k => absurd hgood k, fun _ k => absurd k h0, fun _ _ _ => rfl, fun _ _ k => absurd k hn, fun _ _ k => absurd k hn⟩
 have htok := hbv.1 hb
 have hbr3 : Blk w3 bb (cfE c ++ [.string wt]) t_brain_Brain := (h.keepN hc02).r
 rw [wrap_id (by omega) (by omega)]
 refine ⟨_, (hC.keepN hc2).cell 0 rfl, _, hbr3.cell 5 rfl, fun hl => ?_, fun hl => ?_⟩
 ·have hl := of_decide_eq_true hl
  exact ⟨hc02, fun k => absurd hgood k, fun _ k => absurd k h0, fun _ _ k => absurd htok k, fun _ _ _ _ => rfl, fun _ _ _ k => absurd hl (by omega)⟩
 have hl : ((past.length + ts.length : Nat) : Int) ≤ c.context := by have := of_decide_eq_false hl; omega
 have hps : ps.length = past.length := hpa.length
 have hcl := CloneE_spec (hpr.keepN hc02) (pairs_one hpa) (by omega) pc
 rw [hps] at hcl
 refine step_call hcl ?_
 rintro v w4 ⟨o4, c4, rfl, hO4, hc4⟩
 have hc04 := hc02.andN hc4
 have hs02 := hc02.size
 obtain ⟨c0, hc0⟩ : ∃ c0 : Nat, c0 = w.heap.size := ⟨_, rfl⟩
 rw [← hc0] at hC ⊢
 have hl0 := hC.lt
 have hs12 := hc2.size
 refine ⟨_, _, _, rfl, fun sA sN sC aA aN aC i k w' => ∃ (j : Nat) (A : Nat → Prop) (nps : List (Value × Value)), i = j ∧ j ≤ ts.length ∧ k = ts.length - j ∧ aN = past.length + j ∧ Ch Non w w' ∧ Blk w' c0 [.pointer (some ⟨bb, 0, none⟩)] t_P_brain_Brain ∧ V.Own w' t_step_Entry 2 aA aN aC ((ps ++ nps).map pairE).flatten A ∧
  All2 (fun p e => EV w' p e (fun i => New w w' i ∧ ¬ A i)) nps (newE c wt past (ts.take j)) ∧ (∀ i, A i → New w w' i ∧ i ≠ c0) ∧ IV w' (.slice sA sN sC) (runS c wt past [] (ts.take j)) (fun i => New w w' i ∧ ¬ A i), ⟨_, 0, New w3 w4, [], rfl, Nat.zero_le _, rfl, rfl, hc04, (hC.keepN hc2).keepN hc4, by rw [List.append_nil]; exact hO4, by rw [show newE c wt past (ts.take 0) = [] from List.drop_length]; exact .nil, fun i hi => ⟨⟨by have := hi.1; omega, hi.2⟩, by have := hi.1; omega⟩, IV.nil _ _⟩, ?_⟩
 rintro jk sA sN sC aA aN aC i k w5 ⟨j, A, nps, rfl, hj, rfl, rfl, hc5, hC5, hO5, hN5, hA, hS5⟩
 have hEq : runE c wt past (ts.take j) = past ++ newE c wt past (ts.take j) := runE_new _
 have hpl5 : PV w5 (.slice aA (past.length + j) aC) (runE c wt past (ts.take j)) (fun _ => True) := by
  refine ⟨aA, aC, ps ++ nps, ?_, ?_, hO5.2.2.1, hO5.rd.mono (fun _ _ _ => trivial), ?_⟩
  ·rw [runE_len, List.length_take, Nat.min_eq_left hj]
  ·rw [runE_len, List.length_take, Nat.min_eq_left hj]; exact hO5.2.1
  ·rw [hEq]
   exact (hpa.imp fun p e k => (k.keepN hc5).mono (fun _ _ _ => trivial)).append (hN5.imp fun p e k => k.mono (fun _ _ _ => trivial))
 refine ⟨fun hlt => ?_, fun hge => ?_⟩
 ·have hlt : j < ts.length := by have := of_decide_eq_true hlt; omega
  have htj := htok _ (List.getElem_mem hlt)
  have htk := take_snoc ts j hlt
  refine ⟨⟨by omega, by omega⟩, (htr.keepN hc5).at (j := (j : Int).toNat * 1) (v := .int .i64 ts[j]) (by simp [hlt]) fun p hp => ⟨_, hp, _, hC5.cell 0 rfl, ?_⟩⟩
  generalize ts[j] = t at htj htk
  refine step_call (Step_spec (h.keepN hc5) hpl5 t) ?_
  rintro v w6 hR
  have hgj : ∀ e ∈ runE c wt past (ts.take j), goodE c e := runE_good m _ hgood (fun x hx => htok x (List.mem_of_mem_take hx)) (by rw [List.length_take]; omega)
  obtain ⟨p6, u6, rfl, hE6, hL6⟩ := hR.yes hgj htj (by rw [runE_len, List.length_take]; omega)
  have hc6 := hR.ch
  have hE6' := hE6
  have hL6' := hL6
  obtain ⟨pa, pb⟩ := p6
  obtain ⟨g1, g2⟩ := hE6
  obtain ⟨ok, ck, uk, rfl, _⟩ := g1
  obtain ⟨ov, cv, uv, rfl, _⟩ := g2
  obtain ⟨ou, cu, rfl, _⟩ := hL6
  obtain ⟨e, he⟩ : ∃ e : Ent, stepE c wt (runE c wt past (ts.take j)) t = e := ⟨_, rfl⟩
  rw [he] at hE6' ⊢
  dsimp only at hE6' ⊢
  refine ⟨_, _, _, _, _, _, _, _, _, _, rfl, fun w7 e7 => ?_⟩
  have hU := Blk.new e7
  refine ⟨⟨hU.ok 0 rfl, hU.ok 1 rfl⟩, fun w8 e8 => iteF rfl ?_⟩
  have e8' : w8 = w7.setCells w6.heap.size 0 [.slice ok e.1.length ck, .slice ov e.2.length cv] := e8
  have hU8 := hU.all [.slice ok e.1.length ck, .slice ov e.2.length cv] rfl e8'
  have hc68 : Ch Non w6 w8 := (Ch.alloc (F := Non) e7).trans (Ch.sets (F := (· = w6.heap.size)) e8' rfl) (fun i hi he => by omega)
  refine ⟨_, _, _, _, _, _, ⟨hU8.cell 0 rfl, hU8.cell 1 rfl⟩, fun w9 e9 => ?_⟩
  have hc58 := hc6.andN hc68
  obtain ⟨o10, c10, w10, r10, hO10, hc10⟩ := V.Own.push el_S_step_Entry (hO5.keepN hc58) t_S_step_Entry e9 rfl rfl (by unfold maxLen; omega) (by omega)
  have hs58 := hc58.size
  have hs10 := hc10.size
  have hs5 := hc5.size
  have hc05 := hC5.lt
  have hAn : ∀ i, Ext A w8 w10 i → New w w10 i ∧ i ≠ c0 := fun i hi => by
   rcases hi with hi | hi
   ·exact ⟨⟨(hA i hi).1.1, by have := (hA i hi).1.2; omega⟩, (hA i hi).2⟩
   ·exact ⟨⟨by have := hi.1; omega, hi.2⟩, by have := hi.1; omega⟩
  have hflat : ((ps ++ nps).map pairE).flatten ++ [Value.slice ok e.1.length ck, .slice ov e.2.length cv] = ((ps ++ (nps ++ [(Value.slice ok e.1.length ck, Value.slice ov e.2.length cv)])).map pairE).flatten := by
   simp [pairE]
  have hreg : ∀ i, i < w5.heap.size → (New w w5 i ∧ ¬ A i) → New w w10 i ∧ ¬ Ext A w8 w10 i := fun i hi h => ⟨⟨h.1.1, by omega⟩, fun k => by
   rcases k with k | k
   ·exact h.2 k
   ·have := k.1; omega⟩
  have hreg6 : ∀ i, i < w6.heap.size → New w5 w6 i → New w w10 i ∧ ¬ Ext A w8 w10 i := fun i hi h => ⟨⟨by have := h.1; omega, by have := hc68.size; omega⟩, fun k => by
   rcases k with k | k
   ·have := (hA i k).1.2; have := h.1; omega
   ·have := k.1; have := hc68.size; omega⟩
  refine ⟨o10, _, c10, w10, r10, ts.length - (j + 1), by omega, j + 1, Ext A w8 w10, nps ++ [(Value.slice ok e.1.length ck, Value.slice ov e.2.length cv)], by rw [wrap_id (by omega) (by omega)]; rfl, hlt, rfl, rfl, (hc5.andN hc58).trans hc10 (fun i hi k => by have := (hA i k).1.1; omega), (hC5.keepN hc58).keep hc10 (fun k => (hA _ k).2 rfl), by rw [← hflat]; exact hO10, ?_, hAn, ?_⟩
  ·rw [htk, newE_snoc, he]
   refine All2.snoc (hN5.imp fun p e k => ?_) ?_
   ·exact (((k.mono (fun i hi h => (⟨hreg i hi h, h⟩ : (New w w10 i ∧ ¬ Ext A w8 w10 i) ∧ (New w w5 i ∧ ¬ A i)))).keepN hc58).keep hc10 (fun i _ h k => h.2.2 k)).mono (fun i _ h => h.1)
   ·exact (((hE6'.mono (fun i hi h => (⟨hreg6 i hi h, h⟩ : (New w w10 i ∧ ¬ Ext A w8 w10 i) ∧ New w5 w6 i))).keepN hc68).keep hc10 (fun i _ h k => by have := (hA i k).1.2; have := h.2.1; omega)).mono (fun i _ h => h.1)
  ·rw [htk, runS_app]
   exact (((hL6'.mono (fun i hi h => (⟨hreg6 i hi h, h⟩ : (New w w10 i ∧ ¬ Ext A w8 w10 i) ∧ New w5 w6 i))).keepN hc68).keep hc10 (fun i _ h k => by have := (hA i k).1.2; have := h.2.1; omega)).mono (fun i _ h => h.1)
 ·have hge : j = ts.length := by have := of_decide_eq_false hge; omega
  subst hge
  rw [List.take_length] at hN5 hS5 hEq
  have hsub := hO5.slice (lo := past.length) (hi := past.length + ts.length) (by omega) (Nat.le_refl _)
  have hflat2 : (((ps ++ nps).map pairE).flatten.drop (past.length * 2)).take ((past.length + ts.length - past.length) * 2) = (nps.map pairE).flatten := by
   rw [List.map_append, List.flatten_append, List.drop_left' (by rw [pairs_len, hps]), List.take_of_length_le]
   rw [pairs_len, hN5.length, newE_len]; omega
  rw [hflat2] at hsub
  refine ⟨⟨by omega, by omega⟩, hc5, fun k => absurd hgood k, fun _ k => absurd k h0, fun _ _ k => absurd htok k, fun _ _ _ k => absurd hl k, fun _ _ _ _ => ⟨_, _, _, _, A, rfl, ?_, hS5⟩⟩
  rw [Int.toNat_natCast]
  exact ⟨nps, hsub, by rw [newE_len]; omega, hN5, fun i hi => (hA i hi).1, hc5⟩
end
end Go.Proofs.YtkbikekbaboclaaGreat.Stp
