import Derived.Test.YtkbikekbaboclaaGreatGenP
import Derived.Test.YtkbikekbaboclaaGreatStpN
import Derived.Test.YtkbikekbaboclaaGreatVcGen
set_option linter.unusedVariables false
set_option linter.unusedSimpArgs false
namespace Go.Proofs.YtkbikekbaboclaaGreat.Gen
open Go Go.Proofs V Vc Conf Brain Num Stp Go.RowKit
section
variable {c : CfD} {wt : ByteArray} {w w' : World} {bb : Nat} {v pv sv : Value} {F G : Nat → Prop} {ts sc : List Int} {tk : Nat → List Int → Int}
theorem Check_c1_spec {c0 T : Nat} (hC : Blk w c0 [.pointer (some ⟨bb, 0, none⟩)] T) (h : BrK w bb c wt) (n : Int) : Calls Tryz.prog i_gen_Check_c1 #[.int .i64 n, .pointer (some ⟨c0, 0, none⟩)] w (Ret fun v w' => v = .bool (!decide (0 ≤ n ∧ n < c.vocab)) ∧ w' = w) := by
 have hbr : Blk w bb (cfE c ++ [.string wt]) t_brain_Brain := h.r
 refine gen_Check_c1.calls _ _ ?_
 unfold gen_Check_c1.vc
 refine ⟨fun h1 => ⟨?_, rfl⟩, fun h1 => ⟨_, hC.cell 0 rfl, _, hbr.cell 0 rfl, ?_, rfl⟩⟩
 ·have h1 := of_decide_eq_true h1
  rw [decide_eq_false (fun h => by omega)]; rfl
 ·have h1 := of_decide_eq_false h1
  by_cases hn : n < c.vocab
  ·rw [decide_eq_true (show 0 ≤ n ∧ n < c.vocab from ⟨by omega, hn⟩), decide_eq_false (show ¬ n ≥ c.vocab by omega)]; rfl
  ·rw [decide_eq_false (show ¬ (0 ≤ n ∧ n < c.vocab) from fun h => hn h.2), decide_eq_true (show n ≥ c.vocab by omega)]; rfl
theorem ContainsG_spec {c0 T : Nat} (hC : Blk w c0 [.pointer (some ⟨bb, 0, none⟩)] T) (h : BrK w bb c wt) (ht : IV w pv ts F) : Calls Tryz.prog 52 #[pv, .func (.func i_gen_Check_c1) #[] #[.pointer (some ⟨c0, 0, none⟩)]] w (Ret fun v w' => ∃ bv : Bool, v = .bool bv ∧ (bv = false ↔ ∀ t ∈ ts, tokOk c t) ∧ w' = w) := by
 obtain ⟨o, cc, rfl, h1, h2, hr⟩ := ht
 have hl := Nat.le_trans h1 h2
 refine slices_ContainsFunc.calls_gc _ _ _ _ ?_
 unfold slices_ContainsFunc.vc_gc
 have hi : Calls Tryz.prog 91 #[.slice o ts.length cc, .func (.func i_gen_Check_c1) #[] #[.pointer (some ⟨c0, 0, none⟩)]] w (Ret fun v w' => ∃ x : Int, v = .int .i64 x ∧ (x < 0 ↔ ∀ t ∈ ts, tokOk c t) ∧ w' = w) := by
  refine slices_IndexFunc.calls_gc _ _ _ _ ?_
  unfold slices_IndexFunc.vc_gc
  refine ⟨fun i k w' => w' = w ∧ ∃ j : Nat, i = j ∧ j ≤ ts.length ∧ k = ts.length - j ∧ ∀ t ∈ ts.take j, tokOk c t, ⟨_, rfl, 0, rfl, Nat.zero_le _, rfl, fun x hx => by simp at hx⟩, ?_⟩
  rintro jk i k w1 ⟨rfl, j, rfl, hj, rfl, hs⟩
  refine ⟨fun hlt => ?_, fun hge => ?_⟩
  ·have hlt : j < ts.length := by have := of_decide_eq_true hlt; omega
   refine ⟨⟨by omega, by omega⟩, hr.at (j := (j : Int).toNat * 1) (v := .int .i64 ts[j]) (by simp [hlt]) fun p hp => ⟨_, hp, step_call (Check_c1_spec hC h _) ?_⟩⟩
   rintro v w2 ⟨rfl, rfl⟩
   refine ⟨_, rfl, fun hb => ⟨_, rfl, ?_, rfl⟩, fun hb => ?_⟩
   ·constructor
    ·intro h; omega
    ·intro h
     have := h _ (List.getElem_mem hlt)
     unfold tokOk at this
     rw [decide_eq_true this] at hb; cases hb
   ·refine ⟨ts.length - (j + 1), by omega, rfl, j + 1, by rw [wrap_id (by omega) (by unfold maxLen at hl; omega)]; rfl, hlt, rfl, fun x hx => ?_⟩
    rw [take_snoc ts j hlt] at hx
    rcases List.mem_append.1 hx with hx | hx
    ·exact hs x hx
    ·rw [List.mem_singleton] at hx
     subst hx
     unfold tokOk
     generalize ts[j] = t at hb
     by_cases ht : 0 ≤ t ∧ t < c.vocab
     ·exact ht
     ·rw [decide_eq_false ht] at hb; cases hb
  ·have : j = ts.length := by have := of_decide_eq_false hge; omega
   subst this
   rw [List.take_length] at hs
   exact ⟨_, rfl, ⟨fun _ => hs, fun _ => by decide⟩, rfl⟩
 refine step_call hi ?_
 rintro v w1 ⟨x, rfl, hx, rfl⟩
 refine ⟨_, rfl, _, rfl, ?_, rfl⟩
 rw [← hx]
 constructor
 ·intro h; have := of_decide_eq_false h; omega
 ·intro h; exact decide_eq_false (by omega)
theorem Check_spec (h : BrK w bb c wt) (ht : IV w pv ts F) (hl : ts.length ≤ 1000000) (most : Int) : Calls Tryz.prog i_gen_Check #[.pointer (some ⟨bb, 0, none⟩), .int .i64 most, pv] w (Ret fun v w' => v = .int .i64 (checkP c most ts) ∧ Ch Non w w') := by
 have ht' := ht
 obtain ⟨o, cc, rfl, h1, h2, hr⟩ := ht
 refine gen_Check.calls _ _ _ _ _ ?_
 unfold gen_Check.vc
 intro w1 e1
 have hC := Blk.new e1
 have hc1 : Ch Non w w1 := Ch.alloc e1
 have hbr : Blk w1 bb (cfE c ++ [.string wt]) t_brain_Brain := (h.keepN hc1).r
 unfold checkP
 refine ⟨_, hC.cell 0 rfl, iteF rfl ⟨fun h0 => ?_, fun h0 => ⟨fun m1 => ?_, fun m1 => ⟨fun m2 => ?_, fun m2 => ?_⟩⟩⟩⟩
 ·have h0 : ts = [] := List.eq_nil_of_length_eq_zero (by have := eq_of_beq h0; omega)
  rw [if_pos (.inl h0)]; exact ⟨rfl, hc1⟩
 ·rw [if_pos (.inr (.inl (of_decide_eq_true m1)))]; exact ⟨rfl, hc1⟩
 ·rw [if_pos (.inr (.inr (of_decide_eq_true m2)))]; exact ⟨rfl, hc1⟩
 have h0 : ts ≠ [] := fun e => by subst e; simp at h0
 have m1 := of_decide_eq_false m1
 have m2 := of_decide_eq_false m2
 rw [if_neg (fun k => by rcases k with k | k | k; exact h0 k; exact m1 k; exact m2 k)]
 refine step_call (ContainsG_spec hC (h.keepN hc1) (ht'.keepN hc1)) ?_
 rintro v w2 ⟨bv, rfl, hb, rfl⟩
 refine ⟨_, rfl, fun hbt => ?_, fun hbf => ⟨_, hC.cell 0 rfl, _, hbr.cell 5 rfl, ?_⟩⟩
 ·rw [if_pos (fun k => by rw [hb.2 k] at hbt; cases hbt)]; exact ⟨rfl, hc1⟩
 ·rw [if_neg (fun k => k (hb.1 hbf)), wrap_id (by omega) (by omega)]
  refine ⟨fun hgt => ?_, fun hgt => ?_⟩
  ·rw [if_pos (of_decide_eq_true hgt)]; exact ⟨rfl, hc1⟩
  ·rw [if_neg (of_decide_eq_false hgt)]; exact ⟨rfl, hc1⟩
theorem Next_spec (hs : IV w sv sc F) (hl : sc.length ≤ 1000000) (draw : Int) : Calls Tryz.prog i_gen_Next #[.int .i64 draw, sv] w (Ret fun v w' => v = .int .i64 (nextI draw sc) ∧ Ch Non w w') := by
 obtain ⟨o, cc, rfl, h1, h2, hr⟩ := hs
 refine gen_Next.calls _ _ _ _ ?_
 unfold gen_Next.vc
 refine step_call (Soft.Weights_spec hr hl cc) ?_
 rintro v w1 ⟨A, C, rfl, hg⟩
 refine ⟨_, _, _, rfl, step_call (Soft.Choose_spec hg.rd (by rw [weights_len]; exact hl) draw C) ?_⟩
 rintro v w2 ⟨rfl, rfl⟩
 refine ⟨_, rfl, ?_, hg.2⟩
 unfold nextI
 congr 1
 split <;> omega
theorem Gen_c1_spec {c0 : Nat} {T : Nat} {draws : List Int} {od : Option Addr} {cd : Nat} (hC : Blk w c0 [.slice od draws.length cd] T) (hd : Rd w od (draws.map (.int .i64)) G) (hs : IV w sv sc F) (hl : sc.length ≤ 1000000) (at' : Nat) : Calls Tryz.prog i_gen_Gen_c1 #[.int .i64 at', sv, .pointer (some ⟨c0, 0, none⟩)] w (Ret fun v w' => v = .int .i64 (drawT draws at' sc) ∧ Ch Non w w') := by
 have hs' := hs
 obtain ⟨o, cc, rfl, h1, h2, hr⟩ := hs
 refine gen_Gen_c1.calls _ _ _ _ _ ?_
 unfold gen_Gen_c1.vc drawT
 refine ⟨_, _, _, hC.cell 0 rfl, fun hlt => ⟨_, _, _, hC.cell 0 rfl, ?_⟩, fun hge => ?_⟩
 ·have hlt : at' < draws.length := by have := of_decide_eq_true hlt; omega
  refine ⟨⟨by omega, by omega⟩, hd.at (j := (at' : Int).toNat * 1) (v := .int .i64 draws[at']) (by simp [hlt]) fun p hp => ⟨_, hp, step_call (Next_spec hs' hl _) ?_⟩⟩
  rintro v w1 ⟨rfl, hc⟩
  exact ⟨_, rfl, by rw [List.getD_eq_getElem?_getD, List.getElem?_eq_getElem hlt]; rfl, hc⟩
 ·have hge : draws.length ≤ at' := by have := of_decide_eq_false hge; omega
  refine step_call (Next_spec hs' hl 0) ?_
  rintro v w1 ⟨rfl, hc⟩
  exact ⟨_, rfl, by rw [List.getD_eq_getElem?_getD, List.getElem?_eq_none hge]; rfl, hc⟩
structure GenR (c : CfD) (wt : ByteArray) (tk : Nat → List Int → Int) (most : Int) (prompt : List Int) (w : World) (v : Value) (w' : World) : Prop where
 ch : Ch Non w w'
 no : checkP c most prompt ≠ 0 → v = .tuple #[.slice none 0 0, .int .i64 (checkP c most prompt)]
 yes : checkP c most prompt = 0 → ∃ u : Value, v = .tuple #[u, .int .i64 0] ∧ IV w' u (sayP c wt tk most prompt) (New w w')
def PBX (W w : World) (o : Option Addr) (n cp : Nat) (es : List Ent) (A B : Nat → Prop) : Prop :=
 ∃ nps : List (Value × Value), V.Own w t_step_Entry 2 o n cp (nps.map pairE).flatten A ∧ n = es.length ∧ All2 (fun p e => EV w p e (fun i => New W w i ∧ ¬ A i ∧ ¬ B i)) nps es ∧ (∀ i, A i → New W w i ∧ ¬ B i) ∧ (∀ i, B i → New W w i) ∧ Ch Non W w
section
variable {W w1 : World} {o : Option Addr} {n cp : Nat} {es : List Ent} {A B B' : Nat → Prop} {p : Value × Value} {e : Ent}
theorem PBX.of (h : PB W w o n cp es A) : PBX W w o n cp es A Non := by
 obtain ⟨nps, h1, h2, h3, h4, h5⟩ := h
 exact ⟨nps, h1, h2, h3.imp fun p e k => k.mono (fun i _ h => ⟨h.1, h.2, id⟩), fun i hi => ⟨h4 i hi, id⟩, fun i hi => hi.elim, h5⟩
theorem PBX.ch (h : PBX W w o n cp es A B) : Ch Non W w := by obtain ⟨_, _, _, _, _, _, h⟩ := h; exact h
theorem PBX.len (h : PBX W w o n cp es A B) : n = es.length := by obtain ⟨_, _, h, _⟩ := h; exact h
theorem PBX.toP (h : PBX W w o n cp es A B) : PV w (.slice o n cp) es (New W w) := by
 obtain ⟨nps, h1, rfl, h3, h4, _, h5⟩ := h
 exact ⟨o, cp, nps, rfl, h1.2.1, h1.2.2.1, h1.rd.mono (fun i _ hi => (h4 i hi).1), h3.imp fun p e k => k.mono (fun i _ hi => hi.1)⟩
theorem PBX.keepB (h : PBX W w o n cp es A B) (hc : Ch B w w') (hB : ∀ i, B' i → Ext B w w' i) : PBX W w' o n cp es A B' := by
 obtain ⟨nps, h1, h2, h3, h4, h6, h5⟩ := h
 have hs := hc.size
 have hWs := h5.size
 have hAB : ∀ i, i < w.heap.size → ¬ B i → ¬ B' i := fun i hi h k => by
  rcases hB i k with k | k
  ·exact h k
  ·have := k.1; omega
 refine ⟨nps, h1.keep hc (fun i _ ha hb => (h4 i ha).2 hb), h2, h3.imp fun p e k => ?_, fun i hi => ⟨⟨(h4 i hi).1.1, by have := (h4 i hi).1.2; omega⟩, hAB i (h4 i hi).1.2 (h4 i hi).2⟩, fun i hi => ?_, h5.trans hc (fun i hi k => by have := (h6 i k).1; omega)⟩
 ·exact ((k.mono (fun i hi h => (⟨⟨⟨h.1.1, by omega⟩, h.2.1, hAB i hi h.2.2⟩, h⟩ : (New W w' i ∧ ¬ A i ∧ ¬ B' i) ∧ (New W w i ∧ ¬ A i ∧ ¬ B i)))).keep hc (fun i _ h k => h.2.2.2 k)).mono (fun i _ h => h.1)
 ·rcases hB i hi with hi | hi
  ·exact ⟨(h6 i hi).1, by have := (h6 i hi).2; omega⟩
  ·exact ⟨by have := hi.1; omega, hi.2⟩
theorem PBX.keepN (h : PBX W w o n cp es A B) (hc : Ch Non w w') : PBX W w' o n cp es A B := h.keepB hc.any (fun i hi => .inl hi)
theorem PBX.push (h : PBX W w o n cp es A B) (hE : EV w p e (fun i => New W w i ∧ ¬ A i ∧ ¬ B i)) (e1 : w1 = w.alloc (.cells #[p.1, p.2] t_step_Entry (0, 0))) (hn : n < 1000000) :
  ∃ (o' : Option Addr) (c' : Nat) (w' : World), (Builtin.append_ #[t_S_step_Entry, t_S_step_Entry] t_S_step_Entry #[.slice o n cp, .slice (some ⟨w.heap.size, 0, none⟩) 1 1]).run Tryz.prog w1 = .ok (.slice o' (n + 1) c') w' ∧ PBX W w' o' (n + 1) c' (es ++ [e]) (Ext A w w') B ∧ Ch A w w' := by
 obtain ⟨nps, h1, rfl, h3, h4, h6, h5⟩ := h
 obtain ⟨o', c', w', hr, hO, hc⟩ := V.Own.push el_S_step_Entry h1 t_S_step_Entry e1 rfl (by simp [RV.one hE.1, RV.one hE.2]) (by unfold maxLen; omega) (by omega)
 have hs := hc.size
 have hWs := h5.size
 have hreg : ∀ i, i < w.heap.size → (New W w i ∧ ¬ A i ∧ ¬ B i) → New W w' i ∧ ¬ Ext A w w' i ∧ ¬ B i := fun i hi h => ⟨⟨h.1.1, by omega⟩, fun k => by
  rcases k with k | k
  ·exact h.2.1 k
  ·have := k.1; omega, h.2.2⟩
 refine ⟨o', c', w', hr, ⟨nps ++ [p], by rw [show ((nps ++ [p]).map pairE).flatten = (nps.map pairE).flatten ++ [p.1, p.2] by simp [pairE]]; exact hO, by simp, ?_, fun i hi => ?_, fun i hi => ⟨(h6 i hi).1, by have := (h6 i hi).2; omega⟩, h5.trans hc (fun i hi k => by have := (h4 i k).1.1; omega)⟩, hc⟩
 ·have step : ∀ {p : Value × Value} {e : Ent}, EV w p e (fun i => New W w i ∧ ¬ A i ∧ ¬ B i) → EV w' p e (fun i => New W w' i ∧ ¬ Ext A w w' i ∧ ¬ B i) := fun k => ((k.mono (fun i hi h => (⟨hreg i hi h, h⟩ : (New W w' i ∧ ¬ Ext A w w' i ∧ ¬ B i) ∧ (New W w i ∧ ¬ A i ∧ ¬ B i)))).keep hc (fun i _ h k => h.2.2.1 k)).mono (fun i _ h => h.1)
  exact (h3.imp fun p e k => step k).snoc (step hE)
 ·rcases hi with hi | hi
  ·exact ⟨⟨(h4 i hi).1.1, by have := (h4 i hi).1.2; omega⟩, (h4 i hi).2⟩
  ·exact ⟨⟨by have := hi.1; omega, hi.2⟩, fun k => by have := (h6 i k).2; have := hi.1; omega⟩
theorem PBX.far (h : PBX W w o n cp es A B) {w2 w3 : World} (hs : w.heap.size ≤ w2.heap.size) (hW : w3.heap.size ≤ w'.heap.size) {i : Nat} (hi : New w2 w3 i) : New W w' i ∧ ¬ A i ∧ ¬ B i := by
 obtain ⟨nps, h1, rfl, h3, h4, h6, h5⟩ := h
 have := h5.size
 exact ⟨⟨by have := hi.1; omega, by have := hi.2; omega⟩, fun k => by have := (h4 i k).1.2; have := hi.1; omega, fun k => by have := (h6 i k).2; have := hi.1; omega⟩
end
theorem hPXB {W : World} {o : Option Addr} {n cp : Nat} {es : List Ent} {A B : Nat → Prop} (h : PBX W w o n cp es A B) : ∀ i, B i → New W w i := by obtain ⟨_, _, _, _, _, h, _⟩ := h; exact h
theorem hPXA {W : World} {o : Option Addr} {n cp : Nat} {es : List Ent} {A B : Nat → Prop} (h : PBX W w o n cp es A B) : ∀ i, A i → ¬ B i := by obtain ⟨_, _, _, _, h, _⟩ := h; exact fun i hi => (h i hi).2
theorem ents_of {p : Value × Value} {e : Ent} (h : EV w p e F) : ∃ (o1 : Option Addr) (c1 : Nat) (o2 : Option Addr) (c2 : Nat), p = (.slice o1 e.1.length c1, .slice o2 e.2.length c2) := by
 obtain ⟨a, b⟩ := p
 obtain ⟨⟨o1, c1, _, h1, _⟩, ⟨o2, c2, _, h2, _⟩⟩ := h
 exact ⟨o1, c1, o2, c2, by rw [show a = _ from h1, show b = _ from h2]⟩
set_option maxHeartbeats 2000000 in
theorem sayG_spec {c0 T : Nat} {draws : List Int} {od : Option Addr} {cd : Nat} (h : BrK w bb c wt) (hp : IV w pv ts F) (hl : ts.length ≤ 1000000) (most : Int) (hC : Blk w c0 [.slice od draws.length cd] T) (hd : Rd w od (draws.map (.int .i64)) G) :
  Calls Tryz.prog i_gen_say #[.pointer (some ⟨bb, 0, none⟩), pv, .int .i64 most, .func (.func i_gen_Gen_c1) #[] #[.pointer (some ⟨c0, 0, none⟩)]] w (Ret (GenR c wt (drawT draws) most ts w)) := by
 have hp' := hp
 obtain ⟨po, pc, rfl, _⟩ := hp
 have hto := drawT_ok draws
 have htk : ∀ (w' : World), Ch Non w w' → ∀ (j : Nat) (s : List Int) (sv : Value) (K : Nat → Prop), IV w' sv s K → s.length ≤ 1000000 → Calls Tryz.prog i_gen_Gen_c1 #[.int .i64 j, sv, .pointer (some ⟨c0, 0, none⟩)] w' (Ret fun v w'' => v = .int .i64 (drawT draws j s) ∧ Ch Non w' w'') := fun w' hc j s sv K hs hl => Gen_c1_spec (hC.keepN hc) (hd.keepN hc) hs hl j
 generalize drawT draws = tk at hto htk ⊢
 refine gen_say.calls_gn _ _ _ _ _ _ ?_
 unfold gen_say.vc_gn
 have m : Md c wt := ⟨h.ok, h.sz⟩
 have hctx := m.ok.2.2.2.2.2.1
 have hvoc := m.ok.1
 refine step_call (Check_spec h hp' hl most) ?_
 rintro v w1 ⟨rfl, hc1⟩
 by_cases hk : checkP c most ts = 0
 case neg => exact ⟨_, rfl, fun _ => ⟨hc1, fun _ => rfl, fun k => absurd k hk⟩, fun hf => by simp at hf; exact absurd hf hk⟩
 have hk' := hk
 obtain ⟨hne, hm1, hm2, htok, hlen⟩ := checkP_ok hk
 rw [hk]
 have hg0 : ∀ e ∈ ([] : List Ent), goodE c e := fun e he => by cases he
 refine ⟨_, rfl, iteF rfl (step_call (Run_spec (h.keepN hc1) (PV.nil w1 Non) (hp'.keepN hc1) hl (by simp)) ?_)⟩
 rintro v w2 hR
 have hc2 := hR.ch
 obtain ⟨oa, na, ca, u, A, rfl, hPB, hIU⟩ := hR.yes hg0 hne htok (by simp; omega)
 have hIU' := hIU
 obtain ⟨ou, cu, rfl, _⟩ := hIU
 have hc02 := hc1.andN hc2
 have hs1 := hc1.size
 have hs2 := hc2.size
 obtain ⟨M, hM⟩ : ∃ M : Nat, most = M := ⟨most.toNat, by omega⟩
 subst hM
 have hfin : sayP c wt tk M ts = sayG c wt tk M 0 (runE c wt [] ts) (runS c wt [] [] ts) := by unfold sayP; rw [Int.toNat_natCast]
 obtain ⟨res, hres⟩ : ∃ res : List Int, sayP c wt tk M ts = res := ⟨_, rfl⟩
 refine ⟨_, _, _, _, _, _, _, rfl, iteF rfl ⟨fun pA pN pC sA sN sC oA oN oC k w' => ∃ (j : Nat) (A B : Nat → Prop) (past : List Ent) (scs out : List Int), j + k = M ∧ 1 ≤ k ∧ oN = j ∧ out.length = j ∧ PBX w1 w' pA pN pC past A B ∧ (∀ e ∈ past, goodE c e) ∧ past.length = ts.length + j ∧ IV w' (.slice sA sN sC) scs (fun i => New w1 w' i ∧ ¬ A i ∧ ¬ B i) ∧ scs.length = c.vocab.toNat ∧ V.Own w' t_int 1 oA oN oC (out.map (.int .i64)) B ∧
  out ++ sayG c wt tk k j past scs = res, ⟨M, 0, A, Non, _, _, [], by omega, by omega, rfl, rfl, PBX.of hPB, runE_good m _ hg0 htok (by simp; omega), by rw [newE_len]; rfl, hIU'.mono (fun i _ h => ⟨h.1, h.2, id⟩), runS_len hne, V.Own.nil _ _ _ _, by rw [← hres, hfin]; rfl⟩, ?_⟩⟩
 rintro jk pA pN pC sA sN sC oA oN oC k w3 ⟨j, A3, B3, past, scs, out, hjk, hk1, rfl, hol, hPX, hgp, hpl, hS, hsl, hO, hinv⟩
 have hc13 := hPX.ch
 have hc03 := hc1.andN hc13
 obtain ⟨k, rfl⟩ : ∃ k', k = k' + 1 := ⟨k - 1, by omega⟩
 have hsn : scs ≠ [] := fun e => by rw [e] at hsl; simp at hsl; omega
 obtain ⟨t, ht⟩ : ∃ t : Int, tk oN scs = t := ⟨_, rfl⟩
 have htb := hto oN scs hsn
 rw [ht] at htb
 rw [sayG, ht] at hinv
 have hcall := htk w3 hc03 oN scs _ _ hS (by omega)
 rw [ht] at hcall
 refine step_call hcall ?_
 rintro v w4 ⟨rfl, hc4⟩
 have hPX4 := hPX.keepN hc4
 have hO4 := hO.keepN hc4
 refine ⟨_, rfl, fun h0 => ?_, fun h0 => ?_⟩
 ·have h0 : t = 0 := eq_of_beq h0
  rw [if_pos h0, List.append_nil] at hinv
  subst hinv
  refine ⟨hc03.andN hc4, fun k => absurd hk' k, fun _ => ⟨_, rfl, ?_⟩⟩
  rw [hres]
  have hiv : IV w4 (.slice oA oN oC) out B3 := by
   rw [← hol] at hO4 ⊢
   exact Own.iv hO4
  exact hiv.mono (fun i _ hi => by
   have h1 := hPXB hPX4 i hi
   exact ⟨by have := h1.1; omega, h1.2⟩)
 have h0 : ¬ t = 0 := by simpa using h0
 rw [if_neg h0] at hinv
 intro w5 e5
 obtain ⟨o6, c6, w6, r6, hO6, hc6⟩ := V.Own.pushT (enc := fun x : Int => Value.int .i64 x) (xs := out) el_S_int hO4 t_S_int t e5 rfl (by unfold maxLen; omega) (by omega)
 have hPX6 := hPX4.keepB hc6 (fun i hi => hi)
 have hc06 : Ch Non w w6 := hc1.andN hPX6.ch
 refine ⟨o6, _, c6, w6, r6, fun hlast => ?_, fun hnl => ?_⟩
 ·have hlast : oN + 1 = M := by have := eq_of_beq hlast; omega
  have hk0 : k = 0 := by omega
  subst hk0
  have hinv : out ++ [t] = res := hinv
  refine ⟨hc06, fun k => absurd hk' k, fun _ => ⟨_, rfl, ?_⟩⟩
  rw [hres, ← hinv]
  have hiv : IV w6 (.slice o6 (oN + 1) c6) (out ++ [t]) (Ext B3 w4 w6) := by
   have e : oN + 1 = (out ++ [t]).length := by rw [List.length_append, hol]; rfl
   rw [e] at hO6 ⊢
   exact Own.iv hO6
  exact hiv.mono (fun i _ hi => by
   have h1 := hPXB hPX6 i hi
   exact ⟨by have := h1.1; omega, h1.2⟩)
 have hnl : ¬ oN + 1 = M := fun k => by rw [show ((oN + 1 : Nat) : Int) = (M : Int) by omega] at hnl; simp at hnl
 have hk2 : 1 ≤ k := by omega
 refine step_call (Step_spec (h.keepN hc06) hPX6.toP t) ?_
 rintro v w7 hS7
 have hc7 := hS7.ch
 have hcl : (past.length : Int) < c.context := by omega
 have htv : 0 ≤ t ∧ t < c.vocab := by omega
 obtain ⟨p7, u7, rfl, hE7, hL7⟩ := hS7.yes hgp htv hcl
 have hge := (step_ok m hgp hcl htv).2
 have hlL := stepL_len (c := c) (wt := wt) past t
 obtain ⟨e, he⟩ : ∃ e : Ent, stepE c wt past t = e := ⟨_, rfl⟩
 obtain ⟨ns, hns⟩ : ∃ ns : List Int, stepL c wt past t = ns := ⟨_, rfl⟩
 rw [he] at hE7 hge hinv
 rw [hns] at hL7 hlL hinv
 obtain ⟨o1, c1, o2, c2, rfl⟩ := ents_of hE7
 have hL7' := hL7
 obtain ⟨o3, c3, rfl, _⟩ := hL7
 refine ⟨_, _, _, _, _, _, _, _, _, _, rfl, fun w8 e8 => ?_⟩
 have hU8 := Blk.new e8
 refine ⟨⟨hU8.ok 0 rfl, hU8.ok 1 rfl⟩, fun w9 e9 => iteF rfl ?_⟩
 have e9' : w9 = w8.setCells w7.heap.size 0 [.slice o1 e.1.length c1, .slice o2 e.2.length c2] := e9
 have hU9 := hU8.all [.slice o1 e.1.length c1, .slice o2 e.2.length c2] rfl e9'
 have hc79 : Ch Non w7 w9 := (Ch.alloc (F := Non) e8).trans (Ch.sets (F := (· = w7.heap.size)) e9' rfl) (fun i hi he => by omega)
 refine ⟨_, _, _, _, _, _, ⟨hU9.cell 0 rfl, hU9.cell 1 rfl⟩, fun w10 e10 => ?_⟩
 have hc69 := hc7.andN hc79
 have hPX9 := hPX6.keepN hc69
 have hE9 := (hE7.keepN hc79).mono (G := fun i => New w1 w9 i ∧ ¬ A3 i ∧ ¬ Ext B3 w4 w6 i) (fun i _ hi => hPX6.far (w2 := w6) (w3 := w7) (Nat.le_refl _) hc79.size hi)
 obtain ⟨o11, c11, w11, r11, hP11, hc11⟩ := hPX9.push hE9 e10 (by rw [hPX9.len]; omega)
 have hs911 := hc11.size
 refine ⟨o11, _, c11, w11, r11, k, by omega, oN + 1, _, _, past ++ [e], ns, out ++ [t], by omega, hk2, rfl, by rw [List.length_append, hol]; rfl, hP11, fun x hx => ?_, by rw [List.length_append, hpl]; rfl, ?_, hlL, ?_, by rw [List.append_assoc]; exact hinv⟩
 ·rcases List.mem_append.1 hx with hx | hx
  ·exact hgp x hx
  ·rw [List.mem_singleton] at hx; subst hx; exact hge
 ·have h9 := (hL7'.keepN hc79).mono (G := fun i => (New w1 w9 i ∧ ¬ A3 i ∧ ¬ Ext B3 w4 w6 i) ∧ i < w9.heap.size) (fun i hi h => ⟨hPX6.far (w2 := w6) (w3 := w7) (Nat.le_refl _) hc79.size h, hi⟩)
  exact (h9.keep hc11 (fun i _ h k => h.1.2.1 k)).mono (fun i _ h => ⟨⟨h.1.1.1, by have := h.2; omega⟩, fun k => by
   rcases k with k | k
   ·exact h.1.2.1 k
   ·have := k.1; have := h.2; omega, h.1.2.2⟩)
 ·exact (hO6.keepN hc69).keep hc11 (fun i _ hb k => hPXA hPX9 i k hb)
theorem Gen_spec {draws : List Int} {dv : Value} (h : BrK w bb c wt) (hp : IV w pv ts F) (hl : ts.length ≤ 1000000) (most : Int) (hd : IV w dv draws G) :
  Calls Tryz.prog i_gen_Gen #[.pointer (some ⟨bb, 0, none⟩), pv, .int .i64 most, dv] w (Ret (GenR c wt (drawT draws) most ts w)) := by
 have hp' := hp
 obtain ⟨po, pc, rfl, _⟩ := hp
 obtain ⟨od, cd, rfl, _, _, hr⟩ := hd
 refine gen_Gen.calls _ _ _ _ _ _ _ _ ?_
 unfold gen_Gen.vc
 intro w1 e1
 have hC := Blk.new e1
 have hc1 : Ch Non w w1 := Ch.alloc e1
 have hs := hc1.size
 refine step_call (sayG_spec (h.keepN hc1) (hp'.keepN hc1) hl most hC (hr.keepN hc1)) ?_
 rintro v w2 hR
 by_cases hk : checkP c most ts = 0
 ·obtain ⟨u, rfl, hu⟩ := hR.yes hk
  have hu' := hu
  obtain ⟨ou, cu, rfl, _⟩ := hu
  exact ⟨_, _, _, _, rfl, hc1.andN hR.ch, fun k => absurd hk k, fun _ => ⟨_, rfl, hu'.mono (fun i _ hi => ⟨by have := hi.1; omega, hi.2⟩)⟩⟩
 ·rw [hR.no hk]
  exact ⟨_, _, _, _, rfl, hc1.andN hR.ch, fun _ => rfl, fun k => absurd k hk⟩
end
end Go.Proofs.YtkbikekbaboclaaGreat.Gen
