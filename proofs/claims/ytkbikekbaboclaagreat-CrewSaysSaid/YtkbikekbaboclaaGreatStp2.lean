import Derived.Test.YtkbikekbaboclaaGreatStp
set_option linter.unusedVariables false
set_option linter.unusedSimpArgs false
namespace Go.Proofs.YtkbikekbaboclaaGreat.Stp
open Go Go.Proofs V Vc Conf Brain Num Go.RowKit
def RR (W w : World) (wb : Nat) (A B : Nat → Prop) : Nat → Prop := fun i => New W w i ∧ i ≠ wb ∧ ¬ A i ∧ ¬ B i
structure WkR (W w : World) (wb bb : Nat) (pv : Value) (s : WkD) (A B : Nat → Prop) : Prop where
 ex : ∃ (xv : Value) (oK : Option Addr) (cK : Nat) (uK : List Value) (oV : Option Addr) (cV : Nat) (uV : List Value),
  Blk w wb [.pointer (some ⟨bb, 0, none⟩), pv, xv, .slice oK s.K.length cK, .slice oV s.V.length cV] t_step_walk ∧ IV w xv s.x (RR W w wb A B) ∧
  V.Own w t_S_int 1 oK s.K.length cK uK A ∧ All2 (fun u xs => IV w u xs (RR W w wb A B)) uK s.K ∧ V.Own w t_S_int 1 oV s.V.length cV uV B ∧ All2 (fun u xs => IV w u xs (RR W w wb A B)) uV s.V
 a : ∀ i, A i → New W w i ∧ i ≠ wb ∧ ¬ B i
 b : ∀ i, B i → New W w i ∧ i ≠ wb
 n : W.heap.size ≤ wb ∧ wb < w.heap.size
 ch : Ch Non W w
section
variable {W w w' : World} {wb bb : Nat} {c : CfD} {wt : ByteArray} {s : WkD} {pv v : Value} {vs xs ys : List Int} {A B A' B' F G : Nat → Prop} {past : List Ent} {b : Nat}
theorem RR.le (hs : w.heap.size ≤ w'.heap.size) (hA : ∀ i, A' i → Ext A w w' i) (hB : ∀ i, B' i → Ext B w w' i) {i : Nat} (hi : i < w.heap.size) (h : RR W w wb A B i) : RR W w' wb A' B' i :=
 ⟨⟨h.1.1, by have := h.1.2; omega⟩, h.2.1, fun k => by
  rcases hA i k with k | k
  ·exact h.2.2.1 k
  ·have := k.1; omega, fun k => by
  rcases hB i k with k | k
  ·exact h.2.2.2 k
  ·have := k.1; omega⟩
theorem All2.iv {us : List Value} {xss : List (List Int)} (h : All2 (fun u xs => IV w u xs F) us xss) (hc : Ch G w w') (hd : ∀ i, i < w.heap.size → F i → ¬ G i) {F' : Nat → Prop} (hF : ∀ i, i < w.heap.size → F i → F' i) : All2 (fun u xs => IV w' u xs F') us xss :=
 h.imp fun u xs k => (k.mono (fun i hi h => (⟨hF i hi h, hi, h⟩ : F' i ∧ i < w.heap.size ∧ F i))).keep hc (fun i _ h => hd i h.2.1 h.2.2) |>.mono (fun i _ h => h.1)
theorem WkR.keepN (h : WkR W w wb bb pv s A B) (hc : Ch Non w w') : WkR W w' wb bb pv s A B := by
 obtain ⟨⟨xv, oK, cK, uK, oV, cV, uV, h1, h2, h3, h4, h5, h6⟩, ha, hb, hn, hch⟩ := h
 have hs := hc.size
 have hR : ∀ i, i < w.heap.size → RR W w wb A B i → RR W w' wb A B i := fun i hi h => RR.le hs (fun _ h => .inl h) (fun _ h => .inl h) hi h
 exact ⟨⟨xv, oK, cK, uK, oV, cV, uV, h1.keepN hc, (h2.mono hR).keepN hc, h3.keepN hc, All2.iv h4 hc (fun _ _ _ => id) hR, h5.keepN hc, All2.iv h6 hc (fun _ _ _ => id) hR⟩,
  fun i hi => ⟨⟨(ha i hi).1.1, by have := (ha i hi).1.2; omega⟩, (ha i hi).2⟩, fun i hi => ⟨⟨(hb i hi).1.1, by have := (hb i hi).1.2; omega⟩, (hb i hi).2⟩, ⟨hn.1, by omega⟩, hch.andN hc⟩
theorem WkR.size (h : WkR W w wb bb pv s A B) (m : Md c wt) {j : Nat} (ok : WkOk c j s) : s.x.length ≤ 1000000 := by
 have := m.ok.2.1; rw [ok.x]; omega
theorem WkR.setX (h : WkR W w wb bb pv s A B) {xv' : Value} {xs' : List Int} {oK oV : Option Addr} {cK cV : Nat} {xv : Value}
  (hB : Blk w wb [.pointer (some ⟨bb, 0, none⟩), pv, xv, .slice oK s.K.length cK, .slice oV s.V.length cV] t_step_walk)
  (hB' : Blk w' wb [.pointer (some ⟨bb, 0, none⟩), pv, xv', .slice oK s.K.length cK, .slice oV s.V.length cV] t_step_walk) (hx : IV w' xv' xs' (New w w')) (hc : Ch (· = wb) w w') : WkR W w' wb bb pv ⟨xs', s.K, s.V⟩ A B := by
 obtain ⟨⟨xv0, oK0, cK0, uK, oV0, cV0, uV, h1, h2, h3, h4, h5, h6⟩, ha, hb, hn, hch⟩ := h
 have hs := hc.size
 have he : (Obj.cells #[.pointer (some ⟨bb, 0, none⟩), pv, xv0, .slice oK0 s.K.length cK0, .slice oV0 s.V.length cV0] t_step_walk (0, 0)) = .cells #[.pointer (some ⟨bb, 0, none⟩), pv, xv, .slice oK s.K.length cK, .slice oV s.V.length cV] t_step_walk (0, 0) := Option.some.inj (h1.symm.trans hB)
 injection he with he
 have he := congrArg Array.toList he
 simp only [List.cons.injEq, Value.slice.injEq, and_true, true_and] at he
 obtain ⟨rfl, ⟨rfl, rfl⟩, rfl, rfl⟩ := he
 have hR : ∀ i, i < w.heap.size → RR W w wb A B i → RR W w' wb A B i := fun i hi h => RR.le hs (fun _ h => .inl h) (fun _ h => .inl h) hi h
 have hRn : ∀ i, i < w.heap.size → RR W w wb A B i → ¬ i = wb := fun i _ h => h.2.1
 refine ⟨⟨xv', _, _, uK, _, _, uV, hB', hx.mono (fun i _ hi => ⟨⟨by have := hi.1; have := hch.size; omega, hi.2⟩, by have := hi.1; omega, fun k => by have := (ha i k).1.2; have := hi.1; omega, fun k => by have := (hb i k).1.2; have := hi.1; omega⟩), h3.keep hc (fun i _ hi => (ha i hi).2.1), All2.iv h4 hc hRn hR, h5.keep hc (fun i _ hi => (hb i hi).2), All2.iv h6 hc hRn hR⟩,
  fun i hi => ⟨⟨(ha i hi).1.1, by have := (ha i hi).1.2; omega⟩, (ha i hi).2⟩, fun i hi => ⟨⟨(hb i hi).1.1, by have := (hb i hi).1.2; omega⟩, (hb i hi).2⟩, ⟨hn.1, by omega⟩, hch.trans hc (fun i hi h => by omega)⟩
set_option maxHeartbeats 1000000 in
theorem think_spec (m : Md c wt) (h : WkR W w wb bb pv s A B) (hbr : BrK W bb c wt) {n : Nat} (ok : WkOk c n s) (hb : (b : Int) < c.blocks) : Calls Tryz.prog i_step_walk_think #[.pointer (some ⟨wb, 0, none⟩), .int .i64 b] w (Ret fun u w' => u = .tuple #[] ∧ WkR W w' wb bb pv (thinkP c wt b s) A B) := by
 have h' := h
 obtain ⟨⟨xv, oK, cK, uK, oV, cV, uV, h1, h2, h3, h4, h5, h6⟩, ha, hb', hn, hch⟩ := h
 have hxl := h'.size m ok
 have hbr0 := hbr.keepN hch
 obtain ⟨hu8, hu9, hus, hup⟩ := thinkU_len m hb ok.x
 have h10 := thinkD_len m hb hup
 have hdm := m.ok.2.1
 have hhd := m.ok.2.2.2.2.1
 refine step_walk_think.calls _ _ ?_
 unfold step_walk_think.vc
 refine step_call (norm_spec h1 hbr0 (okPB_b (p := 7) (by omega) (by omega) hb) h2 hxl) ?_
 rintro v w1 ⟨hv, hc1⟩
 have hv1 := hv
 obtain ⟨o1, c1, rfl, _⟩ := hv
 refine ⟨_, _, _, rfl, step_call (times_spec ((h1.keepN hc1).cell 0 rfl) (hbr0.keepN hc1) (okPB_b (p := 8) (by omega) (by omega) hb) hv1) ?_⟩
 rintro v w2 ⟨hv, hc2⟩
 have hv2 := hv
 obtain ⟨o2, c2, rfl, _, _, hr2⟩ := hv
 have hc02 := hc1.andN hc2
 refine ⟨_, _, _, rfl, step_call (times_spec ((h1.keepN hc02).cell 0 rfl) (hbr0.keepN hc02) (okPB_b (p := 9) (by omega) (by omega) hb) (hv1.keepN hc2)) ?_⟩
 rintro v w3 ⟨hv, hc3⟩
 obtain ⟨o3, c3, rfl, _, _, hr3⟩ := hv
 have hc03 := hc02.andN hc3
 refine ⟨_, _, _, rfl, step_call (Act.Pairs_spec (hr2.keepN hc3) hr3 (fun x hx => by have := hus x hx; exact ⟨by omega, by omega⟩) (Nat.le_trans (Nat.le_of_eq hu9) (by omega))) ?_⟩
 rintro v w4 ⟨o4, c4, rfl, hO4, hc4⟩
 have hc04 := hc03.andN hc4
 refine ⟨_, _, _, rfl, step_call (times_spec ((h1.keepN hc04).cell 0 rfl) (hbr0.keepN hc04) (okPB_b (p := 10) (by omega) (by omega) hb) (Own.iv hO4)) ?_⟩
 rintro v w5 ⟨hv, hc5⟩
 have hv5 := hv
 obtain ⟨o5, c5, rfl, _⟩ := hv
 have hc05 := hc04.andN hc5
 refine ⟨_, _, _, rfl, step_call (add_spec (h1.keepN hc05) (h2.keepN hc05) hv5 hxl (Nat.le_trans (Nat.le_of_eq h10) (by omega))) ?_⟩
 rintro v w6 ⟨rfl, xv', hB6, hx6, hc6⟩
 exact ⟨rfl, rfl, (h'.keepN hc05).setX (h1.keepN hc05) hB6 hx6 hc6⟩
set_option maxHeartbeats 2000000 in
theorem look_spec (m : Md c wt) (h : WkR W w wb bb pv s A B) (hbr : BrK W bb c wt) (hpv : PV W pv past F) (hgood : ∀ e ∈ past, goodE c e) (hpl : past.length ≤ 50) (ok : WkOk c b s) (hb : (b : Int) < c.blocks) : Calls Tryz.prog i_step_walk_look #[.pointer (some ⟨wb, 0, none⟩), .int .i64 b] w (Ret fun u w' => u = .tuple #[] ∧ ∃ A' B', WkR W w' wb bb pv (lookP c wt past b s) A' B') := by
 have h' := h
 obtain ⟨⟨xv, oK, cK, uK, oV, cV, uV, h1, h2, h3, h4, h5, h6⟩, ha, hb', hn, hch⟩ := h
 have hxl := h'.size m ok
 have hbr0 := hbr.keepN hch
 have hdm := m.ok.2.1
 have hbl := m.ok.2.2.2.1
 have hn2 := norm2_len m hb (p := 2) (.inl rfl) ok.x
 have hKl := ok.K.1
 have hVl := ok.V.1
 refine step_walk_look.calls _ _ ?_
 unfold step_walk_look.vc
 refine step_call (norm_spec h1 hbr0 (okPB_b (p := 2) (by omega) (by omega) hb) h2 hxl) ?_
 rintro v w1 ⟨hv, hc1⟩
 have hv1 := hv
 obtain ⟨o1, c1, rfl, _⟩ := hv
 refine ⟨_, _, _, rfl, step_call (times_spec ((h1.keepN hc1).cell 0 rfl) (hbr0.keepN hc1) (okPB_b (p := 3) (by omega) (by omega) hb) hv1) ?_⟩
 rintro v w2 ⟨hv, hc2⟩
 have hq2 := hv
 obtain ⟨o2, c2, rfl, _⟩ := hv
 have hc02 := hc1.andN hc2
 have hB2 := h1.keepN hc02
 have hwA : ¬ A wb := fun k => (ha _ k).2.1 rfl
 have hwB : ¬ B wb := fun k => (hb' _ k).2 rfl
 refine ⟨_, _, _, rfl, fun w' => Ch A w2 w', fun w3 e3 => ⟨Ch.drew e3, _, _, _, fun w' k => (hB2.keep k hwA).cell 3 rfl, ?_⟩⟩
 have hd3 : Ch Non w2 w3 := Ch.drew e3
 have hc03 := hc02.andN hd3
 refine step_call (times_spec ((h1.keepN hc03).cell 0 rfl) (hbr0.keepN hc03) (okPB_b (p := 4) (by omega) (by omega) hb) ((hv1.keepN hc2).keepN hd3)) ?_
 rintro v w5 ⟨hv, hc5⟩
 have hk5 := hv
 obtain ⟨o5, c5, rfl, _⟩ := hv
 have hc25 := hd3.andN hc5
 have hc05 := hc02.andN hc25
 have hst5 := h'.keepN hc05
 refine ⟨_, _, _, rfl, hc25.any, fun w6 e6 => ⟨(hc25.andN (Ch.alloc e6)).any, ?_⟩⟩
 obtain ⟨o7, c7, w7, r7, hO7, hc57⟩ := V.Own.push el_S_S_int (h3.keepN hc05) t_S_S_int e6 rfl rfl (by unfold maxLen; omega) (by omega)
 have hB7 := (h1.keepN hc05).keep hc57 hwA
 have hs5 := hc05.size
 have hs57 := hc57.size
 have hwlt := hn.2
 have hWs := hch.size
 refine ⟨o7, _, c7, w7, r7, hc25.any.same hc57, hB7.ok 3 rfl, fun w8 e8 => ?_⟩
 have hB8 := hB7.set e8
 have hc78 : Ch (· = wb) w7 w8 := Ch.set e8 rfl
 have hs78 : w8.heap.size = w7.heap.size := by subst e8; simp [World.setCell]
 have hRA : ∀ i, i < w.heap.size → RR W w wb A B i → ¬ A i := fun i _ h => h.2.2.1
 have hRw : ∀ i, i < w.heap.size → RR W w wb A B i → ¬ i = wb := fun i _ h => h.2.1
 have hc08 : Ch (fun i => A i ∨ i = wb) w w8 := (hc05.any.same (hc57.mono (fun i _ h => .inl h))).same (hc78.mono (fun i _ h => .inr h))
 have hc8W : Ch Non W w8 := hch.trans hc08 (fun i hi h => by
  rcases h with h | h
  ·have := (ha i h).1.1; omega
  ·omega)
 have hA8 : ∀ i, Ext A w5 w7 i → New W w8 i ∧ i ≠ wb ∧ ¬ B i := fun i hi => by
  rcases hi with hi | hi
  ·exact ⟨⟨(ha i hi).1.1, by have := (ha i hi).1.2; omega⟩, (ha i hi).2⟩
  ·exact ⟨⟨by have := hi.1; omega, by have := hi.2; omega⟩, by have := hi.1; omega, fun k => by have := (hb' i k).1.2; have := hi.1; omega⟩
 have hR8 : ∀ i, i < w.heap.size → RR W w wb A B i → RR W w8 wb (Ext A w5 w7) B i := fun i hi h => RR.le (by omega) (fun i h => by
  rcases h with h | h
  ·exact .inl h
  ·exact .inr ⟨by have := h.1; omega, by have := h.2; omega⟩) (fun _ h => .inl h) hi h
 have hRd8 : ∀ i, i < w.heap.size → RR W w wb A B i → ¬ (A i ∨ i = wb) := fun i hi h k => k.elim (hRA i hi h) (hRw i hi h)
 have hx8 := (h2.mono (fun i hi h => (⟨hR8 i hi h, h⟩ : _ ∧ RR W w wb A B i))).keep hc08 (fun i hi h => hRd8 i hi h.2) |>.mono (fun i _ h => h.1)
 have hK4 := All2.iv h4 hc08 hRd8 hR8
 have hV4 := All2.iv h6 hc08 hRd8 hR8
 have hnew8 : ∀ i, i < w5.heap.size → New w3 w5 i → RR W w8 wb (Ext A w5 w7) B i := fun i hi h => ⟨⟨by have := h.1; have := hc03.size; omega, by omega⟩, by have := h.1; have := hc03.size; omega, fun k => by
   rcases k with k | k
   ·have := (ha i k).1.2; have := h.1; have := hc03.size; omega
   ·have := k.1; omega, fun k => by have := (hb' i k).1.2; have := h.1; have := hc03.size; omega⟩
 have hk8 : IV w8 (.slice o5 (times c wt 4 b (normP c wt 2 b s.x)).length c5) (times c wt 4 b (normP c wt 2 b s.x)) (RR W w8 wb (Ext A w5 w7) B) :=
  ((hk5.mono (fun i hi h => (⟨hnew8 i hi h, h⟩ : _ ∧ New w3 w5 i))).keep (G := fun i => A i ∨ i = wb) ((hc57.mono (fun i _ h => .inl h)).same (hc78.mono (fun i _ h => .inr h))) (fun i hi h k => by
   rcases k with k | k
   ·have := (ha i k).1.2; have := h.2.1; have := hc03.size; omega
   ·have := h.2.1; have := hc03.size; omega)).mono (fun i _ h => h.1)
 have hKK8 : All2 (fun u xs => IV w8 u xs (RR W w8 wb (Ext A w5 w7) B)) (uK ++ [.slice o5 (times c wt 4 b (normP c wt 2 b s.x)).length c5]) (lookK c wt b s) := hK4.snoc hk8
 have hOK8 : V.Own w8 t_S_int 1 o7 (lookK c wt b s).length c7 (uK ++ [.slice o5 (times c wt 4 b (normP c wt 2 b s.x)).length c5]) (Ext A w5 w7) := by
  have e : (lookK c wt b s).length = s.K.length + 1 := by unfold lookK; rw [List.length_append]; rfl
  rw [e]
  exact hO7.keep hc78 (fun i _ h k => (hA8 i h).2.1 k)
 have hOV8 := h5.keep hc08 (fun i _ h k => by
  rcases k with k | k
  ·exact (ha i k).2.2 h
  ·exact (hb' i h).2 k)
 have hKlen : (lookK c wt b s).length = s.K.length + 1 := by unfold lookK; rw [List.length_append]; rfl
 have hB8' : Blk w8 wb [.pointer (some ⟨bb, 0, none⟩), pv, xv, .slice o7 (lookK c wt b s).length c7, .slice oV s.V.length cV] t_step_walk := by rw [hKlen]; exact hB8
 have hst8 : WkR W w8 wb bb pv ⟨s.x, lookK c wt b s, s.V⟩ (Ext A w5 w7) B := ⟨⟨xv, o7, c7, _, oV, cV, uV, hB8', hx8, hOK8, hKK8, hOV8, hV4⟩, hA8, fun i hi => ⟨⟨(hb' i hi).1.1, by have := (hb' i hi).1.2; omega⟩, (hb' i hi).2⟩, ⟨hn.1, by omega⟩, hc8W⟩
 generalize hAA : Ext A w5 w7 = A8 at hst8 hOK8 hKK8 hx8 hV4 hA8
 have hv8 : IV w8 (.slice o1 (normP c wt 2 b s.x).length c1) (normP c wt 2 b s.x) (New w w8) := ((hv1.keepN (hc2.andN hc25)).keep (G := fun i => A i ∨ i = wb) ((hc57.mono (fun i _ h => .inl h)).same (hc78.mono (fun i _ h => .inr h))) (fun i _ h k => by
   rcases k with k | k
   ·have := (ha i k).1.2; have := h.1; omega
   ·have := h.1; omega)).mono (fun i _ h => ⟨h.1, by have := h.2; have := hc2.size; have := hc25.size; omega⟩)
 have hq8 : IV w8 (.slice o2 (times c wt 3 b (normP c wt 2 b s.x)).length c2) (times c wt 3 b (normP c wt 2 b s.x)) (New w w8) := ((hq2.keepN hc25).keep (G := fun i => A i ∨ i = wb) ((hc57.mono (fun i _ h => .inl h)).same (hc78.mono (fun i _ h => .inr h))) (fun i _ h k => by
   rcases k with k | k
   ·have := (ha i k).1.2; have := h.1; have := hc1.size; omega
   ·have := h.1; have := hc1.size; omega)).mono (fun i _ h => ⟨by have := h.1; have := hc1.size; omega, by have := h.2; have := hc25.size; omega⟩)
 have hbr8 := hbr.keepN hc8W
 have hs8 : w.heap.size ≤ w8.heap.size := by omega
 clear r7 hB8 e8 e6 hO7 hk8 hR8 hRd8 hnew8 hK4 hB7
 -- the values
 refine ⟨fun w' => Ch B w8 w', fun w9 e9 => ⟨Ch.drew e9, _, _, _, fun w' k => (hB8'.keep k hwB).cell 4 rfl, ?_⟩⟩
 have hd9 : Ch Non w8 w9 := Ch.drew e9
 refine step_call (times_spec ((hB8'.keepN hd9).cell 0 rfl) (hbr8.keepN hd9) (okPB_b (p := 5) (by omega) (by omega) hb) (hv8.keepN hd9)) ?_
 rintro v w11 ⟨hv, hc11⟩
 have hk11 := hv
 obtain ⟨o11, c11, rfl, _⟩ := hv
 have hc811 := hd9.andN hc11
 refine ⟨_, _, _, rfl, hc811.any, fun w12 e12 => ⟨(hc811.andN (Ch.alloc e12)).any, ?_⟩⟩
 obtain ⟨o13, c13, w13, r13, hO13, hc1113⟩ := V.Own.push el_S_S_int (hOV8.keepN hc811) t_S_S_int e12 rfl rfl (by unfold maxLen; omega) (by omega)
 have hB13 := (hB8'.keepN hc811).keep hc1113 hwB
 have hs811 := hc811.size
 have hs13 := hc1113.size
 refine ⟨o13, _, c13, w13, r13, hc811.any.same hc1113, hB13.ok 4 rfl, fun w14 e14 => ?_⟩
 have hB14 := hB13.set e14
 have hc1314 : Ch (· = wb) w13 w14 := Ch.set e14 rfl
 have hs14 : w14.heap.size = w13.heap.size := by subst e14; simp [World.setCell]
 have hn8 : wb < w8.heap.size := hst8.n.2
 have hb8 : ∀ i, B i → New W w8 i ∧ i ≠ wb := hst8.b
 have hc814 : Ch (fun i => B i ∨ i = wb) w8 w14 := (hc811.any.same (hc1113.mono (fun i _ h => .inl h))).same (hc1314.mono (fun i _ h => .inr h))
 have hW8 := hc8W.size
 have hc14W : Ch Non W w14 := hc8W.trans hc814 (fun i hi h => by
  rcases h with h | h
  ·have := (hb8 i h).1.1; omega
  ·omega)
 have hR14 : ∀ i, i < w8.heap.size → RR W w8 wb A8 B i → RR W w14 wb A8 (Ext B w11 w13) i := fun i hi h => RR.le (by omega) (fun _ h => .inl h) (fun i h => by
  rcases h with h | h
  ·exact .inl h
  ·exact .inr ⟨by have := h.1; omega, by have := h.2; omega⟩) hi h
 have hRd14 : ∀ i, i < w8.heap.size → RR W w8 wb A8 B i → ¬ (B i ∨ i = wb) := fun i hi h k => k.elim h.2.2.2 h.2.1
 have hx14 := (hx8.mono (fun i hi h => (⟨hR14 i hi h, h⟩ : _ ∧ RR W w8 wb A8 B i))).keep hc814 (fun i hi h => hRd14 i hi h.2) |>.mono (fun i _ h => h.1)
 have hK14 := All2.iv hKK8 hc814 hRd14 hR14
 have hV14 := All2.iv hV4 hc814 hRd14 hR14
 have hk14 : IV w14 (.slice o11 (times c wt 5 b (normP c wt 2 b s.x)).length c11) (times c wt 5 b (normP c wt 2 b s.x)) (RR W w14 wb A8 (Ext B w11 w13)) :=
  ((hk11.mono (fun i hi h => (⟨⟨⟨by have := h.1; have := hd9.size; omega, by omega⟩, by have := h.1; have := hd9.size; omega, fun k => by have := (hA8 i k).1.2; have := h.1; have := hd9.size; omega, fun k => by
   rcases k with k | k
   ·have := (hb8 i k).1.2; have := h.1; have := hd9.size; omega
   ·have := k.1; omega⟩, h⟩ : RR W w14 wb A8 (Ext B w11 w13) i ∧ New w9 w11 i))).keep (G := fun i => B i ∨ i = wb) ((hc1113.mono (fun i _ h => .inl h)).same (hc1314.mono (fun i _ h => .inr h))) (fun i hi h k => by
   rcases k with k | k
   ·have := (hb8 i k).1.2; have := h.2.1; have := hd9.size; omega
   ·have := h.2.1; have := hd9.size; omega)).mono (fun i _ h => h.1)
 have hVV14 : All2 (fun u xs => IV w14 u xs (RR W w14 wb A8 (Ext B w11 w13))) (uV ++ [.slice o11 (times c wt 5 b (normP c wt 2 b s.x)).length c11]) (lookV c wt b s) := hV14.snoc hk14
 have hVlen : (lookV c wt b s).length = s.V.length + 1 := by unfold lookV; rw [List.length_append]; rfl
 have hB14' : Blk w14 wb [.pointer (some ⟨bb, 0, none⟩), pv, xv, .slice o7 (lookK c wt b s).length c7, .slice o13 (lookV c wt b s).length c13] t_step_walk := by rw [hVlen]; exact hB14
 have hOV14 : V.Own w14 t_S_int 1 o13 (lookV c wt b s).length c13 (uV ++ [.slice o11 (times c wt 5 b (normP c wt 2 b s.x)).length c11]) (Ext B w11 w13) := by
  rw [hVlen]
  exact hO13.keep hc1314 (fun i _ h k => by
   rcases h with h | h
   ·exact (hb8 i h).2 k
   ·have := h.1; omega)
 have hOK14 := hOK8.keep hc814 (fun i _ h k => by
  rcases k with k | k
  ·exact (hA8 i h).2.2 k
  ·exact (hA8 i h).2.1 k)
 have hst14 : WkR W w14 wb bb pv ⟨s.x, lookK c wt b s, lookV c wt b s⟩ A8 (Ext B w11 w13) := ⟨⟨xv, o7, c7, _, o13, c13, _, hB14', hx14, hOK14, hK14, hOV14, hVV14⟩, fun i hi => ⟨⟨(hA8 i hi).1.1, by have := (hA8 i hi).1.2; omega⟩, (hA8 i hi).2.1, fun k => by
   rcases k with k | k
   ·exact (hA8 i hi).2.2 k
   ·have := (hA8 i hi).1.2; have := k.1; omega⟩, fun i hi => by
   rcases hi with hi | hi
   ·exact ⟨⟨(hb8 i hi).1.1, by have := (hb8 i hi).1.2; omega⟩, (hb8 i hi).2⟩
   ·exact ⟨⟨by have := hi.1; omega, by have := hi.2; omega⟩, by have := hi.1; omega⟩, ⟨hn.1, by omega⟩, hc14W⟩
 have hq14 := hq8.keep hc814 (fun i _ h k => by
  rcases k with k | k
  ·have := (hb' i k).1.2; have := h.1; omega
  ·have := h.1; omega)
 have hbr14 := hbr.keepN hc14W
 have hpv14 := hpv.keepN hc14W
 have hbrB : Blk w14 bb (cfE c ++ [.string wt]) t_brain_Brain := hbr14.r
 have hRV14 : RV w14 (.slice o7 (lookK c wt b s).length c7) (lookK c wt b s) (fun i => A8 i ∨ RR W w14 wb A8 (Ext B w11 w13) i) := ⟨_, _, _, rfl, hOK14.2.1, hOK14.2.2.1, hOK14.rd.mono (fun i _ h => .inl h), hK14.imp (fun u xs k => k.mono (fun i _ h => .inr h))⟩
 have hRVV14 : RV w14 (.slice o13 (lookV c wt b s).length c13) (lookV c wt b s) (fun i => Ext B w11 w13 i ∨ RR W w14 wb A8 (Ext B w11 w13) i) := ⟨_, _, _, rfl, hOV14.2.1, hOV14.2.2.1, hOV14.rd.mono (fun i _ h => .inl h), hVV14.imp (fun u xs k => k.mono (fun i _ h => .inr h))⟩
 have hhas := look_has m hb ok hgood
 have hqlen := (timesD_len m hb (p := 3) (by omega) hn2).1
 clear hk14 hVV14 hV14 hR14 hRd14 hO13 r13 hB14 hB13 e14 e12 hOV14 hOK14 hK14 hx14
 have hh := m.ok.2.2.1
 have hhd := heads_dim m.ok
 have hd16 := (hdim_mul m.ok).2
 refine ⟨_, hB14'.cell 0 rfl, _, hbrB.cell 2 rfl, fun A j C i k w' => ∃ jj : Nat, i = jj ∧ j = (seenTo c (past ++ [(lookK c wt b s, lookV c wt b s)]) b (times c wt 3 b (normP c wt 2 b s.x)) jj).length ∧ jj ≤ c.heads.toNat ∧ k = c.heads.toNat - jj ∧ Gr Non w14 w' t_int 1 A j C ((seenTo c (past ++ [(lookK c wt b s, lookV c wt b s)]) b (times c wt 3 b (normP c wt 2 b s.x)) jj).map (.int .i64)), ⟨_, 0, rfl, rfl, Nat.zero_le _, rfl, Gr.nil (Ch.refl _ _)⟩, ?_⟩
 rintro jk sA sN sC i k w15 ⟨jj, rfl, rfl, hj, rfl, hg⟩
 refine ⟨fun hlt => ?_, fun hge => ?_⟩
 ·have hlt : jj < c.heads.toNat := by have := of_decide_eq_true hlt; omega
  have hbrB15 := hbrB.keepN hg.2
  refine ⟨_, (hB14'.keepN hg.2).cell 0 rfl, _, _, _, _, _, _, ⟨hbrB15.cell 0 rfl, hbrB15.cell 1 rfl, hbrB15.cell 2 rfl, hbrB15.cell 3 rfl, hbrB15.cell 4 rfl, hbrB15.cell 5 rfl⟩, step_call (HeadDim_spec w15 m.ok) ?_⟩
  rintro v w16 ⟨rfl, hc16⟩
  have hc1416 := hg.2.andN hc16
  have hmul : (jj + 1) * hdim c ≤ c.heads.toNat * hdim c := Nat.mul_le_mul_right _ hlt
  have hsm : (jj + 1) * hdim c = jj * hdim c + hdim c := Nat.succ_mul _ _
  have ewr : IntKind.i64.wrap ((jj : Int) * ((hdim c : Nat) : Int)) = ((jj * hdim c : Nat) : Int) := by rw [← Int.natCast_mul, wrap_id (by omega) (by omega)]
  refine ⟨_, rfl, ?_⟩
  rw [ewr]
  refine step_call (head_spec (hB14'.keepN hc1416) (hbr14.keepN hc1416) (hpv14.keepN hc1416) (hRV14.keepN hc1416) (hRVV14.keepN hc1416) (hq14.keepN hc1416) hhas hqlen (by omega) hpl) ?_
  rintro v w17 ⟨hv17, hc17⟩
  obtain ⟨o17, c17, rfl, _, _, hr17⟩ := hv17
  have hsl : (seenTo c (past ++ [(lookK c wt b s, lookV c wt b s)]) b (times c wt 3 b (normP c wt 2 b s.x)) jj).length ≤ 10000 := by
   rw [seen_len m.ok (by simp) hhas jj (by omega)]; omega
  have hhl := (head_len (q := times c wt 3 b (normP c wt 2 b s.x)) (a := jj * hdim c) (n := hdim c) (by simp) hhas (by omega)).1
  obtain ⟨o18, c18, w18, r18, hg18, _⟩ := Gr.app (c2 := c17) (m := (headP (past ++ [(lookK c wt b s, lookV c wt b s)]) b (jj * hdim c) (hdim c) (times c wt 3 b (normP c wt 2 b s.x))).length) el_S_int (hg.keepN (hc16.andN hc17)) t_S_int hr17 (by rw [List.length_map, Nat.mul_one]) (fun u hu => by
   obtain ⟨x, _, rfl⟩ := List.mem_map.1 hu
   rfl) (by omega) (by omega)
  refine ⟨_, _, _, rfl, o18, _, c18, w18, r18, c.heads.toNat - (jj + 1), by omega, jj + 1, by rw [wrap_id (by omega) (by omega)]; rfl, by rw [seenTo, List.length_append], hlt, rfl, ?_⟩
  rw [seenTo, List.map_append]
  exact hg18
 ·have hge : jj = c.heads.toNat := by have := of_decide_eq_false hge; omega
  subst hge
  have hst15 := hst14.keepN hg.2
  have hB15 := hB14'.keepN hg.2
  refine step_call (times_spec (hB15.cell 0 rfl) (hbr14.keepN hg.2) (okPB_b (p := 6) (by omega) (by omega) hb) (Gr.iv hg)) ?_
  rintro v w19 ⟨hv, hc19⟩
  have hv19 := hv
  obtain ⟨o19, c19, rfl, _⟩ := hv
  have h6l := (timesD_len m hb (p := 6) (by omega) (seenAll_len m hb ok hgood (q := times c wt 3 b (normP c wt 2 b s.x)))).1
  have hst19 := hst15.keepN hc19
  have hB19 := hB15.keepN hc19
  have hst19' := hst19
  obtain ⟨⟨xv2, oK2, cK2, uK2, oV2, cV2, uV2, g1, g2, _⟩, _⟩ := hst19
  refine ⟨_, _, _, rfl, step_call (add_spec g1 g2 hv19 hxl (Nat.le_trans (Nat.le_of_eq h6l) (by omega))) ?_⟩
  rintro v w20 ⟨rfl, xv', hB20, hx20, hc20⟩
  exact ⟨rfl, rfl, _, _, hst19'.setX g1 hB20 hx20 hc20⟩
theorem scores_spec (m : Md c wt) (h : WkR W w wb bb pv s A B) (hbr : BrK W bb c wt) {n : Nat} (ok : WkOk c n s) : Calls Tryz.prog i_step_walk_scores #[.pointer (some ⟨wb, 0, none⟩)] w (Ret fun u w' => IV w' u (scoresP c wt s.x) (New w w') ∧ Ch Non w w') := by
 have h' := h
 obtain ⟨⟨xv, oK, cK, uK, oV, cV, uV, h1, h2, h3, h4, h5, h6⟩, ha, hb', hn, hch⟩ := h
 have hxl := h'.size m ok
 have hbr0 := hbr.keepN hch
 have hvc := m.ok.1
 refine step_walk_scores.calls _ ?_
 unfold step_walk_scores.vc
 refine step_call (norm_spec h1 hbr0 (okPB_11 c) h2 hxl) ?_
 rintro v w1 ⟨hv, hc1⟩
 have hv1 := hv
 obtain ⟨o1, c1, rfl, _⟩ := hv
 refine ⟨_, _, _, rfl, _, (h1.keepN hc1).cell 0 rfl, step_call (Table_spec (hbr0.keepN hc1) (okPB_0 c)) ?_⟩
 rintro v w2 ⟨A2, C2, rfl, hcap, hrd, hc2⟩
 refine ⟨_, _, _, _, _, _, rfl, fun w3 e3 => ?_⟩
 have hU := Blk.new e3
 refine ⟨⟨hU.ok 0 rfl, hU.ok 1 rfl, hU.ok 2 rfl⟩, fun w4 e4 => ?_⟩
 have e4' : w4 = w3.setCells w2.heap.size 0 [.int .i64 (side c (0 : Nat)).1, .int .i64 (side c (0 : Nat)).2, .slice A2 (tabP c wt 0 0).length C2] := e4
 have hU4 := hU.all [.int .i64 (side c (0 : Nat)).1, .int .i64 (side c (0 : Nat)).2, .slice A2 (tabP c wt 0 0).length C2] rfl e4'
 have hc24 : Ch Non w2 w4 := (Ch.alloc (F := Non) e3).trans (Ch.sets (F := (· = w2.heap.size)) e4' rfl) (fun i hi he => by omega)
 have hl : (tabP c wt 0 0).length ≤ 1000000 := by
  rw [tab_len m.ok m.sz (okPB_0 c)]
  have := from_le m.ok.small (okPB_0 c); omega
 have hc04 := (hc1.andN hc2).andN hc24
 have hs04 := hc04.size
 have hrow : (side c ((0 : Nat) : Int)).1 = c.vocab := rfl
 refine ⟨_, hU4.cell 0 rfl, ?_⟩
 rw [hrow]
 obtain ⟨L, hL⟩ : ∃ L : List Int, scoresP c wt s.x = L := ⟨_, rfl⟩
 have hLl : L.length = c.vocab.toNat := by rw [← hL]; unfold scoresP; rw [List.length_map, List.length_range]
 have hLa : ∀ (t : Nat) (ht : t < L.length), L[t] = shift (dotC (rowP c wt 0 0 (t : Nat)) (normP c wt 11 0 s.x)) 5 := fun t ht => by subst hL; simp [scoresP]
 rw [hL]
 refine ⟨fun A j C i k w' => i = j ∧ j ≤ L.length ∧ k = L.length - j ∧ Gr Non w4 w' t_int 1 A j C ((L.take j).map (.int .i64)), ⟨_, rfl, Nat.zero_le _, rfl, Gr.nil (Ch.refl _ _)⟩, ?_⟩
 rintro jk oA oN oC i k w5 ⟨rfl, hj, rfl, hg⟩
 have hU5 := hU4.keepN hg.2
 refine ⟨fun hlt => ?_, fun hge => ?_⟩
 ·have hlt : oN < L.length := by have := of_decide_eq_true hlt; omega
  refine ⟨_, _, _, _, _, ⟨hU5.cell 0 rfl, hU5.cell 1 rfl, hU5.cell 2 rfl⟩, step_call (Vecs.Row_spec (hrd.keepN (hc24.andN hg.2)) hcap (numsB_8 _) hl _ _ (oN : Int)) ?_⟩
  rintro v w6 ⟨A6, C6, rfl, hg6⟩
  have hrl : (Vecs.rowT (tabP c wt 0 0) (side c ((0 : Nat) : Int)).1 (side c ((0 : Nat) : Int)).2 (oN : Int)).length ≤ 1000000 := by
   have := row_len m.ok m.sz (okPB_0 c) (q := oN) (by rw [hrow]; omega)
   unfold rowP at this
   rw [this]
   have := m.ok.2.1
   show c.dim.toNat ≤ _
   omega
  refine ⟨_, _, _, rfl, step_call (Dot_iv (Gr.iv hg6) (hv1.keepN (((hc2.andN hc24).andN hg.2).andN hg6.2)) hrl) ?_⟩
  rintro v w7 ⟨rfl, hc7⟩
  refine ⟨_, rfl, step_call (Shift_spec w7 (Vecs.dot_in _ _) 5) ?_⟩
  rintro v w8 ⟨rfl, hc8⟩
  refine ⟨_, rfl, fun w9 e9 => ?_⟩
  have hg8 := hg.keepN ((hg6.2.andN hc7).andN hc8)
  obtain ⟨A', C', w10, hr, hg10, _⟩ := hg8.next el_S_int t_S_int hlt (by omega) e9 (by rw [hLa oN hlt]; rfl) rfl (by omega)
  exact ⟨A', _, C', w10, hr, L.length - (oN + 1), by omega, by rw [wrap_id (by omega) (by omega)]; rfl, hlt, rfl, hg10⟩
 ·have : oN = L.length := by have := of_decide_eq_false hge; omega
  subst this
  rw [List.take_length] at hg
  exact ⟨(Gr.iv hg).mono (fun i _ hi => ⟨by have := hi.1; omega, hi.2⟩), hc04.andN hg.2⟩
end
end Go.Proofs.YtkbikekbaboclaaGreat.Stp
