/- For all rows of rows: copies of them are rows of one's own, that may be written; the conditions stand in each theorem. -/
import Derived.Test.YtpcddfhfchempaaStep
set_option linter.unusedVariables false
set_option linter.unusedSimpArgs false
namespace Go.Proofs.Ytpcddfhfchempaa.Step
open Go Go.Proofs Go.Proofs.Ytpcddfhfchempaa.V Go.Proofs.Ytpcddfhfchempaa.Vc Go.RowKit

/-- A row of numbers of one's own, rows of them, two of these. -/
def IntsW (w : World) (v : Value) (xs : List Int) (F : Nat → Prop) : Prop := ∃ (o : Option Addr) (c : Nat), v = .slice o xs.length c ∧ Own w t_int 1 o xs.length c (xs.map (.int .i64)) F
def RowsW (w : World) (v : Value) (xss : List (List Int)) (F : Nat → Prop) : Prop :=
  ∃ (o : Option Addr) (c : Nat) (vs : List Value), v = .slice o xss.length c ∧ Rd w o vs F ∧ All2 (fun u xs => IntsW w u xs F) vs xss
def EntW (w : World) (p : Value × Value) (e : Ent) (F : Nat → Prop) : Prop := RowsW w p.1 e.1 F ∧ RowsW w p.2 e.2 F
section
variable {w w' : World} {u : Value} {p : Value × Value} {e : Ent} {xs : List Int} {xss : List (List Int)} {F G : Nat → Prop}
theorem IntsW.v (h : IntsW w u xs F) : IntsV w u xs F := by
  obtain ⟨o, c, e, hr⟩ := h
  exact ⟨o, c, e, hr.rd⟩
theorem RowsW.v (h : RowsW w u xss F) : RowsV w u xss F := by
  obtain ⟨o, c, vs, e, hr, ha⟩ := h
  exact ⟨o, c, vs, e, hr, ha.imp (fun _ _ k => k.v)⟩
theorem EntW.v (h : EntW w p e F) : EntV w p e F := ⟨h.1.v, h.2.v⟩
theorem IntsW.keep (h : IntsW w u xs F) (hc : Ch G w w') (hd : ∀ i, i < w.heap.size → F i → ¬ G i) : IntsW w' u xs F := by
  obtain ⟨o, c, e, hr⟩ := h
  exact ⟨o, c, e, hr.keep hc hd⟩
theorem IntsW.mono (h : IntsW w u xs F) (hg : ∀ i, i < w.heap.size → F i → G i) : IntsW w u xs G := by
  obtain ⟨o, c, e, hr⟩ := h
  exact ⟨o, c, e, hr.mono hg⟩
theorem RowsW.keep (h : RowsW w u xss F) (hc : Ch G w w') (hd : ∀ i, i < w.heap.size → F i → ¬ G i) : RowsW w' u xss F := by
  obtain ⟨o, c, vs, e, hr, ha⟩ := h
  exact ⟨o, c, vs, e, hr.keep hc hd, ha.imp (fun _ _ k => k.keep hc hd)⟩
theorem RowsW.mono (h : RowsW w u xss F) (hg : ∀ i, i < w.heap.size → F i → G i) : RowsW w u xss G := by
  obtain ⟨o, c, vs, e, hr, ha⟩ := h
  exact ⟨o, c, vs, e, hr.mono hg, ha.imp (fun _ _ k => k.mono hg)⟩
theorem EntW.keep (h : EntW w p e F) (hc : Ch G w w') (hd : ∀ i, i < w.heap.size → F i → ¬ G i) : EntW w' p e F := ⟨h.1.keep hc hd, h.2.keep hc hd⟩
theorem EntW.mono (h : EntW w p e F) (hg : ∀ i, i < w.heap.size → F i → G i) : EntW w p e G := ⟨h.1.mono hg, h.2.mono hg⟩
theorem RowsW.keepN (h : RowsW w u xss F) (hc : Ch Non w w') : RowsW w' u xss F := h.keep hc (fun _ _ _ => id)
theorem EntW.keepN (h : EntW w p e F) (hc : Ch Non w w') : EntW w' p e F := h.keep hc (fun _ _ _ => id)
theorem IntsW.nil (w : World) (F : Nat → Prop) : IntsW w (.slice none 0 0) [] F := ⟨none, 0, rfl, Own.nil _ _ _ _⟩
end
theorem Blk.own {w : World} {b e n : Nat} {cs : List Value} (h : Blk w b cs e) (hl : cs.length = n) (hm : n ≤ maxLen) : Own w e 1 (some ⟨b, 0, none⟩) n n cs (· = b) :=
  ⟨by omega, Nat.le_refl _, hm, .inr ⟨b, 0, cs, rfl, rfl, h, by omega, by rw [List.drop_zero, List.take_of_length_le (by omega)]⟩⟩
section
variable {w : World} {o ob : Option Addr} {c cb : Nat} {xs ys : List Int} {xss yss : List (List Int)} {F G : Nat → Prop}
theorem Clone_specW (h : Rd w o (xs.map (.int .i64)) G) (hl : xs.length ≤ 1000000) (c : Nat) : Calls Try.prog i_slices_Clone #[.slice o xs.length c] w (Ret fun v w' => IntsW w' v xs (New w w') ∧ Ch Non w w') := by
  refine slices_Clone.calls _ _ _ ?_
  unfold slices_Clone.vc
  refine ⟨fun hn => ?_, fun hn w1 e1 => ?_⟩
  · have hx : xs = [] := by
      cases xs with
      | nil => rfl
      | cons x r =>
        obtain ⟨a, ha, _⟩ := h 0 (.int .i64 x) rfl
        rw [ha] at hn; cases hn
    subst hx
    exact ⟨IntsW.nil _ _, Ch.refl _ _⟩
  · have hg : Gr Non w w1 t_int 1 (some ⟨w.heap.size, 0, none⟩) 0 0 [] := Gr.made0 (Ch.refl _ _) e1
    obtain ⟨o', c', w', hr, hg', _⟩ := Gr.app (c2 := c) (m := xs.length) el_S_int hg t_S_int (h.keepN (Ch.alloc e1)) (by simp) (fun u hu => by
      obtain ⟨x, _, rfl⟩ := List.mem_map.1 hu
      rfl) (by omega) (by omega)
    rw [Nat.zero_add, List.nil_append] at hg'
    rw [Nat.zero_add] at hr
    exact ⟨_, _, _, w', hr, ⟨o', c', rfl, hg'.1⟩, hg'.2⟩
theorem copied_specW (hr : RowsV w (.slice o xss.length c) xss G) (hs : small xss) : Calls Try.prog i_step_copied #[.slice o xss.length c] w (Ret fun v w' => RowsW w' v xss (New w w') ∧ Ch Non w w') := by
  obtain ⟨o', c', vs, e, hrd, ha⟩ := hr
  injection e with e1 _ e2
  subst e1; subst e2
  refine step_copied.calls _ _ _ ?_
  unfold step_copied.vc
  refine ⟨fun oA oN oC i k w' => ∃ (j : Nat) (us : List Value) (F1 F2 : Nat → Prop), i = j ∧ oN = j ∧ j ≤ xss.length ∧ k = xss.length - j ∧ Build w w' t_S_int 1 oA j oC us F1 F2 ∧ All2 (fun u xs => IntsW w' u xs F2) us (xss.take j), ⟨_, 0, [], _, _, rfl, rfl, Nat.zero_le _, rfl, Build.nil (Ch.refl _ _), .nil⟩, ?_⟩
  rintro jk oA oN oC i k w1 ⟨j, us, F1, F2, rfl, rfl, hj, rfl, hB, hU⟩
  refine ⟨fun hlt => ?_, fun hge => ?_⟩
  · have hlt : oN < xss.length := by have := of_decide_eq_true hlt; omega
    have hlv : oN < vs.length := by rw [ha.length]; exact hlt
    obtain ⟨o1, c1, hv, hr1⟩ := ha.get oN hlv hlt
    refine ⟨⟨by omega, by omega⟩, (hrd.keepN hB.ch).at (j := (oN : Int).toNat * 1) (v := vs[oN]) (by simp [hlv]) fun p hp => ?_⟩
    rw [hv] at hp
    refine ⟨_, _, _, hp, ?_⟩
    refine step_call (Clone_specW (hr1.keepN hB.ch) (hs.2 _ (List.getElem_mem _)) c1) ?_
    rintro v w2 ⟨⟨o2, c2, rfl, hr2⟩, hc2⟩
    refine ⟨_, _, _, rfl, fun w3 e3 => ?_⟩
    have hB2 := hB.more hc2
    have hl := hs.1
    obtain ⟨o4, c4, w4, F4, hr4, hB4, hc4⟩ := hB2.push el_S_S_int t_S_S_int e3 rfl rfl (by omega) (by omega)
    refine ⟨o4, _, c4, w4, hr4, xss.length - (oN + 1), by omega, oN + 1, _, F4, _, by rw [wrap_id (by omega) (by omega)]; rfl, rfl, hlt, rfl, hB4, ?_⟩
    rw [take_snoc xss oN hlt]
    refine (hU.imp fun u xs h => ((h.keep hc2 (fun _ _ _ => id)).mono (fun i _ hi => .inl hi)).keep hc4 (fun i _ hi h1 => hB2.ap i h1 hi)).snoc ?_
    exact IntsW.keep (F := Ext F2 w1 w2) ⟨o2, c2, rfl, hr2.mono (fun i _ hi => .inr hi)⟩ hc4 (fun i _ hi h1 => hB2.ap i h1 hi)
  · have : oN = xss.length := by have := of_decide_eq_false hge; omega
    subst this
    rw [List.take_length] at hU
    exact ⟨⟨oA, oC, us, rfl, hB.own.rd.mono (fun i _ hi => hB.f1 i hi), hU.imp (fun u xs h => h.mono (fun i _ hi => hB.f2 i hi))⟩, hB.ch⟩
theorem Copy_specW {p : Value × Value} {e : Ent} (h : EntV w p e G) (hs : small e.1 ∧ small e.2) : Calls Try.prog i_step_Copy #[.agg #[p.1, p.2]] w (Ret fun v w' => ∃ q : Value × Value, v = .agg #[q.1, q.2] ∧ EntW w' q e (New w w') ∧ Ch Non w w') := by
  obtain ⟨a, b⟩ := p
  obtain ⟨h1, h2⟩ := h
  have k1 := h1
  have k2 := h2
  obtain ⟨o1, c1, vs1, rfl, _, _⟩ := h1
  obtain ⟨o2, c2, vs2, rfl, _, _⟩ := h2
  dsimp only at k1 k2 ⊢
  refine step_Copy.calls _ _ _ _ _ _ ?_
  unfold step_Copy.vc
  intro w1 e1 w2 e2
  have hA := (Blk.new e1).alloc e2
  have hB := Blk.new e2
  have hc2 : Ch Non w w2 := (Ch.alloc e1).andN (Ch.alloc e2)
  have hab : w.heap.size < w1.heap.size := (Blk.new e1).lt
  have hw2 : w1.heap.size < w2.heap.size := hB.lt
  generalize hrb : w1.heap.size = rb at hB hab hw2 ⊢
  have hA : Blk w2 w.heap.size [.slice o1 e.1.length c1, .slice o2 e.2.length c2] 35 := hA
  clear e1 e2
  refine ⟨fun w' => Blk w' w.heap.size [.slice o1 e.1.length c1, .slice o2 e.2.length c2] 35, fun w3 e3 => ⟨hA.drew e3, _, _, _, fun w' h => h.cell 0 rfl, _, _, _, fun w' h => h.cell 1 rfl, ?_⟩⟩
  have hc3 := hc2.andN (Ch.drew e3)
  refine step_call (copied_specW (k1.keepN hc3) hs.1) ?_
  rintro v w4 ⟨⟨o4, c4, us4, rfl, hr4, ha4⟩, hc4⟩
  refine ⟨_, _, _, rfl, (hA.drew e3).keepN hc4, ?_⟩
  refine step_call (copied_specW (k2.keepN (hc3.andN hc4)) hs.2) ?_
  rintro v w5 ⟨⟨o5, c5, us5, rfl, hr5, ha5⟩, hc5⟩
  have hB5 := ((hB.drew e3).keepN hc4).keepN hc5
  have hA5 := ((hA.drew e3).keepN hc4).keepN hc5
  refine ⟨_, _, _, rfl, hA5, ⟨hB5.ok 0 rfl, hB5.ok 1 rfl⟩, fun w6 e6 => ?_⟩
  have e7 : w6 = w5.setCells rb 0 [.slice o4 e.1.length c4, .slice o5 e.2.length c5] := e6
  have hB6 := hB5.all [.slice o4 e.1.length c4, .slice o5 e.2.length c5] rfl e7
  have hc6 : Ch (· = rb) w5 w6 := Ch.sets e7 rfl
  have hs2 : w2.heap.size = w3.heap.size := by subst e3; rfl
  have hs34 := hc4.size
  have hs45 := hc5.size
  have hs56 := hc6.size
  refine ⟨hA5.keep hc6 (by omega), _, _, _, _, _, _, ⟨hB6.cell 0 rfl, hB6.cell 1 rfl⟩, (_, _), rfl, ⟨?_, ?_⟩, ((hc3.andN hc4).andN hc5).trans hc6 (fun i hi h => by omega)⟩
  · have h4 : RowsW w4 (.slice o4 e.1.length c4) e.1 (New w3 w4) := ⟨o4, c4, us4, rfl, hr4, ha4⟩
    exact ((h4.keepN hc5).keep hc6 (fun i _ hi h => by have := hi.1; omega)).mono (fun i _ hi => ⟨by have := hi.1; have := hc3.size; omega, by have := hi.2; omega⟩)
  · have h5 : RowsW w5 (.slice o5 e.2.length c5) e.2 (New w4 w5) := ⟨o5, c5, us5, rfl, hr5, ha5⟩
    exact (h5.keep hc6 (fun i _ hi h => by have := hi.1; omega)).mono (fun i _ hi => ⟨by have := hi.1; have := hc3.size; omega, by have := hi.2; omega⟩)
end
end Go.Proofs.Ytpcddfhfchempaa.Step
