/- For all rows of rows: what copies of them have, and whether two are the same; the conditions stand in each theorem. -/
import Derived.Test.YtpcddfhfchempaaDeep
import Derived.Test.YtpcddfhfchempaaVcStep
set_option linter.unusedVariables false
set_option linter.unusedSimpArgs false
namespace Go.Proofs.Ytpcddfhfchempaa.Step
open Go Go.Proofs Go.Proofs.Ytpcddfhfchempaa.V Go.Proofs.Ytpcddfhfchempaa.Vc Go.RowKit

theorem take_snoc {α : Type} (l : List α) (j : Nat) (h : j < l.length) : l.take (j + 1) = l.take j ++ [l[j]] := List.take_succ_eq_append_getElem h
def small (xss : List (List Int)) : Prop := xss.length ≤ 1000000 ∧ ∀ xs ∈ xss, xs.length ≤ 1000000
section
variable {w : World} {o ob : Option Addr} {c cb : Nat} {xs ys : List Int} {xss yss : List (List Int)} {F G : Nat → Prop}
theorem Clone_spec (h : Rd w o (xs.map (.int .i64)) G) (hl : xs.length ≤ 1000000) (c : Nat) : Calls Try.prog i_slices_Clone #[.slice o xs.length c] w (Ret fun v w' => IntsV w' v xs (New w w') ∧ Ch Non w w') := by
  refine slices_Clone.calls _ _ _ ?_
  unfold slices_Clone.vc
  refine ⟨fun hn => ?_, fun hn w1 e1 => ?_⟩
  · have hx : xs = [] := by
      cases xs with
      | nil => rfl
      | cons x r =>
        obtain ⟨a, ha, _⟩ := h 0 (.int .i64 x) rfl
        rw [ha] at hn; cases hn
    subst hx
    exact ⟨IntsV.nil _ _, Ch.refl _ _⟩
  · have hg : Gr Non w w1 t_int 1 (some ⟨w.heap.size, 0, none⟩) 0 0 [] := Gr.made0 (Ch.refl _ _) e1
    obtain ⟨o', c', w', hr, hg', _⟩ := Gr.app (c2 := c) (m := xs.length) el_S_int hg t_S_int (h.keepN (Ch.alloc e1)) (by simp) (fun u hu => by
      obtain ⟨x, _, rfl⟩ := List.mem_map.1 hu
      rfl) (by omega) (by omega)
    rw [Nat.zero_add, List.nil_append] at hg'
    rw [Nat.zero_add] at hr
    exact ⟨_, _, _, w', hr, ⟨o', c', rfl, hg'.rd⟩, hg'.2⟩
theorem copied_spec (hr : RowsV w (.slice o xss.length c) xss G) (hs : small xss) : Calls Try.prog i_step_copied #[.slice o xss.length c] w (Ret fun v w' => RowsV w' v xss (New w w') ∧ Ch Non w w') := by
  obtain ⟨o', c', vs, e, hrd, ha⟩ := hr
  injection e with e1 _ e2
  subst e1; subst e2
  refine step_copied.calls _ _ _ ?_
  unfold step_copied.vc
  refine ⟨fun oA oN oC i k w' => ∃ (j : Nat) (us : List Value) (F1 F2 : Nat → Prop), i = j ∧ oN = j ∧ j ≤ xss.length ∧ k = xss.length - j ∧ Build w w' t_S_int 1 oA j oC us F1 F2 ∧ All2 (fun u xs => IntsV w' u xs F2) us (xss.take j), ⟨_, 0, [], _, _, rfl, rfl, Nat.zero_le _, rfl, Build.nil (Ch.refl _ _), .nil⟩, ?_⟩
  rintro jk oA oN oC i k w1 ⟨j, us, F1, F2, rfl, rfl, hj, rfl, hB, hU⟩
  refine ⟨fun hlt => ?_, fun hge => ?_⟩
  · have hlt : oN < xss.length := by have := of_decide_eq_true hlt; omega
    have hlv : oN < vs.length := by rw [ha.length]; exact hlt
    obtain ⟨o1, c1, hv, hr1⟩ := ha.get oN hlv hlt
    refine ⟨⟨by omega, by omega⟩, (hrd.keepN hB.ch).at (j := (oN : Int).toNat * 1) (v := vs[oN]) (by simp [hlv]) fun p hp => ?_⟩
    rw [hv] at hp
    refine ⟨_, _, _, hp, ?_⟩
    refine step_call (Clone_spec (hr1.keepN hB.ch) (hs.2 _ (List.getElem_mem _)) c1) ?_
    rintro v w2 ⟨⟨o2, c2, rfl, hr2⟩, hc2⟩
    refine ⟨_, _, _, rfl, fun w3 e3 => ?_⟩
    have hB2 := hB.more hc2
    have hl := hs.1
    obtain ⟨o4, c4, w4, F4, hr4, hB4, hc4⟩ := hB2.push el_S_S_int t_S_S_int e3 rfl rfl (by omega) (by omega)
    refine ⟨o4, _, c4, w4, hr4, xss.length - (oN + 1), by omega, oN + 1, _, F4, _, by rw [wrap_id (by omega) (by omega)]; rfl, rfl, hlt, rfl, hB4, ?_⟩
    rw [take_snoc xss oN hlt]
    refine (hU.imp fun u xs h => ((h.keepN hc2).mono (fun i _ hi => .inl hi)).keep hc4 (fun i _ hi h1 => hB2.ap i h1 hi)).snoc ?_
    exact IntsV.keep (F := Ext F2 w1 w2) ⟨o2, c2, rfl, hr2.mono (fun i _ hi => .inr hi)⟩ hc4 (fun i _ hi h1 => hB2.ap i h1 hi)
  · have : oN = xss.length := by have := of_decide_eq_false hge; omega
    subst this
    rw [List.take_length] at hU
    exact ⟨⟨oA, oC, us, rfl, hB.own.rd.mono (fun i _ hi => hB.f1 i hi), hU.imp (fun u xs h => h.mono (fun i _ hi => hB.f2 i hi))⟩, hB.ch⟩
theorem Copy_spec {p : Value × Value} {e : Ent} (h : EntV w p e G) (hs : small e.1 ∧ small e.2) : Calls Try.prog i_step_Copy #[.agg #[p.1, p.2]] w (Ret fun v w' => ∃ q : Value × Value, v = .agg #[q.1, q.2] ∧ EntV w' q e (New w w') ∧ Ch Non w w') := by
  obtain ⟨a, b⟩ := p
  obtain ⟨h1, h2⟩ := h
  have k1 := h1
  have k2 := h2
  obtain ⟨o1, c1, vs1, rfl, _, _⟩ := h1
  obtain ⟨o2, c2, vs2, rfl, _, _⟩ := h2
  dsimp only at k1 k2 ⊢
  refine step_Copy.calls _ _ _ _ _ _ ?_
  unfold step_Copy.vc
  intro w1 e1 w2 e2
  have hA := (Blk.new e1).alloc e2
  have hB := Blk.new e2
  have hc2 : Ch Non w w2 := (Ch.alloc e1).andN (Ch.alloc e2)
  have hab : w.heap.size < w1.heap.size := (Blk.new e1).lt
  have hw2 : w1.heap.size < w2.heap.size := hB.lt
  generalize hrb : w1.heap.size = rb at hB hab hw2 ⊢
  have hA : Blk w2 w.heap.size [.slice o1 e.1.length c1, .slice o2 e.2.length c2] 35 := hA
  clear e1 e2
  refine ⟨fun w' => Blk w' w.heap.size [.slice o1 e.1.length c1, .slice o2 e.2.length c2] 35, fun w3 e3 => ⟨hA.drew e3, _, _, _, fun w' h => h.cell 0 rfl, _, _, _, fun w' h => h.cell 1 rfl, ?_⟩⟩
  have hc3 := hc2.andN (Ch.drew e3)
  refine step_call (copied_spec (k1.keepN hc3) hs.1) ?_
  rintro v w4 ⟨⟨o4, c4, us4, rfl, hr4, ha4⟩, hc4⟩
  refine ⟨_, _, _, rfl, (hA.drew e3).keepN hc4, ?_⟩
  refine step_call (copied_spec (k2.keepN (hc3.andN hc4)) hs.2) ?_
  rintro v w5 ⟨⟨o5, c5, us5, rfl, hr5, ha5⟩, hc5⟩
  have hB5 := ((hB.drew e3).keepN hc4).keepN hc5
  have hA5 := ((hA.drew e3).keepN hc4).keepN hc5
  refine ⟨_, _, _, rfl, hA5, ⟨hB5.ok 0 rfl, hB5.ok 1 rfl⟩, fun w6 e6 => ?_⟩
  have e7 : w6 = w5.setCells rb 0 [.slice o4 e.1.length c4, .slice o5 e.2.length c5] := e6
  have hB6 := hB5.all [.slice o4 e.1.length c4, .slice o5 e.2.length c5] rfl e7
  have hc6 : Ch (· = rb) w5 w6 := Ch.sets e7 rfl
  have hs2 : w2.heap.size = w3.heap.size := by subst e3; rfl
  have hs34 := hc4.size
  have hs45 := hc5.size
  have hs56 := hc6.size
  refine ⟨hA5.keep hc6 (by omega), _, _, _, _, _, _, ⟨hB6.cell 0 rfl, hB6.cell 1 rfl⟩, (_, _), rfl, ⟨?_, ?_⟩, ((hc3.andN hc4).andN hc5).trans hc6 (fun i hi h => by omega)⟩
  · have h4 : RowsV w4 (.slice o4 e.1.length c4) e.1 (New w3 w4) := ⟨o4, c4, us4, rfl, hr4, ha4⟩
    exact ((h4.keepN hc5).keep hc6 (fun i _ hi h => by have := hi.1; omega)).mono (fun i _ hi => ⟨by have := hi.1; have := hc3.size; omega, by have := hi.2; omega⟩)
  · have h5 : RowsV w5 (.slice o5 e.2.length c5) e.2 (New w4 w5) := ⟨o5, c5, us5, rfl, hr5, ha5⟩
    exact (h5.keep hc6 (fun i _ hi h => by have := hi.1; omega)).mono (fun i _ hi => ⟨by have := hi.1; have := hc3.size; omega, by have := hi.2; omega⟩)
theorem Equal_spec (ha : Rd w o (xs.map (.int .i64)) F) (hb : Rd w ob (ys.map (.int .i64)) G) (hl : xs.length ≤ 1000000000) :
    Calls Try.prog i_slices_Equal #[.slice o xs.length c, .slice ob ys.length cb] w (Ret fun v w' => v = .bool (decide (xs = ys)) ∧ Ch Non w w') := by
  refine slices_Equal.calls _ _ _ _ _ _ ?_
  unfold slices_Equal.vc
  refine ⟨fun h => ?_, fun h => ?_⟩
  · have h : xs.length ≠ ys.length := by simp at h; omega
    exact ⟨by rw [decide_eq_false (fun e => h (by rw [e]))], Ch.refl _ _⟩
  have h : xs.length = ys.length := by simp at h; omega
  refine ⟨fun i k w' => ∃ j : Nat, i = j ∧ j ≤ xs.length ∧ k = xs.length - j ∧ xs.take j = ys.take j ∧ Ch Non w w', ⟨_, 0, rfl, Nat.zero_le _, rfl, rfl, Ch.refl _ _⟩, ?_⟩
  rintro jk i k w1 ⟨j, rfl, hj, rfl, he, hc⟩
  refine ⟨fun hlt => ?_, fun hge => ?_⟩
  · have hlt : j < xs.length := by simpa using hlt
    have hlt2 : j < ys.length := by omega
    refine ⟨fun w2 => Ch Non w w2, fun w2 e2 => ⟨hc.andN (Ch.drew e2), ⟨by omega, by omega⟩, Rd.keeps (j := (j : Int).toNat * 1) (S := fun w2 => Ch Non w w2) (fun w2 h2 => ha.keepN h2) hc (by simpa using hlt) fun p hp => ⟨_, hp, ⟨by omega, by omega⟩,
      Rd.keeps (j := (j : Int).toNat * 1) (S := fun w2 => Ch Non w w2) (fun w2 h2 => hb.keepN h2) hc (by simpa using hlt2) fun p2 hp2 => ⟨_, hp2, fun hne => ?_, fun heq => ?_⟩⟩⟩⟩
    · refine ⟨?_, hc.andN (Ch.drew e2)⟩
      rw [decide_eq_false]
      intro e
      subst e
      simp at hne
    · have heq : xs[j] = ys[j] := by simpa using heq
      refine ⟨xs.length - (j + 1), by omega, j + 1, by rw [wrap_id (by omega) (by omega)]; rfl, hlt, rfl, ?_, hc.andN (Ch.drew e2)⟩
      rw [take_snoc xs j hlt, take_snoc ys j hlt2, he, heq]
  · have : j = xs.length := by simp at hge; omega
    subst this
    rw [List.take_length, h, List.take_length] at he
    exact ⟨by rw [decide_eq_true he], hc⟩
theorem EqualRows_spec (ha : RowsV w (.slice o xss.length c) xss F) (hb : RowsV w (.slice ob yss.length cb) yss G) (hs : small xss) :
    Calls Try.prog i_slices_EqualFunc #[.slice o xss.length c, .slice ob yss.length cb, .func (.func i_slices_Equal) #[] #[]] w (Ret fun v w' => v = .bool (decide (xss = yss)) ∧ Ch Non w w') := by
  obtain ⟨o1, c1, us, e, hra, hA⟩ := ha
  injection e with e1 _ e2
  subst e1; subst e2
  obtain ⟨o2, c2, vs, e, hrb, hB⟩ := hb
  injection e with e1 _ e2
  subst e1; subst e2
  refine slices_EqualFunc.calls_sl _ _ _ _ _ _ ?_
  unfold slices_EqualFunc.vc_sl
  have hl := hs.1
  refine ⟨fun h => ?_, fun h => ?_⟩
  · have h : xss.length ≠ yss.length := by simp at h; omega
    exact ⟨by rw [decide_eq_false (fun e => h (by rw [e]))], Ch.refl _ _⟩
  have h : xss.length = yss.length := by simp at h; omega
  refine ⟨fun i k w' => ∃ j : Nat, i = j ∧ j ≤ xss.length ∧ k = xss.length - j ∧ xss.take j = yss.take j ∧ Ch Non w w', ⟨_, 0, rfl, Nat.zero_le _, rfl, rfl, Ch.refl _ _⟩, ?_⟩
  rintro jk i k w1 ⟨j, rfl, hj, rfl, he, hc⟩
  refine ⟨fun hlt => ?_, fun hge => ?_⟩
  · have hlt : j < xss.length := by have := of_decide_eq_true hlt; omega
    have hlt2 : j < yss.length := by omega
    have hlu : j < us.length := by rw [hA.length]; exact hlt
    have hlv : j < vs.length := by rw [hB.length]; exact hlt2
    obtain ⟨o3, c3, hu, hr3⟩ := hA.get j hlu hlt
    obtain ⟨o4, c4, hv, hr4⟩ := hB.get j hlv hlt2
    refine ⟨⟨by omega, by omega⟩, (hra.keepN hc).at (j := (j : Int).toNat * 1) (v := us[j]) (by simp [hlu]) fun p hp => ?_⟩
    rw [hu] at hp
    refine ⟨_, _, _, hp, ⟨by omega, by omega⟩, (hrb.keepN hc).at (j := (j : Int).toNat * 1) (v := vs[j]) (by simp [hlv]) fun p2 hp2 => ?_⟩
    rw [hv] at hp2
    refine ⟨_, _, _, hp2, ?_⟩
    refine step_call (Equal_spec (hr3.keepN hc) (hr4.keepN hc) (by have := hs.2 _ (List.getElem_mem hlt); omega)) ?_
    rintro v w2 ⟨rfl, hc2⟩
    refine ⟨_, rfl, fun hne => ?_, fun heq => ?_⟩
    · refine ⟨?_, hc.andN hc2⟩
      rw [decide_eq_false]
      intro e
      subst e
      simp at hne
    · have heq : xss[j] = yss[j] := by simpa using heq
      refine ⟨xss.length - (j + 1), by omega, j + 1, by rw [wrap_id (by omega) (by omega)]; rfl, hlt, rfl, ?_, hc.andN hc2⟩
      rw [take_snoc xss j hlt, take_snoc yss j hlt2, he, heq]
  · have : j = xss.length := by have := of_decide_eq_false hge; omega
    subst this
    rw [List.take_length, h, List.take_length] at he
    exact ⟨by rw [decide_eq_true he], hc⟩
theorem Same_spec {p q : Value × Value} {e f : Ent} (hp : EntV w p e F) (hq : EntV w q f G) (hs : small e.1 ∧ small e.2) : Calls Try.prog i_step_Same #[.agg #[p.1, p.2], .agg #[q.1, q.2]] w (Ret fun v w' => v = .bool (decide (e = f)) ∧ Ch Non w w') := by
  obtain ⟨a, b⟩ := p
  obtain ⟨a', b'⟩ := q
  obtain ⟨e1, e2⟩ := e
  obtain ⟨f1, f2⟩ := f
  obtain ⟨h1, h2⟩ := hp
  obtain ⟨h3, h4⟩ := hq
  have k1 := h1
  have k2 := h2
  have k3 := h3
  have k4 := h4
  obtain ⟨o1, c1, vs1, rfl, _, _⟩ := h1
  obtain ⟨o2, c2, vs2, rfl, _, _⟩ := h2
  obtain ⟨o3, c3, vs3, rfl, _, _⟩ := h3
  obtain ⟨o4, c4, vs4, rfl, _, _⟩ := h4
  dsimp only at k1 k2 k3 k4 hs ⊢
  refine step_Same.calls _ _ _ _ _ _ _ _ _ _ _ _ ?_
  unfold step_Same.vc
  intro w1 x1 w2 x2
  have hA := (Blk.new x1).alloc x2
  have hB := Blk.new x2
  have hc2 : Ch Non w w2 := (Ch.alloc x1).andN (Ch.alloc x2)
  refine ⟨_, _, _, hA.cell 0 rfl, _, _, _, hB.cell 0 rfl, ?_⟩
  refine step_call (EqualRows_spec (k1.keepN hc2) (k3.keepN hc2) hs.1) ?_
  rintro v w3 ⟨rfl, hc3⟩
  refine ⟨_, rfl, fun he => ?_, fun hne => ?_⟩
  · have he := of_decide_eq_true he
    refine ⟨_, _, _, (hA.keepN hc3).cell 1 rfl, _, _, _, (hB.keepN hc3).cell 1 rfl, ?_⟩
    have hc := hc2.andN hc3
    refine step_call (EqualRows_spec (k2.keepN hc) (k4.keepN hc) hs.2) ?_
    rintro v w4 ⟨rfl, hc4⟩
    refine ⟨_, rfl, ?_, hc.andN hc4⟩
    subst he
    simp
  · have hne := of_decide_eq_false hne
    refine ⟨?_, hc2.andN hc3⟩
    rw [decide_eq_false (fun h => hne (by injection h))]
end
end Go.Proofs.Ytpcddfhfchempaa.Step
