/- For all models: where a part of a block stands, what numbers it has, and its rows; the conditions stand in each theorem. -/
import Derived.Test.YtbadkcnemcnhfaaDoorConf
import Derived.Test.YtbadkcnemcnhfaaDoorVecs3
import Derived.Test.YtbadkcnemcnhfaaDoorDeep
set_option linter.unusedVariables false
set_option linter.unusedSimpArgs false
namespace Go.Proofs.YtbadkcnemcnhfaaDoor.Brain
open Go Go.Proofs Go.Proofs.YtbadkcnemcnhfaaDoor.V Go.Proofs.YtbadkcnemcnhfaaDoor.Vc Go.Proofs.YtbadkcnemcnhfaaDoor.Conf Go.Proofs.YtbadkcnemcnhfaaDoor.Num Go.RowKit

/-- A row of numbers that is read: as a value. -/
def IV (w : World) (v : Value) (xs : List Int) (F : Nat → Prop) : Prop := ∃ (o : Option Addr) (c : Nat), v = .slice o xs.length c ∧ xs.length ≤ c ∧ c ≤ maxLen ∧ Rd w o (xs.map (.int .i64)) F
section
variable {w w' : World} {v : Value} {xs : List Int} {F G : Nat → Prop}
theorem IV.keep (h : IV w v xs F) (hc : Ch G w w') (hd : ∀ i, i < w.heap.size → F i → ¬ G i) : IV w' v xs F := by
  obtain ⟨o, c, e, h1, h2, hr⟩ := h
  exact ⟨o, c, e, h1, h2, hr.keep hc hd⟩
theorem IV.mono (h : IV w v xs F) (hg : ∀ i, i < w.heap.size → F i → G i) : IV w v xs G := by
  obtain ⟨o, c, e, h1, h2, hr⟩ := h
  exact ⟨o, c, e, h1, h2, hr.mono hg⟩
theorem IV.keepN (h : IV w v xs F) (hc : Ch Non w w') : IV w' v xs F := h.keep hc (fun _ _ _ => id)
theorem IV.ints (h : IV w v xs F) : IntsV w v xs F := by
  obtain ⟨o, c, e, h1, h2, hr⟩ := h
  exact ⟨o, c, e, hr⟩
theorem IV.nil (w : World) (F : Nat → Prop) : IV w (.slice none 0 0) [] F := ⟨none, 0, rfl, Nat.le_refl _, Nat.zero_le _, Rd.nil _ _ _⟩
theorem Own.iv {o : Option Addr} {c : Nat} (h : V.Own w t_int 1 o xs.length c (xs.map (.int .i64)) F) : IV w (.slice o xs.length c) xs F := ⟨o, c, rfl, h.2.1, h.2.2.1, h.rd⟩
theorem Gr.iv {o : Option Addr} {c : Nat} (h : Gr Non w w' t_int 1 o xs.length c (xs.map (.int .i64))) : IV w' (.slice o xs.length c) xs (New w w') := Own.iv h.1
/-- A part of it. -/
theorem IV.cut (h : IV w v xs F) {o : Option Addr} {n c : Nat} (hv : v = .slice o n c) {a b : Nat} (hab : a ≤ b) (hb : b ≤ xs.length) :
    IV w (.slice (if c = a then o else o.map (·.add (a * 1))) (b - a) (c - a)) ((xs.drop a).take (b - a)) F := by
  obtain ⟨o', c', e, h1, h2, hr⟩ := h
  rw [hv] at e
  injection e with e1 e2 e3
  subst e1; subst e2; subst e3
  have hl : ((xs.drop a).take (b - a)).length = b - a := by rw [List.length_take, List.length_drop]; omega
  refine ⟨_, _, by rw [hl], by omega, by omega, ?_⟩
  have := hr.slice (c := c) (sz := 1) (by simpa using h1) a (b - a)
  rw [Nat.mul_one, Nat.mul_one, ← List.map_drop, ← List.map_take] at this
  rw [Nat.mul_one]; exact this
end

/-- From which byte on a part of a block stands. -/
def fromP (c : CfD) (p b : Nat) : Int := if p < 2 then spanN c 0 p else if p = 11 then allN c - spanN c 11 1 else spanN c 0 2 + b * spanN c 2 9 + spanN c 2 (p - 2)
def okPB (c : CfD) (p b : Nat) : Prop := p ≤ 11 ∧ (b : Int) < (if p < 2 ∨ p = 11 then 1 else c.blocks)
theorem spanN_mono {c : CfD} (h : small c) (a : Nat) {n m : Nat} (hnm : n ≤ m) : spanN c a n ≤ spanN c a m := by
  induction m with
  | zero => have : n = 0 := by omega
            subst this; exact Int.le_refl _
  | succ m ih =>
    by_cases e : n = m + 1
    · subst e; exact Int.le_refl _
    · have := ih (by omega)
      have := part_le h ((a + m : Nat) : Int)
      show _ ≤ spanN c a m + Conf.part c _
      have e : ((a : Int) + (m : Int)) = ((a + m : Nat) : Int) := by omega
      first | omega | (rw [e]; omega)
theorem span1 (c : CfD) (p : Nat) : spanN c p 1 = Conf.part c p := by
  unfold spanN spanN; simp
theorem from_le {c : CfD} (hs : small c) {p b : Nat} (h : okPB c p b) : 0 ≤ fromP c p b ∧ 0 ≤ spanN c p 1 ∧ spanN c p 1 ≤ 1024 ∧ fromP c p b + spanN c p 1 ≤ allN c ∧ allN c ≤ 1000000 := by
  obtain ⟨h1, h2⟩ := h
  have hp := span_le hs p 1
  have a1 := span_le hs 0 2
  have a2 := span_le hs 2 9
  have a3 := span_le hs 11 1
  have hb := hs.2.2.1
  have hS : c.blocks * spanN c 2 9 ≤ 32 * 9216 := Int.mul_le_mul (by omega) (by omega) (by omega) (by omega)
  have hS0 : 0 ≤ c.blocks * spanN c 2 9 := Int.mul_nonneg (by omega) (by omega)
  have hsucc : ∀ a n : Nat, spanN c a (n + 1) = spanN c a n + Conf.part c ((a + n : Nat) : Int) := fun a n => by
    show spanN c a n + Conf.part c _ = _
    congr 2
  unfold fromP allN
  by_cases hp2 : p < 2
  · rw [if_pos hp2]
    have a0 := span_le hs 0 p
    have hm := spanN_mono hs 0 (n := p + 1) (m := 2) (by omega)
    rw [hsucc, Nat.zero_add, ← span1] at hm
    exact ⟨a0.1, hp.1, by omega, by omega, by omega⟩
  rw [if_neg hp2]
  by_cases hp11 : p = 11
  · subst hp11
    rw [if_pos rfl]
    exact ⟨by omega, hp.1, by omega, by omega, by omega⟩
  rw [if_neg hp11]
  rw [if_neg (by omega)] at h2
  have a4 := span_le hs 2 (p - 2)
  have hm := spanN_mono hs 2 (n := (p - 2) + 1) (m := 9) (by omega)
  rw [hsucc, show 2 + (p - 2) = p by omega, ← span1] at hm
  have hbb : ((b : Int) + 1) * spanN c 2 9 ≤ c.blocks * spanN c 2 9 := Int.mul_le_mul_of_nonneg_right (by omega) a2.1
  rw [Int.add_mul, Int.one_mul] at hbb
  have hb0 : 0 ≤ (b : Int) * spanN c 2 9 := Int.mul_nonneg (by omega) a2.1
  exact ⟨by omega, hp.1, by omega, by omega, by omega⟩
theorem Range_spec (w : World) {c : CfD} (hc : okC c) {p b : Nat} (h : okPB c p b) : Calls Tryd.prog i_conf_Shape_Range #[.agg (cfE c).toArray, .int .i64 p, .int .i64 b] w (Ret fun v w' => v = .tuple #[.int .i64 (fromP c p b), .int .i64 (spanN c p 1), .bool true] ∧ Ch Non w w') := by
  have hs := hc.small
  have hle := from_le hs h
  have h' := h
  obtain ⟨h1, h2⟩ := h
  refine conf_Shape_Range.calls _ _ _ _ _ _ _ _ ?_
  unfold conf_Shape_Range.vc
  intro w1 e1
  have hB := Blk.new e1
  have hC1 : Ch Non w w1 := Ch.alloc e1
  generalize w.heap.size = tb at hB ⊢
  refine ⟨_, hB.cell 3 rfl, fun hp2 => ?_, fun hp2 => ⟨fun hp11 => ?_, fun hp11 => ?_⟩⟩
  · have hp2 : p < 2 := by have := of_decide_eq_true hp2; omega
    rw [if_pos (by omega)] at h2
    refine ⟨_, _, _, _, _, _, ⟨hB.cell 0 rfl, hB.cell 1 rfl, hB.cell 2 rfl, hB.cell 3 rfl, hB.cell 4 rfl, hB.cell 5 rfl⟩, ?_⟩
    refine step_call (Good_spec w1 c) ?_
    rintro v w2 ⟨rfl, hc2⟩
    have hB := hB.keepN hc2
    rw [decide_eq_true hc]
    refine ⟨_, rfl, iteF rfl (iteF (decide_eq_false (by omega)) (iteF (decide_eq_false (by omega)) (iteF (decide_eq_false (by omega)) (iteF (decide_eq_false (by omega)) ?_))))⟩
    refine ⟨_, _, _, _, _, _, ⟨hB.cell 0 rfl, hB.cell 1 rfl, hB.cell 2 rfl, hB.cell 3 rfl, hB.cell 4 rfl, hB.cell 5 rfl⟩, ?_⟩
    refine step_call (span_spec w2 hs (a := p) (n := 1) (by omega) (by omega)) ?_
    rintro v w3 ⟨rfl, hc3⟩
    have hB := hB.keepN hc3
    refine ⟨_, rfl, decide_eq_true (by omega), ?_⟩
    refine ⟨_, _, _, _, _, _, ⟨hB.cell 0 rfl, hB.cell 1 rfl, hB.cell 2 rfl, hB.cell 3 rfl, hB.cell 4 rfl, hB.cell 5 rfl⟩, ?_⟩
    rw [wrap_id (by omega) (by omega)]
    refine step_call (span_spec w3 hs (a := 0) (n := p) (by omega) (by omega)) ?_
    rintro v w4 ⟨rfl, hc4⟩
    refine ⟨_, rfl, ?_, ((hC1.andN hc2).andN hc3).andN hc4⟩
    unfold fromP; rw [if_pos hp2]
  · have hp2 : ¬ p < 2 := by have := of_decide_eq_false hp2; omega
    have hp11 : p = 11 := by have := eq_of_beq hp11; omega
    subst hp11
    rw [if_pos (by omega)] at h2
    refine ⟨_, _, _, _, _, _, ⟨hB.cell 0 rfl, hB.cell 1 rfl, hB.cell 2 rfl, hB.cell 3 rfl, hB.cell 4 rfl, hB.cell 5 rfl⟩, ?_⟩
    refine step_call (Good_spec w1 c) ?_
    rintro v w2 ⟨rfl, hc2⟩
    have hB := hB.keepN hc2
    rw [decide_eq_true hc]
    refine ⟨_, rfl, iteF rfl (iteF rfl (iteF rfl (iteF (decide_eq_false (by omega)) (iteF (decide_eq_false (by omega)) ?_))))⟩
    refine ⟨_, _, _, _, _, _, ⟨hB.cell 0 rfl, hB.cell 1 rfl, hB.cell 2 rfl, hB.cell 3 rfl, hB.cell 4 rfl, hB.cell 5 rfl⟩, ?_⟩
    refine step_call (span_spec w2 hs (a := 11) (n := 1) (by omega) (by omega)) ?_
    rintro v w3 ⟨rfl, hc3⟩
    have hB := hB.keepN hc3
    refine ⟨_, rfl, rfl, rfl, ?_⟩
    refine ⟨_, _, _, _, _, _, ⟨hB.cell 0 rfl, hB.cell 1 rfl, hB.cell 2 rfl, hB.cell 3 rfl, hB.cell 4 rfl, hB.cell 5 rfl⟩, ?_⟩
    refine step_call (all_spec w3 hs) ?_
    rintro v w4 ⟨rfl, hc4⟩
    have e : fromP c 11 b = allN c - spanN c 11 1 := by unfold fromP; rw [if_neg (by omega), if_pos rfl]
    rw [e] at hle ⊢
    refine ⟨_, rfl, ?_, ((hC1.andN hc2).andN hc3).andN hc4⟩
    rw [wrap_id (by omega) (by omega)]
  · have hp2 : ¬ p < 2 := by have := of_decide_eq_false hp2; omega
    have hp11' : ¬ p = 11 := by have : ¬ (p : Int) = 11 := by simpa using hp11
                                omega
    rw [if_neg (by omega)] at h2
    refine ⟨_, _, _, _, _, _, ⟨hB.cell 0 rfl, hB.cell 1 rfl, hB.cell 2 rfl, hB.cell 3 rfl, hB.cell 4 rfl, hB.cell 5 rfl⟩, ?_⟩
    refine step_call (Good_spec w1 c) ?_
    rintro v w2 ⟨rfl, hc2⟩
    have hB := hB.keepN hc2
    rw [decide_eq_true hc]
    refine ⟨_, rfl, iteF rfl (iteF (decide_eq_false (by omega)) (iteF (decide_eq_false (by omega)) (iteF (decide_eq_false (by omega)) (iteF (decide_eq_false (by omega)) ?_))))⟩
    refine ⟨_, _, _, _, _, _, ⟨hB.cell 0 rfl, hB.cell 1 rfl, hB.cell 2 rfl, hB.cell 3 rfl, hB.cell 4 rfl, hB.cell 5 rfl⟩, ?_⟩
    refine step_call (span_spec w2 hs (a := p) (n := 1) (by omega) (by omega)) ?_
    rintro v w3 ⟨rfl, hc3⟩
    have hB := hB.keepN hc3
    refine ⟨_, rfl, decide_eq_false (by omega), hp11, fun w' => Ch Non w3 w', fun w4 e4 => ⟨Ch.drew e4, ?_⟩⟩
    refine ⟨_, _, _, _, _, _, ⟨fun w' k => (hB.keepN k).cell 0 rfl, fun w' k => (hB.keepN k).cell 1 rfl, fun w' k => (hB.keepN k).cell 2 rfl, fun w' k => (hB.keepN k).cell 3 rfl, fun w' k => (hB.keepN k).cell 4 rfl, fun w' k => (hB.keepN k).cell 5 rfl⟩, ?_⟩
    refine ⟨_, _, _, _, _, _, ⟨fun w' k => (hB.keepN k).cell 0 rfl, fun w' k => (hB.keepN k).cell 1 rfl, fun w' k => (hB.keepN k).cell 2 rfl, fun w' k => (hB.keepN k).cell 3 rfl, fun w' k => (hB.keepN k).cell 4 rfl, fun w' k => (hB.keepN k).cell 5 rfl⟩, ?_⟩
    refine ⟨_, _, _, _, _, _, ⟨fun w' k => (hB.keepN k).cell 0 rfl, fun w' k => (hB.keepN k).cell 1 rfl, fun w' k => (hB.keepN k).cell 2 rfl, fun w' k => (hB.keepN k).cell 3 rfl, fun w' k => (hB.keepN k).cell 4 rfl, fun w' k => (hB.keepN k).cell 5 rfl⟩, ?_⟩
    have hd4 : Ch Non w3 w4 := Ch.drew e4
    refine step_call (span_spec w4 hs (a := 0) (n := 2) (by omega) (by omega)) ?_
    rintro v w5 ⟨rfl, hc5⟩
    refine ⟨_, rfl, hd4.andN hc5, step_call (span_spec w5 hs (a := 2) (n := 9) (by omega) (by omega)) ?_⟩
    rintro v w6 ⟨rfl, hc6⟩
    rw [wrap_id (x := (p : Int) - 1) (by omega) (by omega)]
    refine ⟨_, rfl, (hd4.andN hc5).andN hc6, step_call (span_spec w6 hs (a := 2) (n := p - 2) (by omega) (by omega)) ?_⟩
    rintro v w7 ⟨rfl, hc7⟩
    have hc37 := ((hd4.andN hc5).andN hc6).andN hc7
    have e : fromP c p b = spanN c 0 2 + b * spanN c 2 9 + spanN c 2 (p - 2) := by unfold fromP; rw [if_neg hp2, if_neg hp11']
    rw [e] at hle ⊢
    have a1 := span_le hs 0 2
    have a2 := span_le hs 2 9
    have a4 := span_le hs 2 (p - 2)
    have hb0 : 0 ≤ (b : Int) * spanN c 2 9 := Int.mul_nonneg (by omega) a2.1
    refine ⟨_, rfl, hc37, ?_, ((hC1.andN hc2).andN hc3).andN hc37⟩
    rw [wrap_id (x := (b : Int) * spanN c 2 9) (by omega) (by omega), wrap_id (x := spanN c 0 2 + (b : Int) * spanN c 2 9) (by omega) (by omega), wrap_id (by omega) (by omega)]
theorem Side_spec (w : World) {c : CfD} (hc : okC c) (p : Int) : Calls Tryd.prog i_conf_Shape_Side #[.agg (cfE c).toArray, .int .i64 p] w (Ret fun v w' => v = .tuple #[.int .i64 (side c p).1, .int .i64 (side c p).2] ∧ Ch Non w w') := by
  refine conf_Shape_Side.calls _ _ _ _ _ _ _ ?_
  unfold conf_Shape_Side.vc
  intro w1 e1
  have hB := Blk.new e1
  have hC1 : Ch Non w w1 := Ch.alloc e1
  generalize w.heap.size = tb at hB ⊢
  refine ⟨_, _, _, _, _, _, ⟨hB.cell 0 rfl, hB.cell 1 rfl, hB.cell 2 rfl, hB.cell 3 rfl, hB.cell 4 rfl, hB.cell 5 rfl⟩, ?_⟩
  refine step_call (Good_spec w1 c) ?_
  rintro v w2 ⟨rfl, hc2⟩
  have hB := hB.keepN hc2
  rw [decide_eq_true hc]
  refine ⟨_, rfl, iteF rfl ?_⟩
  refine ⟨_, _, _, _, _, _, ⟨hB.cell 0 rfl, hB.cell 1 rfl, hB.cell 2 rfl, hB.cell 3 rfl, hB.cell 4 rfl, hB.cell 5 rfl⟩, ?_⟩
  refine step_call (side_spec w2 c p) ?_
  rintro v w3 ⟨rfl, hc3⟩
  exact ⟨_, _, rfl, rfl, (hC1.andN hc2).andN hc3⟩
def hdim (c : CfD) : Nat := (c.dim / c.heads).toNat
theorem hdim_mul {c : CfD} (hc : okC c) : ((hdim c : Nat) : Int) * c.heads = c.dim ∧ 1 ≤ hdim c ∧ hdim c ≤ 16 := by
  obtain ⟨_, h1, h2, _, _, _, hm, _⟩ := hc
  rw [tmod_pos (by omega)] at hm
  have hd := Int.ediv_mul_cancel (Int.dvd_of_emod_eq_zero hm)
  have h0 : 0 ≤ c.dim / c.heads := Int.ediv_nonneg (by omega) (by omega)
  have e : ((hdim c : Nat) : Int) = c.dim / c.heads := by unfold hdim; omega
  rw [e]
  refine ⟨hd, ?_, ?_⟩
  · by_cases h : 0 < c.dim / c.heads
    · omega
    · have : c.dim / c.heads = 0 := by omega
      rw [this] at hd; omega
  · have : c.dim / c.heads ≤ c.dim := Int.ediv_le_self _ (by omega)
    omega
/-- The numbers of a part of a block. -/
def tabP (c : CfD) (wt : ByteArray) (p b : Nat) : List Int := Vecs.numsB (wt.extract (fromP c p b).toNat (fromP c p b + spanN c p 1).toNat)
theorem numsB_8 (s : ByteArray) : ∀ x ∈ Vecs.numsB s, -128 ≤ x ∧ x ≤ 127 := fun x hx => by
  obtain ⟨b, _, rfl⟩ := List.mem_map.1 hx
  unfold IntKind.wrap
  simp [IntKind.bits, IntKind.signed]
  omega
theorem side_ge {c : CfD} (hc : okC c) {p : Nat} (hp : p ≤ 11) : 1 ≤ (side c p).1 ∧ 1 ≤ (side c p).2 := by
  obtain ⟨h1, h2, h3, h4, h5, h6, _⟩ := hc
  unfold side
  have : p = 0 ∨ p = 1 ∨ p = 2 ∨ p = 3 ∨ p = 4 ∨ p = 5 ∨ p = 6 ∨ p = 7 ∨ p = 8 ∨ p = 9 ∨ p = 10 ∨ p = 11 := by omega
  rcases this with h | h | h | h | h | h | h | h | h | h | h | h <;> subst h <;> simp <;> omega
/-- A model in memory, that can be. -/
structure BrK (w : World) (b : Nat) (c : CfD) (wt : ByteArray) : Prop where
  r : BrR w b c wt
  ok : okC c
  sz : (wt.size : Int) = allN c
section
variable {w w' : World} {bb : Nat} {c : CfD} {wt : ByteArray} {G : Nat → Prop}
theorem BrK.keepN (h : BrK w bb c wt) (hc : Ch Non w w') : BrK w' bb c wt := ⟨Blk.keepN h.r hc, h.ok, h.sz⟩
theorem BrK.keep (h : BrK w bb c wt) (hc : Ch G w w') (hd : ¬ G bb) : BrK w' bb c wt := ⟨Blk.keep h.r hc hd, h.ok, h.sz⟩
theorem BrK.lt (h : BrK w bb c wt) : bb < w.heap.size := Blk.lt h.r
theorem tab_size (ok : okC c) (sz : (wt.size : Int) = allN c) {p b : Nat} (h : okPB c p b) : (wt.extract (fromP c p b).toNat (fromP c p b + spanN c p 1).toNat).size = (spanN c p 1).toNat ∧ Vecs.goodB (side c p).1 (side c p).2 (wt.extract (fromP c p b).toNat (fromP c p b + spanN c p 1).toNat).size = true := by
  have hle := from_le ok.small h
  have h1 : (wt.extract (fromP c p b).toNat (fromP c p b + spanN c p 1).toNat).size = (spanN c p 1).toNat := by
    rw [ByteArray.size_extract]
    omega
  refine ⟨h1, ?_⟩
  rw [h1]
  have hg := side_ge ok h.1
  have hl := side_le ok.small (p : Int)
  have hsp := span1 c p
  unfold Conf.part at hsp
  unfold Vecs.goodB
  exact decide_eq_true ⟨hg.1, by omega, hg.2, by omega, by omega⟩
theorem tab_len (ok : okC c) (sz : (wt.size : Int) = allN c) {p b : Nat} (h : okPB c p b) : (tabP c wt p b).length = (spanN c p 1).toNat := by
  unfold tabP; rw [Vecs.numsB_len]; exact (tab_size ok sz h).1
theorem tab_good (ok : okC c) (sz : (wt.size : Int) = allN c) {p b : Nat} (h : okPB c p b) : Vecs.goodB (side c p).1 (side c p).2 (tabP c wt p b).length = true := by
  rw [show (tabP c wt p b).length = _ from Vecs.numsB_len _]; exact (tab_size ok sz h).2
def TabR (w : World) (c : CfD) (wt : ByteArray) (p b : Nat) (v : Value) (w' : World) : Prop :=
  ∃ (A : Option Addr) (C : Nat), v = .tuple #[.agg #[.int .i64 (side c p).1, .int .i64 (side c p).2, .slice A (tabP c wt p b).length C], .bool true] ∧ (tabP c wt p b).length ≤ C ∧ Rd w' A ((tabP c wt p b).map (.int .i8)) (New w w') ∧ Ch Non w w'
set_option maxHeartbeats 1000000 in
theorem Table_spec (h : BrK w bb c wt) {p b : Nat} (hpb : okPB c p b) : Calls Tryd.prog i_brain_Brain_Table #[.pointer (some ⟨bb, 0, none⟩), .int .i64 p, .int .i64 b] w (Ret (TabR w c wt p b)) := by
  have ok := h.ok
  have hle := from_le ok.small hpb
  have hts := tab_size ok h.sz hpb
  have hsz := h.sz
  refine brain_Brain_Table.calls _ _ _ ?_
  unfold brain_Brain_Table.vc
  intro w1 e1
  have hT := Blk.new e1
  have hC1 : Ch Non w w1 := Ch.alloc e1
  have hB : Blk w1 bb _ t_brain_Brain := Blk.keepN h.r hC1
  have hs1 := hT.lt
  refine ⟨_, _, _, _, _, _, ⟨hB.cell 0 rfl, hB.cell 1 rfl, hB.cell 2 rfl, hB.cell 3 rfl, hB.cell 4 rfl, hB.cell 5 rfl⟩, ?_⟩
  refine step_call (Range_spec w1 ok hpb) ?_
  rintro v w2 ⟨rfl, hc2⟩
  have hB := hB.keepN hc2
  have hT2 := hT.keepN hc2
  refine ⟨_, _, _, rfl, iteF rfl ?_⟩
  refine ⟨_, _, _, _, _, _, ⟨hB.cell 0 rfl, hB.cell 1 rfl, hB.cell 2 rfl, hB.cell 3 rfl, hB.cell 4 rfl, hB.cell 5 rfl⟩, ?_⟩
  refine step_call (Side_spec w2 ok (p : Int)) ?_
  rintro v w4 ⟨rfl, hc4⟩
  have hB := hB.keepN hc4
  have hT4 := hT2.keepN hc4
  rw [wrap_id (x := fromP c p b + spanN c p 1) (by omega) (by omega)]
  refine ⟨_, _, rfl, _, hB.cell 6 rfl, ⟨by omega, by omega, by omega⟩, ?_⟩
  refine step_call (Vecs.Of_spec w4 (side c p).1 (side c p).2 (wt.extract (fromP c p b).toNat (fromP c p b + spanN c p 1).toNat) (by rw [hts.1]; omega)) ?_
  rintro v w5 ⟨A, C, rfl, hg⟩
  have hL : Vecs.ofL (side c p).1 (side c p).2 (wt.extract (fromP c p b).toNat (fromP c p b + spanN c p 1).toNat) = tabP c wt p b := by unfold Vecs.ofL; rw [hts.2]; rfl
  have hE : Vecs.ofE (side c p).1 (side c p).2 (wt.extract (fromP c p b).toNat (fromP c p b + spanN c p 1).toNat).size = 0 := by unfold Vecs.ofE; rw [hts.2]; rfl
  rw [hL, hE, hts.2, if_pos rfl, if_pos rfl]
  rw [hL] at hg
  have hT5 := hT4.keepN hg.2
  have hrd := hg.rd
  have hcap := hg.1.2.1
  have hs4 := hC1.size
  have hs42 := hc2.size
  have hs44 := hc4.size
  have hs5 := hg.2.size
  have hc05 := ((hC1.andN hc2).andN hc4).andN hg.2
  have hT0 := hT.lt
  refine ⟨_, _, _, _, _, _, rfl, fun w6 e6 => ?_⟩
  have hU := Blk.new e6
  have hT6 := hT5.alloc e6
  have hs6 := hU.lt
  refine ⟨⟨hU.ok 0 rfl, hU.ok 1 rfl, hU.ok 2 rfl⟩, fun w7 e7 => ?_⟩
  have e7' : w7 = w6.setCells w5.heap.size 0 [.int .i64 (side c p).1, .int .i64 (side c p).2, .slice A (tabP c wt p b).length C] := e7
  have hU7 := hU.all [.int .i64 (side c p).1, .int .i64 (side c p).2, .slice A (tabP c wt p b).length C] rfl e7'
  have hc67 : Ch (· = w5.heap.size) w6 w7 := Ch.sets e7' rfl
  have hT7 := hT6.keep hc67 (by omega)
  refine ⟨_, _, _, _, _, ⟨hU7.cell 0 rfl, hU7.cell 1 rfl, hU7.cell 2 rfl⟩, ⟨hT7.ok 0 rfl, hT7.ok 1 rfl, hT7.ok 2 rfl⟩, fun w8 e8 => ?_⟩
  have e8' : w8 = w7.setCells w.heap.size 0 [.int .i64 (side c p).1, .int .i64 (side c p).2, .slice A (tabP c wt p b).length C] := e8
  have hT8 := hT7.all [.int .i64 (side c p).1, .int .i64 (side c p).2, .slice A (tabP c wt p b).length C] rfl e8'
  have hc78 : Ch (· = w.heap.size) w7 w8 := Ch.sets e8' rfl
  refine ⟨_, _, _, _, _, ⟨hT8.cell 0 rfl, hT8.cell 1 rfl, hT8.cell 2 rfl⟩, A, C, rfl, hcap, ?_, ?_⟩
  · have hc58 : Ch (fun i => i = w5.heap.size ∨ i = w.heap.size) w5 w8 := ((Ch.alloc e6).trans hc67 (fun i hi he => .inl he)).trans hc78 (fun i hi he => .inr he)
    have hs8 := hc58.size
    exact (hrd.keep hc58 (fun i hi hN he => by
      have := hN.1
      rcases he with he | he <;> omega)).mono (fun i _ hN => ⟨by have := hN.1; omega, by have := hN.2; omega⟩)
  · exact (((hc05.andN (Ch.alloc e6)).trans hc67 (fun i hi he => by omega))).trans hc78 (fun i hi he => by omega)
/-- One row of a part. -/
def rowP (c : CfD) (wt : ByteArray) (p b : Nat) (q : Int) : List Int := Vecs.rowT (tabP c wt p b) (side c p).1 (side c p).2 q
theorem row_len (ok : okC c) (sz : (wt.size : Int) = allN c) {p b : Nat} (hpb : okPB c p b) {q : Nat} (hq : (q : Int) < (side c p).1) : (rowP c wt p b q).length = (side c p).2.toNat := by
  have hg := tab_good ok sz hpb
  unfold rowP Vecs.rowT
  rw [hg, decide_eq_true (by omega)]
  obtain ⟨R, C, e1, e2, _, _, _, _, hn⟩ := Vecs.goodB_nat hg
  rw [e2, Int.toNat_natCast, Int.toNat_natCast]
  exact Vecs.rowAt_len (R := R) hn (by omega)
theorem row_8 {p b : Nat} {q : Int} : ∀ x ∈ rowP c wt p b q, -128 ≤ x ∧ x ≤ 127 := fun x hx => by
  unfold rowP Vecs.rowT at hx
  split at hx
  · exact numsB_8 _ x (List.mem_of_mem_drop (List.mem_of_mem_take hx))
  · cases hx
end
end Go.Proofs.YtbadkcnemcnhfaaDoor.Brain
