/- For every shape of a model: what side, span, all, Good, Size and brain.Of answer; the conditions stand in each theorem. -/
import Derived.Test.YtbadkcnemcnhfaaDoorVcConf
set_option linter.unusedVariables false
set_option linter.unusedSimpArgs false
namespace Go.Proofs.YtbadkcnemcnhfaaDoor.Conf
open Go Go.Proofs Go.Proofs.YtbadkcnemcnhfaaDoor.V Go.Proofs.YtbadkcnemcnhfaaDoor.Vc Go.RowKit

/-- A shape. -/
structure CfD where
  vocab : Int
  dim : Int
  heads : Int
  blocks : Int
  hidden : Int
  context : Int
def cfE (c : CfD) : List Value := [.int .i64 c.vocab, .int .i64 c.dim, .int .i64 c.heads, .int .i64 c.blocks, .int .i64 c.hidden, .int .i64 c.context]
def side (c : CfD) (p : Int) : Int × Int :=
  if p = 0 then (c.vocab, c.dim) else if p = 1 then (c.context, c.dim) else if p = 2 ∨ p = 7 ∨ p = 11 then (1, c.dim) else if p = 3 ∨ p = 4 ∨ p = 5 ∨ p = 6 then (c.dim, c.dim) else if p = 8 ∨ p = 9 then (c.hidden, c.dim) else if p = 10 then (c.dim, c.hidden) else (0, 0)
theorem side_spec (w : World) (c : CfD) (p : Int) : Calls Tryd.prog i_conf_Shape_side #[.agg (cfE c).toArray, .int .i64 p] w (Ret fun v w' => v = .tuple #[.int .i64 (side c p).1, .int .i64 (side c p).2] ∧ Ch Non w w') := by
  refine conf_Shape_side.calls _ _ _ _ _ _ _ ?_
  unfold conf_Shape_side.vc
  intro w1 e1
  have hB := Blk.new e1
  refine ⟨fun h => ?_, fun n0 => ⟨fun h => ?_, fun n1 => ⟨fun h => ⟨h, ?_⟩, fun n2 => ⟨fun h => ⟨h, ?_⟩, fun n7 => ⟨fun h => ?_, fun n11 => ⟨fun h => ⟨h, ?_⟩, fun n3 => ⟨fun h => ⟨h, ?_⟩, fun n4 => ⟨fun h => ⟨h, ?_⟩, fun n5 => ⟨fun h => ?_, fun n6 => ⟨fun h => ⟨h, ?_⟩, fun n8 => ⟨fun h => ?_, fun n9 => ⟨fun h => ?_, fun n10 => ?_⟩⟩⟩⟩⟩⟩⟩⟩⟩⟩⟩⟩
  · have h := eq_of_beq h
    subst h
    exact ⟨fun w' => Ch Non w1 w', fun w2 e2 => ⟨Ch.drew e2, _, fun w' hc => (hB.keepN hc).cell 0 rfl, _, fun w' hc => (hB.keepN hc).cell 1 rfl, rfl, (Ch.alloc e1).andN (Ch.drew e2)⟩⟩
  · have h := eq_of_beq h
    subst h
    exact ⟨fun w' => Ch Non w1 w', fun w2 e2 => ⟨Ch.drew e2, _, fun w' hc => (hB.keepN hc).cell 5 rfl, _, fun w' hc => (hB.keepN hc).cell 1 rfl, rfl, (Ch.alloc e1).andN (Ch.drew e2)⟩⟩
  iterate 3
    · have h := eq_of_beq h
      subst h
      exact ⟨fun w' => Ch Non w1 w', fun w2 e2 => ⟨Ch.drew e2, _, fun w' hc => (hB.keepN hc).cell 1 rfl, rfl, (Ch.alloc e1).andN (Ch.drew e2)⟩⟩
  iterate 4
    · have h := eq_of_beq h
      subst h
      exact ⟨fun w' => Ch Non w1 w', fun w2 e2 => ⟨Ch.drew e2, _, fun w' hc => (hB.keepN hc).cell 1 rfl, _, fun w' hc => (hB.keepN hc).cell 1 rfl, rfl, (Ch.alloc e1).andN (Ch.drew e2)⟩⟩
  iterate 2
    · have h := eq_of_beq h
      subst h
      exact ⟨fun w' => Ch Non w1 w', fun w2 e2 => ⟨Ch.drew e2, _, fun w' hc => (hB.keepN hc).cell 4 rfl, _, fun w' hc => (hB.keepN hc).cell 1 rfl, rfl, (Ch.alloc e1).andN (Ch.drew e2)⟩⟩
  · have h := eq_of_beq h
    subst h
    exact ⟨fun w' => Ch Non w1 w', fun w2 e2 => ⟨Ch.drew e2, _, fun w' hc => (hB.keepN hc).cell 1 rfl, _, fun w' hc => (hB.keepN hc).cell 4 rfl, rfl, (Ch.alloc e1).andN (Ch.drew e2)⟩⟩
  · have ne : ∀ {k : Int}, (p == k) = false → ¬ p = k := fun h he => by subst he; simp at h
    have m0 := ne n0
    have m1 := ne n1
    have m2 := ne n2
    have m3 := ne n3
    have m4 := ne n4
    have m5 := ne n5
    have m6 := ne n6
    have m7 := ne n7
    have m8 := ne n8
    have m9 := ne n9
    have m10 := ne n10
    have m11 := ne n11
    have hs : side c p = (0, 0) := by
      unfold side
      rw [if_neg m0, if_neg m1, if_neg (by omega), if_neg (by omega), if_neg (by omega), if_neg m10]
    rw [hs]
    exact ⟨rfl, Ch.alloc e1⟩
/-- A shape's numbers are no more than 32. -/
def small (c : CfD) : Prop := (0 ≤ c.vocab ∧ c.vocab ≤ 32) ∧ (0 ≤ c.dim ∧ c.dim ≤ 32) ∧ (0 ≤ c.blocks ∧ c.blocks ≤ 32) ∧ (0 ≤ c.hidden ∧ c.hidden ≤ 32) ∧ (0 ≤ c.context ∧ c.context ≤ 32)
theorem side_le {c : CfD} (h : small c) (p : Int) : (0 ≤ (side c p).1 ∧ (side c p).1 ≤ 32) ∧ (0 ≤ (side c p).2 ∧ (side c p).2 ≤ 32) := by
  obtain ⟨h1, h2, h3, h4, h5⟩ := h
  unfold side
  (repeat' split) <;> dsimp only <;> omega
def part (c : CfD) (p : Int) : Int := (side c p).1 * (side c p).2
theorem part_le {c : CfD} (h : small c) (p : Int) : 0 ≤ part c p ∧ part c p ≤ 1024 := by
  obtain ⟨⟨a0, a1⟩, ⟨b0, b1⟩⟩ := side_le h p
  unfold part
  exact ⟨Int.mul_nonneg a0 b0, Int.le_trans (Int.mul_le_mul a1 b1 b0 (by omega)) (by omega)⟩
def spanN (c : CfD) (a : Nat) : Nat → Int
  | 0 => 0
  | n + 1 => spanN c a n + part c ((a : Int) + n)
theorem span_le {c : CfD} (h : small c) (a n : Nat) : 0 ≤ spanN c a n ∧ spanN c a n ≤ 1024 * n := by
  induction n with
  | zero => exact ⟨Int.le_refl _, by simp [spanN]⟩
  | succ n ih =>
    have := part_le h ((a : Int) + n)
    simp only [spanN]
    omega
theorem span_spec (w : World) {c : CfD} (h : small c) {a n : Nat} (hn : a + n ≤ 12) {to : Int} (hto : to = (a : Int) + n - 1) : Calls Tryd.prog i_conf_Shape_span #[.agg (cfE c).toArray, .int .i64 a, .int .i64 to] w (Ret fun v w' => v = .int .i64 (spanN c a n) ∧ Ch Non w w') := by
  refine conf_Shape_span.calls _ _ _ _ _ _ _ _ ?_
  unfold conf_Shape_span.vc
  intro w1 e1
  have hB := Blk.new e1
  refine ⟨fun m p k w' => ∃ j : Nat, p = (a : Int) + j ∧ j ≤ n ∧ k = n - j ∧ m = spanN c a j ∧ Ch Non w1 w', ⟨_, 0, by simp, Nat.zero_le _, rfl, rfl, Ch.refl _ _⟩, ?_⟩
  rintro jk m p k w2 ⟨j, rfl, hj, rfl, rfl, hc⟩
  refine ⟨fun hlt => ?_, fun hge => ?_⟩
  · have hlt : j < n := by have := of_decide_eq_true hlt; omega
    have hB2 := hB.keepN hc
    refine ⟨_, _, _, _, _, _, ⟨hB2.cell 0 rfl, hB2.cell 1 rfl, hB2.cell 2 rfl, hB2.cell 3 rfl, hB2.cell 4 rfl, hB2.cell 5 rfl⟩, ?_⟩
    refine step_call (side_spec w2 c _) ?_
    rintro v w3 ⟨rfl, hc3⟩
    have h1 := part_le h ((a : Int) + j)
    have h2 := span_le h a j
    have h3 : IntKind.i64.wrap ((side c ((a : Int) + j)).1 * (side c ((a : Int) + j)).2) = part c ((a : Int) + j) := wrap_id (by unfold part at h1; omega) (by unfold part at h1; omega)
    refine ⟨_, _, rfl, n - (j + 1), by omega, j + 1, by rw [wrap_id (by omega) (by omega)]; omega, hlt, rfl, ?_, hc.andN hc3⟩
    rw [h3, wrap_id (by omega) (by omega)]
    rfl
  · have hjn : j = n := by have := of_decide_eq_false hge; omega
    subst hjn
    exact ⟨rfl, (Ch.alloc e1).andN hc⟩
def allN (c : CfD) : Int := spanN c 0 2 + c.blocks * spanN c 2 9 + spanN c 11 1
theorem all_spec (w : World) {c : CfD} (h : small c) : Calls Tryd.prog i_conf_Shape_all #[.agg (cfE c).toArray] w (Ret fun v w' => v = .int .i64 (allN c) ∧ Ch Non w w') := by
  refine conf_Shape_all.calls _ _ _ _ _ _ ?_
  unfold conf_Shape_all.vc
  intro w1 e1
  have hB := Blk.new e1
  have cl : ∀ {i : Nat} {v : Value}, (cfE c)[i]? = some v → ∀ w', Ch Non w1 w' → w'.cell? ⟨w.heap.size, i, none⟩ = some v := fun hi w' hc => (hB.keepN hc).cell _ hi
  refine ⟨fun w' => Ch Non w1 w', fun w2 e2 => ⟨Ch.drew e2, _, _, _, _, _, _, ⟨cl (i := 0) rfl, cl (i := 1) rfl, cl (i := 2) rfl, cl (i := 3) rfl, cl (i := 4) rfl, cl (i := 5) rfl⟩, _, cl (i := 3) rfl, _, _, _, _, _, _, ⟨cl (i := 0) rfl, cl (i := 1) rfl, cl (i := 2) rfl, cl (i := 3) rfl, cl (i := 4) rfl, cl (i := 5) rfl⟩, _, _, _, _, _, _, ⟨cl (i := 0) rfl, cl (i := 1) rfl, cl (i := 2) rfl, cl (i := 3) rfl, cl (i := 4) rfl, cl (i := 5) rfl⟩, ?_⟩⟩
  refine step_call (span_spec w2 h (a := 0) (n := 2) (by omega) (by decide)) ?_
  rintro v w7 ⟨rfl, hc7⟩
  have hc17 := (Ch.drew (F := Non) e2).andN hc7
  refine ⟨_, rfl, hc17, ?_⟩
  refine step_call (span_spec w7 h (a := 2) (n := 9) (by omega) (by decide)) ?_
  rintro v w8 ⟨rfl, hc8⟩
  refine ⟨_, rfl, hc17.andN hc8, ?_⟩
  refine step_call (span_spec w8 h (a := 11) (n := 1) (by omega) (by decide)) ?_
  rintro v w9 ⟨rfl, hc9⟩
  refine ⟨_, rfl, (hc17.andN hc8).andN hc9, ?_, (Ch.alloc e1).andN ((hc17.andN hc8).andN hc9)⟩
  have a1 := span_le h 0 2
  have a2 := span_le h 2 9
  have a3 := span_le h 11 1
  have hb := h.2.2.1
  have hm : 0 ≤ c.blocks * spanN c 2 9 ∧ c.blocks * spanN c 2 9 ≤ 32 * 9216 := ⟨Int.mul_nonneg hb.1 a2.1, Int.mul_le_mul hb.2 (by omega) a2.1 (by omega)⟩
  unfold allN
  rw [wrap_id (x := c.blocks * spanN c 2 9) (by omega) (by omega), wrap_id (x := spanN c 0 2 + c.blocks * spanN c 2 9) (by omega) (by omega), wrap_id (by omega) (by omega)]
/-- Whether one can be. -/
def okC (c : CfD) : Prop := (2 ≤ c.vocab ∧ c.vocab ≤ 32) ∧ (1 ≤ c.dim ∧ c.dim ≤ 16) ∧ (1 ≤ c.heads ∧ c.heads ≤ 4) ∧ (1 ≤ c.blocks ∧ c.blocks ≤ 3) ∧ (1 ≤ c.hidden ∧ c.hidden ≤ 32) ∧ (1 ≤ c.context ∧ c.context ≤ 32) ∧ Int.tmod c.dim c.heads = 0 ∧ allN c ≤ 8192
instance (c : CfD) : Decidable (okC c) := by unfold okC; infer_instance
theorem within_spec (w : World) (n a b : Int) : Calls Tryd.prog i_conf_within #[.int .i64 n, .int .i64 a, .int .i64 b] w (Ret fun v w' => v = .bool (decide (a ≤ n ∧ n ≤ b)) ∧ w' = w) := by
  refine conf_within.calls _ _ _ ?_
  unfold conf_within.vc
  refine ⟨fun h => ⟨?_, rfl⟩, fun h => ⟨?_, rfl⟩⟩
  · have h := of_decide_eq_true h
    congr 1
    by_cases h2 : n ≤ b
    · rw [decide_eq_true h2, decide_eq_true ⟨h, h2⟩]
    · rw [decide_eq_false h2, decide_eq_false (fun k => h2 k.2)]
  · have h := of_decide_eq_false h
    rw [decide_eq_false (fun k => h k.1)]
theorem nb {p : Prop} [Decidable p] (h : (!decide p) = true) : ¬ p := by simpa using h
theorem nb2 {p : Prop} [Decidable p] (h : (!decide p) = false) : p := by simpa using h
theorem Good_spec (w : World) (c : CfD) : Calls Tryd.prog i_conf_Good #[.agg (cfE c).toArray] w (Ret fun v w' => v = .bool (decide (okC c)) ∧ Ch Non w w') := by
  refine conf_Good.calls _ _ _ _ _ _ ?_
  unfold conf_Good.vc
  intro w1 e1
  have hB := Blk.new e1
  have hc1 : Ch Non w w1 := Ch.alloc e1
  have no : ¬ okC c → Value.bool false = .bool (decide (okC c)) ∧ Ch Non w w1 := fun h => ⟨by rw [decide_eq_false h], hc1⟩
  refine ⟨_, hB.cell 0 rfl, step_call (within_spec w1 _ _ _) ?_⟩
  rintro v w2 ⟨rfl, rfl⟩
  refine ⟨_, rfl, fun h => no (fun k => nb h k.1), fun h1 => ?_⟩
  refine ⟨_, hB.cell 1 rfl, step_call (within_spec w2 _ _ _) ?_⟩
  rintro v w3 ⟨rfl, rfl⟩
  refine ⟨_, rfl, fun h => no (fun k => nb h k.2.1), fun h2 => ?_⟩
  refine ⟨_, hB.cell 2 rfl, step_call (within_spec w3 _ _ _) ?_⟩
  rintro v w4 ⟨rfl, rfl⟩
  refine ⟨_, rfl, fun h => no (fun k => nb h k.2.2.1), fun h3 => ?_⟩
  refine ⟨_, hB.cell 3 rfl, step_call (within_spec w4 _ _ _) ?_⟩
  rintro v w5 ⟨rfl, rfl⟩
  refine ⟨_, rfl, fun h => no (fun k => nb h k.2.2.2.1), fun h4 => ?_⟩
  refine ⟨_, hB.cell 4 rfl, step_call (within_spec w5 _ _ _) ?_⟩
  rintro v w6 ⟨rfl, rfl⟩
  refine ⟨_, rfl, fun h => no (fun k => nb h k.2.2.2.2.1), fun h5 => ?_⟩
  refine ⟨_, hB.cell 5 rfl, step_call (within_spec w6 _ _ _) ?_⟩
  rintro v w7 ⟨rfl, rfl⟩
  refine ⟨_, rfl, fun h => no (fun k => nb h k.2.2.2.2.2.1), fun h6 => ?_⟩
  have h1 := nb2 h1
  have h2 := nb2 h2
  have h3 := nb2 h3
  have h4 := nb2 h4
  have h5 := nb2 h5
  have h6 := nb2 h6
  refine ⟨_, hB.cell 1 rfl, _, hB.cell 2 rfl, by omega, fun h7 => ?_, fun h7 => no (fun k => by have := k.2.2.2.2.2.2.1; rw [this] at h7; simp at h7)⟩
  have h7 := eq_of_beq h7
  refine ⟨_, _, _, _, _, _, ⟨hB.cell 0 rfl, hB.cell 1 rfl, hB.cell 2 rfl, hB.cell 3 rfl, hB.cell 4 rfl, hB.cell 5 rfl⟩, ?_⟩
  refine step_call (all_spec w7 (c := c) ⟨by omega, by omega, by omega, by omega, by omega⟩) ?_
  rintro v w8 ⟨rfl, hc8⟩
  refine ⟨_, rfl, ?_, hc1.andN hc8⟩
  congr 1
  by_cases h8 : allN c ≤ 8192
  · rw [decide_eq_true h8, decide_eq_true (show okC c from ⟨h1, h2, h3, h4, h5, h6, h7, h8⟩)]
  · rw [decide_eq_false h8, decide_eq_false (fun k => h8 k.2.2.2.2.2.2.2)]
theorem okC.small {c : CfD} (h : okC c) : small c := by
  obtain ⟨h1, h2, _, h4, h5, h6, _, _⟩ := h
  exact ⟨by omega, by omega, by omega, by omega, by omega⟩
theorem Size_spec (w : World) (c : CfD) : Calls Tryd.prog i_conf_Shape_Size #[.agg (cfE c).toArray] w (Ret fun v w' => v = .int .i64 (if okC c then allN c else 0) ∧ Ch Non w w') := by
  refine conf_Shape_Size.calls _ _ _ _ _ _ ?_
  unfold conf_Shape_Size.vc
  intro w1 e1
  have hB := Blk.new e1
  refine ⟨_, _, _, _, _, _, ⟨hB.cell 0 rfl, hB.cell 1 rfl, hB.cell 2 rfl, hB.cell 3 rfl, hB.cell 4 rfl, hB.cell 5 rfl⟩, ?_⟩
  refine step_call (Good_spec w1 c) ?_
  rintro v w2 ⟨rfl, hc2⟩
  have hB2 := hB.keepN hc2
  refine ⟨_, rfl, fun h => ⟨by rw [if_neg (nb h)], (Ch.alloc e1).andN hc2⟩, fun h => ?_⟩
  refine ⟨_, _, _, _, _, _, ⟨hB2.cell 0 rfl, hB2.cell 1 rfl, hB2.cell 2 rfl, hB2.cell 3 rfl, hB2.cell 4 rfl, hB2.cell 5 rfl⟩, ?_⟩
  refine step_call (all_spec w2 (okC.small (nb2 h))) ?_
  rintro v w3 ⟨rfl, hc3⟩
  exact ⟨_, rfl, by rw [if_pos (nb2 h)], ((Ch.alloc e1).andN hc2).andN hc3⟩
/-- A model in memory. -/
def BrR (w : World) (b : Nat) (c : CfD) (wt : ByteArray) : Prop := Blk w b (cfE c ++ [.string wt]) t_brain_Brain
theorem brOf_spec (w : World) (c : CfD) (wt : ByteArray) : Calls Tryd.prog i_brain_Of #[.agg (cfE c).toArray, .string wt] w (Ret fun v w' => Ch Non w w' ∧
    (okC c ∧ (wt.size : Int) = allN c → ∃ b, v = .tuple #[.pointer (some ⟨b, 0, none⟩), .int .i64 0] ∧ w.heap.size ≤ b ∧ BrR w' b c wt) ∧
    (okC c ∧ ¬ (wt.size : Int) = allN c → v = .tuple #[.pointer none, .int .i64 5]) ∧ (¬ okC c → v = .tuple #[.pointer none, .int .i64 1])) := by
  refine brain_Of.calls _ _ _ _ _ _ _ ?_
  unfold brain_Of.vc
  intro w1 e1
  have hB := Blk.new e1
  refine ⟨_, _, _, _, _, _, ⟨hB.cell 0 rfl, hB.cell 1 rfl, hB.cell 2 rfl, hB.cell 3 rfl, hB.cell 4 rfl, hB.cell 5 rfl⟩, fun w2 e2 => ?_⟩
  have hS2 := Blk.new e2
  have s1 : w.heap.size < w1.heap.size := hB.lt
  have s2 : w1.heap.size < w2.heap.size := hS2.lt
  refine ⟨⟨hS2.ok 0 rfl, hS2.ok 1 rfl, hS2.ok 2 rfl, hS2.ok 3 rfl, hS2.ok 4 rfl, hS2.ok 5 rfl⟩, fun w3 e3 => ?_⟩
  have e3' : w3 = w2.setCells w1.heap.size 0 (cfE c) := e3
  have hS3 := hS2.all (cfE c) rfl e3'
  have hc13 : Ch Non w1 w3 := (Ch.alloc (F := Non) e2).trans (Ch.sets (F := (· = w1.heap.size)) e3' rfl) (fun i hi he => by omega)
  have hB3 := hB.keepN hc13
  refine ⟨_, _, _, _, _, _, ⟨hB3.cell 0 rfl, hB3.cell 1 rfl, hB3.cell 2 rfl, hB3.cell 3 rfl, hB3.cell 4 rfl, hB3.cell 5 rfl⟩, ?_⟩
  refine step_call (Good_spec w3 c) ?_
  rintro v w4 ⟨rfl, hc4⟩
  have hS4 := hS3.keepN hc4
  have hc04 : Ch Non w w4 := ((Ch.alloc e1).andN hc13).andN hc4
  refine ⟨_, rfl, fun h => ⟨hc04, fun k => absurd k.1 (nb h), fun k => absurd k.1 (nb h), fun _ => rfl⟩, fun h => ?_⟩
  have hok := nb2 h
  refine ⟨_, _, _, _, _, _, ⟨hS4.cell 0 rfl, hS4.cell 1 rfl, hS4.cell 2 rfl, hS4.cell 3 rfl, hS4.cell 4 rfl, hS4.cell 5 rfl⟩, ?_⟩
  refine step_call (Size_spec w4 c) ?_
  rintro v w5 ⟨rfl, hc5⟩
  have hS5 := hS4.keepN hc5
  rw [if_pos hok]
  refine ⟨_, rfl, fun h => ?_, fun h => ?_⟩
  · have h : ¬ (wt.size : Int) = allN c := by simpa using h
    exact ⟨hc04.andN hc5, fun k => absurd k.2 h, fun _ => rfl, fun k => absurd hok k⟩
  · have h : (wt.size : Int) = allN c := by simpa using h
    refine ⟨_, _, _, _, _, _, ⟨hS5.cell 0 rfl, hS5.cell 1 rfl, hS5.cell 2 rfl, hS5.cell 3 rfl, hS5.cell 4 rfl, hS5.cell 5 rfl⟩, fun w6 e6 => ?_⟩
    exact ⟨(hc04.andN hc5).andN (Ch.alloc e6), fun _ => ⟨_, rfl, (hc04.andN hc5).size, Blk.new e6⟩, fun k => absurd h k.2, fun k => absurd hok k⟩
theorem Weights_spec {w : World} {b : Nat} {c : CfD} {wt : ByteArray} (h : BrR w b c wt) : Calls Tryd.prog i_brain_Brain_Weights #[.pointer (some ⟨b, 0, none⟩)] w (Ret fun v w' => v = .string wt ∧ w' = w) := by
  refine brain_Brain_Weights.calls _ ?_
  unfold brain_Brain_Weights.vc
  exact ⟨_, Blk.cell h 6 rfl, rfl, rfl⟩
end Go.Proofs.YtbadkcnemcnhfaaDoor.Conf
