/- For every shape of a model: what the document's parts, sizes and rows are, and that they are the program's; the conditions stand in each theorem. -/
import Derived.Test.YtbadkcnemcnhfaaGreatDoorPkB
import Derived.Test.YtbadkcnemcnhfaaGreatDoorVcRefM
set_option linter.unusedVariables false
set_option linter.unusedSimpArgs false
namespace Go.Proofs.YtbadkcnemcnhfaaGreatDoor.RefM
open Go Go.Proofs Go.Proofs.YtbadkcnemcnhfaaGreatDoor.V Go.Proofs.YtbadkcnemcnhfaaGreatDoor.Vc Go.Proofs.YtbadkcnemcnhfaaGreatDoor.Conf Go.Proofs.YtbadkcnemcnhfaaGreatDoor.Brain Go.Proofs.YtbadkcnemcnhfaaGreatDoor.Num Go.RowKit

theorem dT {p X : Prop} [Decidable p] (h : p → X) : decide p = true → X := fun k => h (of_decide_eq_true k)
theorem dF {p X : Prop} [Decidable p] (h : ¬ p → X) : decide p = false → X := fun k => h (of_decide_eq_false k)
theorem bT {x y : Int} {X : Prop} (h : x = y → X) : (x == y) = true → X := fun k => h (eq_of_beq k)
theorem bF {x y : Int} {X : Prop} (h : ¬ x = y → X) : (x == y) = false → X := fun k => h (by simpa using k)
theorem rside_spec (w : World) (c : CfD) (p : Int) : Calls Tryz.prog i_coadjutorref15_side #[.agg (cfE c).toArray, .int .i64 p] w (Ret fun v w' => v = .tuple #[.int .i64 (side c p).1, .int .i64 (side c p).2] ∧ Ch Non w w') := by
  refine coadjutorref15_side.calls _ _ _ _ _ _ _ ?_
  unfold coadjutorref15_side.vc
  intro w1 e1
  have hB := Blk.new e1
  refine ⟨fun h => ?_, fun n0 => ⟨fun h => ?_, fun n1 => ⟨fun h => ⟨h, ?_⟩, fun n2 => ⟨fun h => ⟨h, ?_⟩, fun n7 => ⟨fun h => ?_, fun n11 => ⟨fun h => ⟨h, ?_⟩, fun n3 => ⟨fun h => ⟨h, ?_⟩, fun n4 => ⟨fun h => ⟨h, ?_⟩, fun n5 => ⟨fun h => ?_, fun n6 => ⟨fun h => ⟨h, ?_⟩, fun n8 => ⟨fun h => ?_, fun n9 => ⟨fun h => ?_, fun n10 => ?_⟩⟩⟩⟩⟩⟩⟩⟩⟩⟩⟩⟩
  · have h := eq_of_beq h
    subst h
    exact ⟨fun w' => Ch Non w1 w', fun w2 e2 => ⟨Ch.drew e2, _, fun w' hc => (hB.keepN hc).cell 0 rfl, _, fun w' hc => (hB.keepN hc).cell 1 rfl, rfl, (Ch.alloc e1).andN (Ch.drew e2)⟩⟩
  · have h := eq_of_beq h
    subst h
    exact ⟨fun w' => Ch Non w1 w', fun w2 e2 => ⟨Ch.drew e2, _, fun w' hc => (hB.keepN hc).cell 5 rfl, _, fun w' hc => (hB.keepN hc).cell 1 rfl, rfl, (Ch.alloc e1).andN (Ch.drew e2)⟩⟩
  iterate 3
    · have h := eq_of_beq h
      subst h
      exact ⟨fun w' => Ch Non w1 w', fun w2 e2 => ⟨Ch.drew e2, _, fun w' hc => (hB.keepN hc).cell 1 rfl, rfl, (Ch.alloc e1).andN (Ch.drew e2)⟩⟩
  iterate 4
    · have h := eq_of_beq h
      subst h
      exact ⟨fun w' => Ch Non w1 w', fun w2 e2 => ⟨Ch.drew e2, _, fun w' hc => (hB.keepN hc).cell 1 rfl, _, fun w' hc => (hB.keepN hc).cell 1 rfl, rfl, (Ch.alloc e1).andN (Ch.drew e2)⟩⟩
  iterate 2
    · have h := eq_of_beq h
      subst h
      exact ⟨fun w' => Ch Non w1 w', fun w2 e2 => ⟨Ch.drew e2, _, fun w' hc => (hB.keepN hc).cell 4 rfl, _, fun w' hc => (hB.keepN hc).cell 1 rfl, rfl, (Ch.alloc e1).andN (Ch.drew e2)⟩⟩
  · have h := eq_of_beq h
    subst h
    exact ⟨fun w' => Ch Non w1 w', fun w2 e2 => ⟨Ch.drew e2, _, fun w' hc => (hB.keepN hc).cell 1 rfl, _, fun w' hc => (hB.keepN hc).cell 4 rfl, rfl, (Ch.alloc e1).andN (Ch.drew e2)⟩⟩
  · have ne : ∀ {k : Int}, (p == k) = false → ¬ p = k := fun h he => by subst he; simp at h
    have m0 := ne n0
    have m1 := ne n1
    have m2 := ne n2
    have m3 := ne n3
    have m4 := ne n4
    have m5 := ne n5
    have m6 := ne n6
    have m7 := ne n7
    have m8 := ne n8
    have m9 := ne n9
    have m10 := ne n10
    have m11 := ne n11
    have hs : side c p = (0, 0) := by
      unfold side
      rw [if_neg m0, if_neg m1, if_neg (by omega), if_neg (by omega), if_neg (by omega), if_neg m10]
    rw [hs]
    exact ⟨rfl, Ch.alloc e1⟩
abbrev Quad := Int × Int × Int × Int
def quadE (x : Quad) : List Value := [.int .i64 x.1, .int .i64 x.2.1, .int .i64 x.2.2.1, .int .i64 x.2.2.2]
def rowOk (c : CfD) (x : Quad) : Prop := ∃ p k : Nat, x = ((p : Int), (k : Int), fromP c p k, spanN c p 1) ∧ okPB c p k
/-- Where a walk over the blocks and parts is. -/
def posn (c : CfD) (B p : Nat) : Int :=
  if B = 0 then spanN c 0 (min p 2) else if (B : Int) ≤ c.blocks then spanN c 0 2 + ((B : Int) - 1) * spanN c 2 9 + spanN c 2 (min p 11 - 2) else if (B : Int) = c.blocks + 1 ∧ p ≤ 11 then allN c - spanN c 11 1 else allN c
def inc (c : CfD) (B p : Nat) : Prop := (B = 0 ∧ p ≤ 1) ∨ (1 ≤ B ∧ (B : Int) ≤ c.blocks ∧ 2 ≤ p ∧ p ≤ 10) ∨ ((B : Int) = c.blocks + 1 ∧ 11 ≤ p)
/-- The block of a walk in which a part of a block comes. -/
def bl (c : CfD) (q k : Nat) : Int := if q < 2 then 0 else if q = 11 then c.blocks + 1 else (k : Int) + 1
def kOf (B p : Nat) : Nat := if p < 2 ∨ p = 11 then 0 else B - 1
structure RInv (c : CfD) (B p : Nat) (at' : Int) (xs : List Quad) : Prop where
  ok : ∀ x ∈ xs, rowOk c x
  all : ∀ q k : Nat, okPB c q k → (bl c q k < B ∨ (bl c q k = B ∧ q < p)) → ∃ x ∈ xs, x.1 = q ∧ x.2.1 = k
  pos : at' = posn c B p
  last : ∀ x, xs.getLast? = some x → x.2.2.1 + x.2.2.2 = at'
  ne : (0 < B ∨ 0 < p) → xs ≠ []
  len : xs.length ≤ B * 12 + p
section
variable {c : CfD} {B p : Nat} {at' : Int} {xs : List Quad}
theorem RInv.start (hk : okC c) : RInv c 0 0 0 [] := ⟨fun x hx => by simp at hx, fun q k _ h => by
  have hb := hk.2.2.2.1
  rcases h with h | ⟨h1, h2⟩
  · unfold bl at h; split at h
    · omega
    · split at h <;> omega
  · omega, rfl, fun x hx => by simp at hx, fun h => by omega, by simp⟩
theorem RInv.skip (hk : okC c) (h : RInv c B p at' xs) (hp : p < 12) (hB : (B : Int) ≤ c.blocks + 1) (hn : ¬ inc c B p) : RInv c B (p + 1) at' xs := by
  unfold inc at hn
  refine ⟨h.ok, fun q k hq hs => h.all q k hq ?_, ?_, h.last, fun _ => h.ne (by omega), by have := h.len; omega⟩
  · rcases hs with hs | ⟨h1, h2⟩
    · exact .inl hs
    · by_cases e : q = p
      · subst e
        exfalso
        have hq2 := hq.2
        have hq1 := hq.1
        unfold bl at h1
        by_cases e1 : q < 2
        · rw [if_pos e1] at h1; omega
        · rw [if_neg e1] at h1
          by_cases e2 : q = 11
          · rw [if_pos e2] at h1; omega
          · rw [if_neg e2] at h1; rw [if_neg (by omega)] at hq2; omega
      · exact .inr ⟨h1, by omega⟩
  · rw [h.pos]
    unfold posn
    by_cases b0 : B = 0
    · rw [if_pos b0, if_pos b0, show min p 2 = min (p + 1) 2 by omega]
    · rw [if_neg b0, if_neg b0]
      by_cases b1 : (B : Int) ≤ c.blocks
      · rw [if_pos b1, if_pos b1, show min p 11 - 2 = min (p + 1) 11 - 2 by omega]
      · rw [if_neg b1, if_neg b1, if_pos ⟨by omega, by omega⟩, if_pos ⟨by omega, by omega⟩]
theorem inc_ok (hk : okC c) (hp : p < 12) (hn : inc c B p) : okPB c p (kOf B p) ∧ posn c B p = fromP c p (kOf B p) ∧ posn c B (p + 1) = posn c B p + spanN c p 1 ∧ bl c p (kOf B p) = B := by
  have hb := hk.2.2.2.1
  have hsucc : ∀ a n : Nat, spanN c a (n + 1) = spanN c a n + Conf.part c ((a + n : Nat) : Int) := fun a n => by
    show spanN c a n + Conf.part c _ = _
    congr 2
  unfold inc at hn
  unfold okPB fromP posn bl kOf
  rcases hn with ⟨h1, h2⟩ | ⟨h1, h2, h3, h4⟩ | ⟨h1, h2⟩
  · subst h1
    rw [if_pos (by omega), if_pos (by omega), if_pos rfl, if_pos (by omega), if_pos rfl, if_pos (by omega), show min p 2 = p by omega, show min (p + 1) 2 = p + 1 by omega]
    exact ⟨⟨by omega, by omega⟩, rfl, by rw [hsucc 0 p, Nat.zero_add, ← span1], rfl⟩
  · rw [if_neg (by omega), if_neg (by omega), if_neg (by omega), if_pos h2, if_neg (by omega), if_neg (by omega), if_neg (by omega), if_pos h2, if_neg (by omega), if_neg (by omega), show min p 11 = p by omega, show min (p + 1) 11 - 2 = (p - 2) + 1 by omega]
    refine ⟨⟨by omega, by omega⟩, by rw [show (((B - 1 : Nat) : Nat) : Int) = (B : Int) - 1 by omega], ?_, by omega⟩
    rw [hsucc 2 (p - 2), show 2 + (p - 2) = p by omega, ← span1]; omega
  · have : p = 11 := by omega
    subst this
    rw [if_pos (by omega), if_pos (by omega), if_neg (by omega), if_neg (by omega), if_pos ⟨h1, by omega⟩, if_neg (by omega), if_pos rfl, if_neg (by omega), if_neg (by omega), if_neg (by omega), if_neg (by omega), if_pos rfl]
    exact ⟨⟨by omega, by omega⟩, rfl, by omega, by omega⟩
theorem RInv.take (hk : okC c) (h : RInv c B p at' xs) (hp : p < 12) (hn : inc c B p) : RInv c B (p + 1) (at' + spanN c p 1) (xs ++ [((p : Int), (kOf B p : Int), at', spanN c p 1)]) := by
  obtain ⟨h1, h2, h3, h4⟩ := inc_ok hk hp hn
  refine ⟨fun x hx => ?_, fun q k hq hs => ?_, by rw [h.pos, h3], fun x hx => ?_, fun _ => by simp, by have := h.len; rw [List.length_append]; simp; omega⟩
  · rcases List.mem_append.1 hx with hx | hx
    · exact h.ok x hx
    · rw [List.mem_singleton] at hx
      subst hx
      exact ⟨p, kOf B p, by rw [h.pos, h2], h1⟩
  · by_cases e : bl c q k = B ∧ q = p
    · obtain ⟨e1, rfl⟩ := e
      refine ⟨_, List.mem_append_right _ List.mem_cons_self, rfl, ?_⟩
      show (kOf B q : Int) = k
      have hq2 := hq.2
      unfold bl at e1
      unfold kOf
      by_cases a1 : q < 2 ∨ q = 11
      · rw [if_pos a1] at hq2 ⊢; omega
      · rw [if_neg a1] at hq2 ⊢; rw [if_neg (by omega), if_neg (by omega)] at e1; omega
    · obtain ⟨x, hx, k1⟩ := h.all q k hq (by
        rcases hs with hs | ⟨a, b⟩
        · exact .inl hs
        · exact .inr ⟨a, by
            by_cases e2 : q = p
            · exact absurd ⟨a, e2⟩ e
            · omega⟩)
      exact ⟨x, List.mem_append_left _ hx, k1⟩
  · rw [List.getLast?_append] at hx
    simp at hx
    subst hx
    rfl
theorem RInv.next (hk : okC c) (h : RInv c B 12 at' xs) (hB : (B : Int) ≤ c.blocks + 1) : RInv c (B + 1) 0 at' xs := by
  have hb := hk.2.2.2.1
  refine ⟨h.ok, fun q k hq hs => h.all q k hq ?_, ?_, h.last, fun _ => h.ne (by omega), by have := h.len; omega⟩
  · have := hq.1
    rcases hs with hs | ⟨_, h2⟩
    · by_cases e : bl c q k = B
      · exact .inr ⟨e, by omega⟩
      · exact .inl (by omega)
    · omega
  · rw [h.pos]
    unfold posn
    by_cases b0 : B = 0
    · subst b0
      rw [if_pos rfl, if_neg (show ¬ 0 + 1 = 0 by omega), if_pos (by omega)]
      show spanN c 0 2 = spanN c 0 2 + (((0 + 1 : Nat) : Int) - 1) * spanN c 2 9 + 0
      rw [show (((0 + 1 : Nat) : Int) - 1) = 0 by omega]; omega
    · rw [if_neg b0, if_neg (show ¬ B + 1 = 0 by omega)]
      by_cases b1 : (B : Int) ≤ c.blocks
      · rw [if_pos b1]
        have hm : ((B : Int) - 1) * spanN c 2 9 + spanN c 2 9 = (B : Int) * spanN c 2 9 := by rw [Int.sub_mul]; omega
        by_cases b2 : ((B + 1 : Nat) : Int) ≤ c.blocks
        · rw [if_pos b2]
          show spanN c 0 2 + ((B : Int) - 1) * spanN c 2 9 + spanN c 2 9 = spanN c 0 2 + (((B + 1 : Nat) : Int) - 1) * spanN c 2 9 + 0
          rw [show (((B + 1 : Nat) : Int) - 1) = (B : Int) by omega]; omega
        · rw [if_neg b2, if_pos ⟨by omega, by omega⟩]
          unfold allN
          show spanN c 0 2 + ((B : Int) - 1) * spanN c 2 9 + spanN c 2 9 = _
          rw [show c.blocks = (B : Int) by omega]; omega
      · rw [if_neg b1, if_neg (by omega), if_neg (by omega), if_neg (by omega)]
end
theorem rows_spec (w : World) {c : CfD} (hc : okC c) : Calls Tryz.prog i_coadjutorref15_rows #[.agg (cfE c).toArray] w (Ret fun v w' => ∃ (o : Option Addr) (cp : Nat) (xs : List Quad) (B : Nat), (B : Int) = c.blocks + 2 ∧ v = .slice o xs.length cp ∧ Rd w' o (xs.map quadE).flatten (New w w') ∧ RInv c B 0 (allN c) xs ∧ Ch Non w w') := by
  have hs := hc.small
  have hbk := hc.2.2.2.1
  refine coadjutorref15_rows.calls _ _ _ _ _ _ ?_
  unfold coadjutorref15_rows.vc
  intro w1 e1 w2 e2
  have hB := Blk.new e1
  have hc1 : Ch Non w w1 := Ch.alloc e1
  have g0 : Gr Non w1 w2 t__4_int 4 (some ⟨w1.heap.size, 0, none⟩) 0 0 [] := Gr.made0 (Ch.refl _ _) e2
  refine ⟨fun o n cp at' b k w' => ∃ (B : Nat) (xs : List Quad), b = (B : Int) - 1 ∧ (B : Int) ≤ c.blocks + 2 ∧ k = (c.blocks + 2 - B).toNat ∧ n = xs.length ∧ Gr Non w1 w' t__4_int 4 o xs.length cp (xs.map quadE).flatten ∧ RInv c B 0 at' xs, ⟨_, 0, [], rfl, by omega, rfl, rfl, g0, RInv.start hc⟩, ?_⟩
  rintro jk o n cp at' b k w3 ⟨B, xs, rfl, hB1, rfl, rfl, hg, hI⟩
  have hB3 := hB.keepN hg.2
  refine ⟨_, hB3.cell 3 rfl, dT fun hle => ?_, dF fun hgt => ?_⟩
  · refine ⟨fun o n cp at' p k w' => ∃ (p' : Nat) (xs : List Quad), p = p' ∧ p' ≤ 12 ∧ k = 12 - p' ∧ n = xs.length ∧ Gr Non w1 w' t__4_int 4 o xs.length cp (xs.map quadE).flatten ∧ RInv c B p' at' xs, ⟨_, 0, xs, rfl, by omega, rfl, rfl, hg, hI⟩, ?_⟩
    clear hg hI hB3
    rintro jk o n cp at' p k w4 ⟨p, xs, rfl, hp, rfl, rfl, hg, hI⟩
    have hB4 := hB.keepN hg.2
    have hx : w4.cell? ⟨w.heap.size, 3, none⟩ = some (.int .i64 c.blocks) := hB4.cell 3 rfl
    refine ⟨dT fun hlt => ?_, dF fun hge => ?_⟩
    · have hlt : p < 12 := by omega
      refine ⟨fun o n cp at' w' => ∃ xs : List Quad, n = xs.length ∧ Gr Non w1 w' t__4_int 4 o xs.length cp (xs.map quadE).flatten ∧ RInv c B (p + 1) at' xs, ⟨fun w' => w' = w4 ∧ inc c B p, ?_, ?_⟩, ?_⟩
      · have sk : ¬ ((B = 0 ∧ p ≤ 1) ∨ (1 ≤ B ∧ (B : Int) ≤ c.blocks ∧ 2 ≤ p ∧ p ≤ 10) ∨ ((B : Int) = c.blocks + 1 ∧ 11 ≤ p)) → ∃ xs' : List Quad, xs.length = xs'.length ∧ Gr Non w1 w4 t__4_int 4 o xs'.length cp (xs'.map quadE).flatten ∧ RInv c B (p + 1) at' xs' := fun h => ⟨xs, rfl, hg, hI.skip hc hlt (by omega) h⟩
        have tk : ((B = 0 ∧ p ≤ 1) ∨ (1 ≤ B ∧ (B : Int) ≤ c.blocks ∧ 2 ≤ p ∧ p ≤ 10) ∨ ((B : Int) = c.blocks + 1 ∧ 11 ≤ p)) → w4 = w4 ∧ inc c B p := fun h => ⟨rfl, h⟩
        clear hg hI hB4
        refine ⟨dT fun hb => ⟨dT fun hp => ?_, dF fun hp => ⟨_, hx, bT fun he => ⟨dT fun h1 => ?_, dF fun h1 => ⟨dT fun h2 => ⟨_, hx, dT fun h3 => ⟨dT fun h4 => ?_, dF fun h4 => ⟨dT fun h5 => ?_, dF fun h5 => ?_⟩⟩, dF fun h3 => ?_⟩, dF fun h2 => ?_⟩⟩, bF fun he => ⟨dT fun h2 => ⟨_, hx, dT fun h3 => ⟨dT fun h4 => ?_, dF fun h4 => ⟨dT fun h5 => ?_, dF fun h5 => ?_⟩⟩, dF fun h3 => ?_⟩, dF fun h2 => ?_⟩⟩⟩, dF fun hb => ⟨_, hx, bT fun he => ⟨dT fun h1 => ?_, dF fun h1 => ⟨dT fun h2 => ⟨_, hx, dT fun h3 => ⟨dT fun h4 => ?_, dF fun h4 => ⟨dT fun h5 => ?_, dF fun h5 => ?_⟩⟩, dF fun h3 => ?_⟩, dF fun h2 => ?_⟩⟩, bF fun he => ⟨dT fun h2 => ⟨_, hx, dT fun h3 => ⟨dT fun h4 => ?_, dF fun h4 => ⟨dT fun h5 => ?_, dF fun h5 => ?_⟩⟩, dF fun h3 => ?_⟩, dF fun h2 => ?_⟩⟩⟩
        all_goals first | exact sk (by omega) | exact tk (by omega)
      · rintro jk w5 ⟨rfl, hin⟩
        obtain ⟨h1, h2, h3, h4⟩ := inc_ok hc hlt hin
        refine ⟨_, _, _, _, _, _, ⟨hB4.cell 0 rfl, hB4.cell 1 rfl, hB4.cell 2 rfl, hB4.cell 3 rfl, hB4.cell 4 rfl, hB4.cell 5 rfl⟩, step_call (rside_spec _ c _) ?_⟩
        rintro v w6 ⟨rfl, hc6⟩
        have hle := from_le hs h1
        have hpt : (side c p).1 * (side c p).2 = spanN c p 1 := (span1 c p).symm
        refine ⟨_, _, rfl, fun k w' => w' = w6 ∧ k = (kOf B p : Int), ⟨dT fun h => ⟨rfl, ?_⟩, dF fun h => ⟨bT fun h' => ⟨rfl, ?_⟩, bF fun h' => ⟨rfl, ?_⟩⟩⟩, ?_⟩
        · unfold kOf; rw [if_pos (by omega)]; rfl
        · unfold kOf; rw [if_pos (by omega)]; rfl
        · have : ¬ B = 0 := fun e => by subst e; unfold inc at hin; omega
          unfold kOf; rw [if_neg (by omega)]; omega
        rintro jk k w7 ⟨rfl, rfl⟩ w8 e8
        rw [hpt] at e8
        rw [wrap_id (x := spanN c p 1) (by omega) (by omega)] at e8
        rw [hpt, wrap_id (x := spanN c p 1) (by omega) (by omega)]
        have hlen := hI.len
        obtain ⟨o', c', w9, hr, hg9, hch9⟩ := (hg.keepN hc6).push el_S__4_int t_S__4_int e8 rfl rfl (by omega) (by omega)
        have hw : IntKind.i64.wrap (at' + spanN c p 1) = at' + spanN c p 1 := wrap_id (by rw [hI.pos, h2]; omega) (by rw [hI.pos, h2]; omega)
        rw [hw]
        refine ⟨_, _, _, _, hr, _, ?_, ?_, hI.take hc hlt hin⟩
        · rw [List.length_append]; rfl
        · rw [List.length_append, List.map_append, List.flatten_append]
          exact hg9
      · rintro jk o2 n2 cp2 at2 w10 ⟨xs2, rfl, hg2, hI2⟩
        exact ⟨12 - (p + 1), by omega, p + 1, xs2, by rw [wrap_id (by omega) (by omega)]; rfl, by omega, rfl, rfl, hg2, hI2⟩
    · have : p = 12 := by omega
      subst this
      exact ⟨(c.blocks + 2 - ((B + 1 : Nat) : Int)).toNat, by omega, B + 1, xs, by rw [wrap_id (by omega) (by omega)]; omega, by omega, rfl, rfl, hg, hI.next hc (by omega)⟩
  · have hBe : (B : Int) = c.blocks + 2 := by omega
    have hat : at' = allN c := by rw [hI.pos]; unfold posn; rw [if_neg (by omega), if_neg (by omega), if_neg (by omega)]
    rw [hat] at hI
    have hsz := hc1.size
    exact ⟨_, _, xs, B, hBe, rfl, hg.rd.mono (fun i _ hi => ⟨by have := hi.1; omega, hi.2⟩), hI, hc1.andN hg.2⟩
theorem okPB_z (c : CfD) : okPB c 0 0 := ⟨by omega, by simp⟩
theorem rSize_spec (w : World) {c : CfD} (hc : okC c) : Calls Tryz.prog i_coadjutorref15_Size #[.agg (cfE c).toArray] w (Ret fun v w' => v = .int .i64 (allN c) ∧ Ch Non w w') := by
  have hs := hc.small
  refine coadjutorref15_Size.calls _ _ _ _ _ _ ?_
  unfold coadjutorref15_Size.vc
  intro w1 e1
  have hB := Blk.new e1
  refine ⟨_, _, _, _, _, _, ⟨hB.cell 0 rfl, hB.cell 1 rfl, hB.cell 2 rfl, hB.cell 3 rfl, hB.cell 4 rfl, hB.cell 5 rfl⟩, step_call (rows_spec w1 hc) ?_⟩
  rintro v w2 ⟨o, cp, xs, B, hBe, rfl, hr, hI, hc2⟩
  have hne := hI.ne (by have := hc.2.2.2.1; omega)
  have hl : 0 < xs.length := List.length_pos_iff.2 hne
  have hlen := hI.len
  have hB5 : B ≤ 5 := by have := hc.2.2.2.1; omega
  refine ⟨_, _, _, rfl, fun w' => Ch Non w2 w', fun w3 e3 => ⟨Ch.drew e3, ?_⟩⟩
  have hi : IntKind.i64.wrap ((xs.length : Int) - 1) = ((xs.length - 1 : Nat) : Int) := by rw [wrap_id (by omega) (by omega)]; omega
  rw [hi]
  obtain ⟨a, ha, _, _, _⟩ := Rd.elem (sz := 4) (enc := quadE) hr (fun _ => rfl) (by omega) (j := xs.length - 1) (by omega)
  subst ha
  have hcell : ∀ w', Ch Non w2 w' → ∀ q v, (quadE (xs[xs.length - 1]'(by omega)))[q]? = some v → w'.cell? ((a.add ((xs.length - 1) * 4)).add q) = some v := fun w' hc' q v hv => by
    obtain ⟨a', ha', _, _, h⟩ := Rd.elem (sz := 4) (enc := quadE) (hr.keepN hc') (fun _ => rfl) (by omega) (j := xs.length - 1) (by omega)
    injection ha' with ha'
    subst ha'
    exact h q v hv
  have hlast := hI.last (xs[xs.length - 1]'(by omega)) (by rw [List.getLast?_eq_getElem?, List.getElem?_eq_getElem])
  refine ⟨⟨by omega, by omega⟩, ⟨by omega, by omega⟩, _, fun w' h => hcell w' h 2 _ rfl, ⟨by omega, by omega⟩, ⟨by omega, by omega⟩, _, fun w' h => hcell w' h 3 _ rfl, ?_, ?_⟩
  · rw [hlast]
    have := hc.2.2.2.2.2.2.2
    have := from_le hs (okPB_z c)
    rw [wrap_id (by omega) (by omega)]
  · exact ((Ch.alloc e1).andN hc2).andN (Ch.drew e3)
theorem rin_spec (w : World) (n a b : Int) : Calls Tryz.prog i_coadjutorref15_in #[.int .i64 n, .int .i64 a, .int .i64 b] w (Ret fun v w' => v = .bool (decide (a ≤ n ∧ n ≤ b)) ∧ w' = w) := by
  refine coadjutorref15_in.calls _ _ _ ?_
  unfold coadjutorref15_in.vc
  refine ⟨fun h => ⟨?_, rfl⟩, fun h => ⟨?_, rfl⟩⟩
  · have h := of_decide_eq_true h
    congr 1
    by_cases h2 : n ≤ b
    · rw [decide_eq_true h2, decide_eq_true ⟨h, h2⟩]
    · rw [decide_eq_false h2, decide_eq_false (fun k => h2 k.2)]
  · have h := of_decide_eq_false h
    rw [decide_eq_false (fun k => h k.1)]
theorem rGood_spec (w : World) {c : CfD} (hc : okC c) : Calls Tryz.prog i_coadjutorref15_Good #[.agg (cfE c).toArray] w (Ret fun v w' => v = .bool true ∧ Ch Non w w') := by
  have hc' := hc
  obtain ⟨h1, h2, h3, h4, h5, h6, h7, h8⟩ := hc
  refine coadjutorref15_Good.calls _ _ _ _ _ _ ?_
  unfold coadjutorref15_Good.vc
  intro w1 e1
  have hB := Blk.new e1
  have hc1 : Ch Non w w1 := Ch.alloc e1
  refine ⟨_, hB.cell 0 rfl, step_call (rin_spec w1 _ _ _) ?_⟩
  rintro v w2 ⟨rfl, rfl⟩
  rw [decide_eq_true h1]
  refine ⟨_, rfl, iteF rfl ?_⟩
  refine ⟨_, hB.cell 1 rfl, step_call (rin_spec w2 _ _ _) ?_⟩
  rintro v w3 ⟨rfl, rfl⟩
  rw [decide_eq_true h2]
  refine ⟨_, rfl, iteF rfl ?_⟩
  refine ⟨_, hB.cell 2 rfl, step_call (rin_spec w3 _ _ _) ?_⟩
  rintro v w4 ⟨rfl, rfl⟩
  rw [decide_eq_true h3]
  refine ⟨_, rfl, iteF rfl ?_⟩
  refine ⟨_, hB.cell 3 rfl, step_call (rin_spec w4 _ _ _) ?_⟩
  rintro v w5 ⟨rfl, rfl⟩
  rw [decide_eq_true h4]
  refine ⟨_, rfl, iteF rfl ?_⟩
  refine ⟨_, hB.cell 4 rfl, step_call (rin_spec w5 _ _ _) ?_⟩
  rintro v w6 ⟨rfl, rfl⟩
  rw [decide_eq_true h5]
  refine ⟨_, rfl, iteF rfl ?_⟩
  refine ⟨_, hB.cell 5 rfl, step_call (rin_spec w6 _ _ _) ?_⟩
  rintro v w7 ⟨rfl, rfl⟩
  rw [decide_eq_true h6]
  refine ⟨_, rfl, iteF rfl ?_⟩
  refine ⟨_, hB.cell 1 rfl, _, hB.cell 2 rfl, by omega, bT fun _ => ?_, bF fun h => absurd h7 h⟩
  refine ⟨_, _, _, _, _, _, ⟨hB.cell 0 rfl, hB.cell 1 rfl, hB.cell 2 rfl, hB.cell 3 rfl, hB.cell 4 rfl, hB.cell 5 rfl⟩, step_call (rSize_spec w7 hc') ?_⟩
  rintro v w8 ⟨rfl, hc8⟩
  exact ⟨_, rfl, by rw [decide_eq_true h8], hc1.andN hc8⟩
theorem rSide_spec (w : World) {c : CfD} (hc : okC c) (p : Int) : Calls Tryz.prog i_coadjutorref15_Side #[.agg (cfE c).toArray, .int .i64 p] w (Ret fun v w' => v = .tuple #[.int .i64 (side c p).1, .int .i64 (side c p).2] ∧ Ch Non w w') := by
  refine coadjutorref15_Side.calls _ _ _ _ _ _ _ ?_
  unfold coadjutorref15_Side.vc
  intro w1 e1
  have hB := Blk.new e1
  refine ⟨_, _, _, _, _, _, ⟨hB.cell 0 rfl, hB.cell 1 rfl, hB.cell 2 rfl, hB.cell 3 rfl, hB.cell 4 rfl, hB.cell 5 rfl⟩, step_call (rGood_spec w1 hc) ?_⟩
  rintro v w2 ⟨rfl, hc2⟩
  have hB := hB.keepN hc2
  refine ⟨_, rfl, iteF rfl ⟨_, _, _, _, _, _, ⟨hB.cell 0 rfl, hB.cell 1 rfl, hB.cell 2 rfl, hB.cell 3 rfl, hB.cell 4 rfl, hB.cell 5 rfl⟩, step_call (rside_spec w2 c p) ?_⟩⟩
  rintro v w3 ⟨rfl, hc3⟩
  exact ⟨_, _, rfl, rfl, ((Ch.alloc e1).andN hc2).andN hc3⟩
theorem rRange_spec (w : World) {c : CfD} (hc : okC c) {p b : Nat} (h : okPB c p b) : Calls Tryz.prog i_coadjutorref15_Range #[.agg (cfE c).toArray, .int .i64 p, .int .i64 b] w (Ret fun v w' => v = .tuple #[.int .i64 (fromP c p b), .int .i64 (spanN c p 1), .bool true] ∧ Ch Non w w') := by
  refine coadjutorref15_Range.calls _ _ _ _ _ _ _ _ ?_
  unfold coadjutorref15_Range.vc
  intro w1 e1
  have hB := Blk.new e1
  refine ⟨_, _, _, _, _, _, ⟨hB.cell 0 rfl, hB.cell 1 rfl, hB.cell 2 rfl, hB.cell 3 rfl, hB.cell 4 rfl, hB.cell 5 rfl⟩, step_call (rGood_spec w1 hc) ?_⟩
  rintro v w2 ⟨rfl, hc2⟩
  have hB := hB.keepN hc2
  refine ⟨_, rfl, iteF rfl ⟨_, _, _, _, _, _, ⟨hB.cell 0 rfl, hB.cell 1 rfl, hB.cell 2 rfl, hB.cell 3 rfl, hB.cell 4 rfl, hB.cell 5 rfl⟩, step_call (rows_spec w2 hc) ?_⟩⟩
  rintro v w3 ⟨o, cp, xs, B, hBe, rfl, hr, hI, hc3⟩
  have hch : Ch Non w w3 := ((Ch.alloc e1).andN hc2).andN hc3
  have hlen := hI.len
  have hb := hc.2.2.2.1
  have hB5 : B ≤ 5 := by omega
  obtain ⟨x, hx, hx1, hx2⟩ := hI.all p b h (.inl (by
    have := h.2
    unfold bl
    split
    · omega
    · split
      · omega
      · rw [if_neg (by omega)] at this; omega))
  refine ⟨_, _, _, rfl, fun i k w' => w' = w3 ∧ ∃ j : Nat, i = j ∧ j ≤ xs.length ∧ k = xs.length - j ∧ ∀ y ∈ xs.take j, ¬ (y.1 = p ∧ y.2.1 = b), ⟨_, rfl, 0, rfl, Nat.zero_le _, rfl, fun y hy => by simp at hy⟩, ?_⟩
  rintro jk i k w4 ⟨rfl, j, rfl, hj, rfl, hno⟩
  refine ⟨dT fun hlt => ?_, dF fun hge => ?_⟩
  · have hlt : j < xs.length := by omega
    obtain ⟨a, ha, _, _, hcell⟩ := Rd.elem (sz := 4) (enc := quadE) hr (fun _ => rfl) (by omega) hlt
    subst ha
    have hc0 := hcell 0 _ rfl
    rw [add_none] at hc0
    have goes : ¬ (xs[j].1 = p ∧ xs[j].2.1 = b) → ∃ vk_1 : Nat, vk_1 < xs.length - j ∧ w4 = w4 ∧ ∃ j' : Nat, IntKind.i64.wrap ((j : Int) + 1) = j' ∧ j' ≤ xs.length ∧ vk_1 = xs.length - j' ∧ ∀ y ∈ xs.take j', ¬ (y.1 = p ∧ y.2.1 = b) := fun hn =>
      ⟨xs.length - (j + 1), by omega, rfl, j + 1, by rw [wrap_id (by omega) (by omega)]; rfl, hlt, rfl, fun y hy => by
        rw [take_snoc xs j hlt] at hy
        rcases List.mem_append.1 hy with hy | hy
        · exact hno y hy
        · rw [List.mem_singleton] at hy
          subst hy; exact hn⟩
    refine ⟨⟨by omega, by omega⟩, ⟨by omega, by omega⟩, _, hc0, bT fun h1 => ⟨⟨by omega, by omega⟩, ⟨by omega, by omega⟩, _, hcell 1 _ rfl, bT fun h2 => ?_, bF fun h2 => goes (fun k => h2 k.2)⟩, bF fun h1 => goes (fun k => h1 k.1)⟩
    obtain ⟨p', b', hxe, hok⟩ := hI.ok _ (List.getElem_mem hlt)
    have e1 : p' = p := by rw [hxe] at h1; exact Int.ofNat.inj h1
    have e2 : b' = b := by rw [hxe] at h2; exact Int.ofNat.inj h2
    subst e1; subst e2
    refine ⟨fun w' => Ch Non w4 w', fun w5 e5 => ⟨Ch.drew e5, ?_⟩⟩
    have hcell' : ∀ w', Ch Non w4 w' → ∀ q v, (quadE xs[j])[q]? = some v → w'.cell? ((a.add (j * 4)).add q) = some v := fun w' hc' q v hv => by
      obtain ⟨a', ha', _, _, h⟩ := Rd.elem (sz := 4) (enc := quadE) (hr.keepN hc') (fun _ => rfl) (by omega) hlt
      injection ha' with ha'
      subst ha'
      exact h q v hv
    refine ⟨⟨by omega, by omega⟩, ⟨by omega, by omega⟩, _, fun w' h => hcell' w' h 2 _ rfl, ⟨by omega, by omega⟩, ⟨by omega, by omega⟩, _, fun w' h => hcell' w' h 3 _ rfl, ?_, hch.andN (Ch.drew e5)⟩
    rw [hxe]
  · have : j = xs.length := by omega
    subst this
    rw [List.take_length] at hno
    exact absurd ⟨hx1, hx2⟩ (hno x hx)
/-- A model's shape and weights, in the document's form. -/
def mdE (c : CfD) (wt : ByteArray) : Value := .agg (cfE c ++ [Value.string wt]).toArray
theorem rowP_at {c : CfD} {wt : ByteArray} (ok : okC c) (sz : (wt.size : Int) = allN c) {p b : Nat} (hpb : okPB c p b) {q : Nat} (hq : (q : Int) < (side c p).1) :
    (rowP c wt p b q).length = (side c p).2.toNat ∧ (rowP c wt p b q).length ≤ 1000 ∧ 0 ≤ fromP c p b ∧ fromP c p b ≤ 1000000 ∧ (q : Int) * (side c p).2 ≤ 1000000 ∧ 0 ≤ (q : Int) * (side c p).2 ∧ (side c p).2 ≤ spanN c p 1 ∧ 0 ≤ (side c p).2 ∧
    ∀ (i : Nat) (hi : i < (rowP c wt p b q).length), fromP c p b + q * (side c p).2 + i < wt.size ∧ (rowP c wt p b q)[i] = (if bt wt (fromP c p b + q * (side c p).2 + i) > 127 then bt wt (fromP c p b + q * (side c p).2 + i) - 256 else bt wt (fromP c p b + q * (side c p).2 + i)) ∧ 0 ≤ bt wt (fromP c p b + q * (side c p).2 + i) ∧ bt wt (fromP c p b + q * (side c p).2 + i) ≤ 255 := by
  have hlen := row_len ok sz hpb hq
  have hs := ok.small
  have hle := from_le hs hpb
  have hsd := side_le hs p
  have hspan : spanN c p 1 = (side c p).1 * (side c p).2 := span1 c p
  obtain ⟨R, hR⟩ := Int.eq_ofNat_of_zero_le hsd.1.1
  obtain ⟨C, hC⟩ := Int.eq_ofNat_of_zero_le hsd.2.1
  obtain ⟨F, hF⟩ := Int.eq_ofNat_of_zero_le hle.1
  have hq' : q < R := by omega
  have hmul : (q + 1) * C ≤ R * C := Nat.mul_le_mul_right _ hq'
  rw [Nat.add_mul, Nat.one_mul] at hmul
  have hRC : ((R * C : Nat) : Int) = spanN c p 1 := by rw [hspan, hR, hC, Int.natCast_mul]
  have hqC : ((q * C : Nat) : Int) = (q : Int) * (C : Int) := Int.natCast_mul _ _
  rw [hC] at hlen ⊢
  rw [Int.toNat_natCast] at hlen
  rw [hF] at hle ⊢
  refine ⟨by rw [hlen]; rfl, by omega, by omega, by omega, by omega, by omega, by omega, by omega, fun i hi => ?_⟩
  have hidx : (F : Int) + (q : Int) * (C : Int) + (i : Int) = ((F + q * C + i : Nat) : Int) := by omega
  rw [hidx]
  have hlt : F + q * C + i < wt.size := by omega
  have hg := tab_good ok sz hpb
  have hrow : rowP c wt p b q = Vecs.rowAt (tabP c wt p b) C q := by
    unfold rowP Vecs.rowT
    rw [hg, decide_eq_true (show 0 ≤ (q : Int) ∧ (q : Int) < (side c p).1 by omega), hC]; rfl
  have hbt : bt wt ((F + q * C + i : Nat) : Int) = ((wt.data[F + q * C + i]'hlt).toNat : Int) := by
    unfold bt
    rw [Int.toNat_natCast]
    have hlt' : F + q * C + i < wt.data.size := hlt
    unfold Array.getD
    rw [dif_pos hlt']
    rfl
  have hu := (wt.data[F + q * C + i]'hlt).toNat_lt
  refine ⟨by omega, ?_, by rw [hbt]; omega, by rw [hbt]; omega⟩
  have hval : (rowP c wt p b q)[i]? = some (IntKind.i8.wrap ((wt.data[F + q * C + i]'hlt).toNat : Int)) := by
    rw [hrow]
    unfold Vecs.rowAt tabP Vecs.numsB
    rw [List.getElem?_take, if_pos (by omega), List.getElem?_drop, List.getElem?_map]
    rw [hF, show ((F : Int)).toNat = F from Int.toNat_natCast F, ByteArray.data_extract, Array.toList_extract, List.extract_eq_take_drop, List.getElem?_take, if_pos (by omega), List.getElem?_drop, show F + (q * C + i) = F + q * C + i by omega]
    rw [Array.getElem?_toList, Array.getElem?_eq_getElem hlt]
    rfl
  rw [List.getElem?_eq_getElem hi] at hval
  injection hval with hval
  rw [hval, hbt]
  generalize (wt.data[F + q * C + i]'hlt).toNat = u at hu ⊢
  unfold IntKind.wrap
  simp [IntKind.bits, IntKind.signed]
  split <;> (try split) <;> omega
theorem rRow_spec (w : World) {c : CfD} {wt : ByteArray} (ok : okC c) (sz : (wt.size : Int) = allN c) {p b : Nat} (hpb : okPB c p b) {q : Nat} (hq : (q : Int) < (side c p).1) : Calls Tryz.prog i_coadjutorref16_Row #[mdE c wt, .int .i64 p, .int .i64 b, .int .i64 q] w (Ret fun v w' => ∃ (o : Option Addr) (cp : Nat), v = .tuple #[.slice o (rowP c wt p b q).length cp, .bool true] ∧ Gr Non w w' t_int 1 o (rowP c wt p b q).length cp ((rowP c wt p b q).map (.int .i64))) := by
  obtain ⟨r1, r2, r3, r4, r5, r6, r7, r8, r9⟩ := rowP_at ok sz hpb hq
  have hs := ok.small
  have hle := from_le hs hpb
  generalize rowP c wt p b q = L at *
  refine coadjutorref16_Row.calls _ _ _ _ _ _ _ _ _ _ ?_
  unfold coadjutorref16_Row.vc
  intro w1 e1
  have hB := Blk.new e1
  have hc1 : Ch Non w w1 := Ch.alloc e1
  refine ⟨_, _, _, _, _, _, ⟨hB.cell 0 rfl, hB.cell 1 rfl, hB.cell 2 rfl, hB.cell 3 rfl, hB.cell 4 rfl, hB.cell 5 rfl⟩, step_call (rRange_spec w1 ok hpb) ?_⟩
  rintro v w2 ⟨rfl, hc2⟩
  have hB := hB.keepN hc2
  refine ⟨_, _, _, rfl, _, _, _, _, _, _, ⟨hB.cell 0 rfl, hB.cell 1 rfl, hB.cell 2 rfl, hB.cell 3 rfl, hB.cell 4 rfl, hB.cell 5 rfl⟩, step_call (rSide_spec w2 ok p) ?_⟩
  rintro v w3 ⟨rfl, hc3⟩
  have hB := hB.keepN hc3
  refine ⟨_, _, rfl, fun w4 e4 => iteF rfl (iteF (decide_eq_false (by omega)) (iteF (decide_eq_false (by omega)) ?_))⟩
  have h13 := (hc1.andN hc2).andN hc3
  have g0 : Gr Non w3 w4 t_int 1 (some ⟨w3.heap.size, 0, none⟩) 0 0 [] := Gr.made0 (Ch.refl _ _) e4
  refine ⟨fun o n cp i k w' => ∃ j : Nat, i = j ∧ n = j ∧ j ≤ L.length ∧ k = L.length - j ∧ Gr Non w3 w' t_int 1 o j cp ((L.take j).map (.int .i64)), ⟨_, 0, rfl, rfl, Nat.zero_le _, rfl, g0⟩, ?_⟩
  rintro jk o n cp i k w5 ⟨j, rfl, rfl, hj, rfl, hg⟩
  have hB5 := hB.keepN hg.2
  refine ⟨dT fun hlt => ⟨dT fun hlt2 => ?_, dF fun h => by omega⟩, dF fun hge => ?_⟩
  · have hlt : n < L.length := by omega
    obtain ⟨a1, a2, a3, a4⟩ := r9 n hlt
    have hw : IntKind.i64.wrap (IntKind.i64.wrap (fromP c p b + IntKind.i64.wrap ((q : Int) * (side c p).2)) + (n : Int)) = fromP c p b + q * (side c p).2 + n := by
      rw [wrap_id (x := (q : Int) * (side c p).2) (by omega) (by omega), wrap_id (x := fromP c p b + (q : Int) * (side c p).2) (by omega) (by omega), wrap_id (by omega) (by omega)]
    refine ⟨_, hB5.cell 6 rfl, ?_⟩
    rw [hw, wrap_id (x := bt wt _) (by omega) (by omega)]
    refine ⟨⟨by omega, a1⟩, dT fun hg7 => ?_, dF fun hg7 => ?_⟩
    · intro w6 e6
      rw [if_pos hg7] at a2
      rw [wrap_id (by omega) (by omega)] at e6
      obtain ⟨o', c', w7, hr, hg7, _⟩ := hg.next (enc := (.int .i64 : Int → Value)) (L := L) el_S_int t_S_int hlt (by omega) e6 (by rw [a2]) rfl (by omega)
      exact ⟨_, _, _, _, hr, L.length - (n + 1), by omega, n + 1, by rw [wrap_id (by omega) (by omega)]; rfl, rfl, hlt, rfl, hg7⟩
    · intro w6 e6
      rw [if_neg hg7] at a2
      obtain ⟨o', c', w7, hr, hg7, _⟩ := hg.next (enc := (.int .i64 : Int → Value)) (L := L) el_S_int t_S_int hlt (by omega) e6 (by rw [a2]) rfl (by omega)
      exact ⟨_, _, _, _, hr, L.length - (n + 1), by omega, n + 1, by rw [wrap_id (by omega) (by omega)]; rfl, rfl, hlt, rfl, hg7⟩
  · have : n = L.length := by omega
    subst this
    rw [List.take_length] at hg
    have hsz := h13.size
    exact ⟨_, _, rfl, hg.1.mono (fun i _ hi => ⟨by have := hi.1; omega, hi.2⟩), h13.andN hg.2⟩
end Go.Proofs.YtbadkcnemcnhfaaGreatDoor.RefM
