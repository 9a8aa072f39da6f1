import Derived.Test.YtkbikekbaboclaaGreatRun
set_option linter.unusedVariables false
set_option linter.unusedSimpArgs false
namespace Go.Proofs.YtkbikekbaboclaaGreat.Gen
open Go Go.Proofs V Vc Conf Brain Num Stp Go.RowKit
def sayG (c : CfD) (wt : ByteArray) (tk : Nat → List Int → Int) : Nat → Nat → List Ent → List Int → List Int
 | 0, _, _, _ => []
 | f + 1, at', past, sc => if tk at' sc = 0 then [] else tk at' sc :: sayG c wt tk f (at' + 1) (past ++ [stepE c wt past (tk at' sc)]) (stepL c wt past (tk at' sc))
def checkP (c : CfD) (most : Int) (prompt : List Int) : Int :=
 if prompt = [] ∨ most < 1 ∨ most > 32 then 1 else if ¬ ∀ t ∈ prompt, 0 ≤ t ∧ t < c.vocab then 3 else if (prompt.length : Int) + most > c.context then 12 else 0
theorem checkP_ok {c : CfD} {most : Int} {prompt : List Int} (h : checkP c most prompt = 0) : prompt ≠ [] ∧ 1 ≤ most ∧ most ≤ 32 ∧ (∀ t ∈ prompt, tokOk c t) ∧ (prompt.length : Int) + most ≤ c.context := by
 unfold checkP at h
 split at h
 ·cases h
 ·rename_i h1
  split at h
  ·cases h
  ·rename_i h2
   split at h
   ·cases h
   ·rename_i h3
    exact ⟨fun e => h1 (.inl e), by omega, by omega, Classical.not_not.1 h2, by omega⟩
def sayP (c : CfD) (wt : ByteArray) (tk : Nat → List Int → Int) (most : Int) (prompt : List Int) : List Int := sayG c wt tk most.toNat 0 (runE c wt [] prompt) (runS c wt [] [] prompt)
def nextI (draw : Int) (sc : List Int) : Int := max (Soft.chooseI draw (Soft.weightsL sc)) 0
def drawT (draws : List Int) (at' : Nat) (sc : List Int) : Int := nextI (draws.getD at' 0) sc
def tkOk (tk : Nat → List Int → Int) : Prop := ∀ at' sc, sc ≠ [] → 0 ≤ tk at' sc ∧ tk at' sc < sc.length
theorem pick_le : ∀ (ws : List Int) (rest : Int) (i : Nat), Soft.pick rest ws i = -1 ∨ ((i : Int) ≤ Soft.pick rest ws i ∧ Soft.pick rest ws i < i + ws.length)
 | [], rest, i => .inl rfl
 | n :: r, rest, i => by
  unfold Soft.pick
  split
  ·right; rw [List.length_cons]; omega
  ·rcases pick_le r (rest - n) (i + 1) with h | h
   ·exact .inl h
   ·right; rw [List.length_cons]; omega
theorem weights_len (sc : List Int) : (Soft.weightsL sc).length = sc.length := by unfold Soft.weightsL; rw [List.length_map]
theorem next_ok {draw : Int} {sc : List Int} (h : sc ≠ []) : 0 ≤ nextI draw sc ∧ nextI draw sc < sc.length := by
 have hl : 0 < sc.length := List.length_pos_iff.2 h
 unfold nextI
 have hc : Soft.chooseI draw (Soft.weightsL sc) = -1 ∨ (0 ≤ Soft.chooseI draw (Soft.weightsL sc) ∧ Soft.chooseI draw (Soft.weightsL sc) < sc.length) := by
  unfold Soft.chooseI
  split
  ·exact .inl rfl
  ·split
   ·exact .inl rfl
   ·have := pick_le (Soft.weightsL sc) (draw % (Soft.weightsL sc).sum) 0
    rw [weights_len] at this
    rcases this with h | h
    ·exact .inl h
    ·right; omega
 omega
theorem drawT_ok (draws : List Int) : tkOk (drawT draws) := fun at' sc h => next_ok h
section
variable {c : CfD} {wt : ByteArray} {tk tk' : Nat → List Int → Int} {past : List Ent} {sc : List Int}
theorem sayG_len : ∀ (f a : Nat) (past : List Ent) (sc : List Int), (sayG c wt tk f a past sc).length ≤ f
 | 0, _, _, _ => Nat.le_refl _
 | f + 1, a, past, sc => by
  unfold sayG
  split
  ·simp
  ·rw [List.length_cons]
   have := sayG_len f (a + 1) (past ++ [stepE c wt past (tk a sc)]) (stepL c wt past (tk a sc)); omega
theorem sayG_drop : ∀ (k f a : Nat) (past : List Ent) (sc : List Int), k ≤ (sayG c wt tk f a past sc).length → sayG c wt tk (f - k) (a + k) (runE c wt past ((sayG c wt tk f a past sc).take k)) (runS c wt past sc ((sayG c wt tk f a past sc).take k)) = (sayG c wt tk f a past sc).drop k
 | 0, f, a, past, sc, _ => by rw [List.take_zero, List.drop_zero]; rfl
 | k + 1, 0, a, past, sc, h => by simp [sayG] at h
 | k + 1, f + 1, a, past, sc, h => by
  by_cases h0 : tk a sc = 0
  ·rw [sayG, if_pos h0] at h; simp at h
  ·have e : sayG c wt tk (f + 1) a past sc = tk a sc :: sayG c wt tk f (a + 1) (past ++ [stepE c wt past (tk a sc)]) (stepL c wt past (tk a sc)) := by rw [sayG, if_neg h0]
   rw [e] at h ⊢
   rw [List.length_cons] at h
   rw [List.take_succ_cons, List.drop_succ_cons, runE, Stp.runS, Nat.add_sub_add_right, show a + (k + 1) = a + 1 + k by omega]
   exact sayG_drop k f (a + 1) _ _ (by omega)
theorem stepL_len (past : List Ent) (t : Int) : (stepL c wt past t).length = c.vocab.toNat := by unfold stepL scoresP; rw [List.length_map, List.length_range]
theorem runS_len {ts : List Int} (h : ts ≠ []) : (runS c wt past sc ts).length = c.vocab.toNat := by
 have : ∀ (ts : List Int) (past : List Ent) (sc : List Int), ts ≠ [] ∨ sc.length = c.vocab.toNat → (runS c wt past sc ts).length = c.vocab.toNat := by
  intro ts
  induction ts with
  | nil => intro past sc h; exact h.resolve_left (fun k => k rfl)
  | cons t r ih => intro past sc _; exact ih _ _ (.inr (stepL_len _ _))
 exact this ts past sc (.inl h)
theorem sayG_tok (hv : 0 < c.vocab) (ht : tkOk tk) : ∀ (f a : Nat) (past : List Ent) (sc : List Int), sc.length = c.vocab.toNat → ∀ t ∈ sayG c wt tk f a past sc, 0 < t ∧ t < c.vocab
 | 0, _, _, _, _, t, h => by cases h
 | f + 1, a, past, sc, hs, t, h => by
  have hne : sc ≠ [] := fun e => by rw [e] at hs; simp at hs; omega
  have := ht a sc hne
  unfold sayG at h
  split at h
  ·cases h
  ·rename_i h0
   rcases List.mem_cons.1 h with rfl | h
   ·omega
   ·exact sayG_tok hv ht f _ _ _ (stepL_len _ _) t h
end
end Go.Proofs.YtkbikekbaboclaaGreat.Gen
