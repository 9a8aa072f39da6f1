/- For every two rows of weights: sums over the parts are sums over all, in plain Lean. -/
import Derived.Test.YtbadkcnemcnhfaaGreatDoorLensD
set_option linter.unusedVariables false
set_option linter.unusedSimpArgs false
namespace Go.Proofs.YtbadkcnemcnhfaaGreatDoor.Lens
open Go Go.Proofs Go.Proofs.YtbadkcnemcnhfaaGreatDoor.V Go.Proofs.YtbadkcnemcnhfaaGreatDoor.Vc Go.Proofs.YtbadkcnemcnhfaaGreatDoor.Conf Go.Proofs.YtbadkcnemcnhfaaGreatDoor.Brain Go.Proofs.YtbadkcnemcnhfaaGreatDoor.Num Go.RowKit

/-- Ranges that follow each other. -/
def contig : Int → List (Int × Int) → Int → Prop
  | s, [], e => s = e
  | s, x :: r, e => x.1 = s ∧ 0 ≤ x.2 ∧ contig (s + x.2) r e
theorem contig.app : ∀ {a : List (Int × Int)} {b : List (Int × Int)} {s m e : Int}, contig s a m → contig m b e → contig s (a ++ b) e
  | [], b, s, m, e, h, k => by
    have h : s = m := h
    subst h; exact k
  | x :: r, b, s, m, e, h, k => ⟨h.1, h.2.1, contig.app h.2.2 k⟩
theorem contig.le : ∀ {a : List (Int × Int)} {s e : Int}, contig s a e → s ≤ e
  | [], s, e, h => Int.le_of_eq h
  | x :: r, s, e, h => by have := contig.le h.2.2; have := h.2.1; omega
def segOf (l : List Int) (x : Int × Int) : List Int := (l.drop x.1.toNat).take x.2.toNat
structure Additive (φ : List Int → List Int → Int) : Prop where
  nil : φ [] [] = 0
  app : ∀ a b c d : List Int, a.length = c.length → φ (a ++ b) (c ++ d) = φ a c + φ b d
theorem contig_sum {φ : List Int → List Int → Int} (hφ : Additive φ) {xs ys : List Int} (hl : xs.length = ys.length) : ∀ {a : List (Int × Int)} {s e : Int}, 0 ≤ s → e ≤ xs.length → contig s a e → (a.map fun x => φ (segOf xs x) (segOf ys x)).sum = φ (segOf xs (s, e - s)) (segOf ys (s, e - s))
  | [], s, e, h0, he, h => by
    have h : s = e := h
    subst h
    unfold segOf
    rw [show (s - s).toNat = 0 by omega, List.take_zero, List.take_zero, hφ.nil]
    rfl
  | x :: r, s, e, h0, he, h => by
    obtain ⟨h1, h2, h3⟩ := h
    have ih := contig_sum hφ hl (by omega) he h3
    have hle := contig.le h3
    rw [List.map_cons, List.sum_cons, ih]
    have hx : x = (s, x.2) := Prod.ext h1 rfl
    have split : ∀ l : List Int, segOf l (s, e - s) = segOf l x ++ segOf l (s + x.2, e - (s + x.2)) := fun l => by
      rw [hx]
      unfold segOf
      show (l.drop s.toNat).take (e - s).toNat = (l.drop s.toNat).take x.2.toNat ++ (l.drop (s + x.2).toNat).take (e - (s + x.2)).toNat
      rw [show (e - s).toNat = x.2.toNat + (e - (s + x.2)).toNat by omega, List.take_add, List.drop_drop, show s.toNat + x.2.toNat = (s + x.2).toNat by omega]
    rw [split xs, split ys, hφ.app _ _ _ _ (by unfold segOf; rw [List.length_take, List.length_take, List.length_drop, List.length_drop, hl])]
theorem sumD_add : Additive sumD := ⟨rfl, fun a b c d h => by unfold sumD; rw [List.zipWith_append h, List.sum_append]⟩
theorem countD_add : Additive countD := ⟨rfl, fun a b c d h => by unfold countD; rw [List.zipWith_append h, List.map_append, List.sum_append]⟩
section
variable {c : CfD} {wa wb : ByteArray}
def segC (c : CfD) (x : Nat × Nat) : Int × Int := (fromP c x.1 x.2, spanN c x.1 1)
theorem contig_block (hc : okC c) (b : Nat) : ∀ i : Nat, i ≤ 9 → contig (spanN c 0 2 + b * spanN c 2 9) (((List.range i).map fun i => (i + 2, b)).map (segC c)) (spanN c 0 2 + b * spanN c 2 9 + spanN c 2 i)
  | 0, _ => by show _ = _ + spanN c 2 0; show _ = _ + (0 : Int); omega
  | i + 1, hi => by
    have ih := contig_block hc b i (by omega)
    rw [List.range_succ, List.map_append, List.map_append]
    refine ih.app ⟨?_, (span_le hc.small _ 1).1, ?_⟩
    · show fromP c (i + 2) b = _
      unfold fromP
      rw [if_neg (by omega), if_neg (by omega), show i + 2 - 2 = i by omega]
    · show _ + spanN c (i + 2) 1 = _ + spanN c 2 (i + 1)
      have e1 := span1 c (i + 2)
      have e2 : spanN c 2 (i + 1) = spanN c 2 i + Conf.part c ((i + 2 : Nat) : Int) := by
        show spanN c 2 i + Conf.part c _ = _
        congr 2; omega
      rw [e1, e2]; omega
theorem contig_to (hc : okC c) : ∀ n : Nat, (n : Int) ≤ c.blocks → contig 0 ((placesTo n).map (segC c)) (spanN c 0 2 + n * spanN c 2 9)
  | 0, _ => by
    refine ⟨rfl, (span_le hc.small 0 1).1, ?_, (span_le hc.small 1 1).1, ?_⟩
    · show fromP c 1 0 = 0 + spanN c 0 1
      unfold fromP; rw [if_pos (by omega)]; omega
    · show 0 + spanN c 0 1 + spanN c 1 1 = spanN c 0 2 + ((0 : Nat) : Int) * _
      have e1 := span1 c 1
      have e2 : spanN c 0 2 = spanN c 0 1 + Conf.part c ((1 : Nat) : Int) := rfl
      rw [e1, e2]; simp
  | n + 1, hn => by
    rw [placesTo, List.map_append]
    refine (contig_to hc n (by omega)).app ?_
    have := contig_block hc n 9 (Nat.le_refl _)
    have e : spanN c 0 2 + ((n + 1 : Nat) : Int) * spanN c 2 9 = spanN c 0 2 + (n : Int) * spanN c 2 9 + spanN c 2 9 := by
      rw [show ((n + 1 : Nat) : Int) = (n : Int) + 1 by omega, Int.add_mul]; omega
    rw [e]
    exact this
theorem contig_all (hc : okC c) : contig 0 ((placesL c.blocks.toNat).map (segC c)) (allN c) := by
  have hb := hc.2.2.2.1
  have hbt : ((c.blocks.toNat : Nat) : Int) = c.blocks := by omega
  unfold placesL
  rw [List.map_append]
  have h := contig_to hc c.blocks.toNat (by omega)
  rw [hbt] at h
  refine h.app ⟨?_, (span_le hc.small 11 1).1, ?_⟩
  · show fromP c 11 0 = _
    unfold fromP allN; rw [if_neg (by omega), if_pos rfl]; omega
  · show _ + spanN c 11 1 = allN c
    unfold allN; rfl
theorem tab_seg (hc : okC c) (hs : (wa.size : Int) = allN c) {x : Nat × Nat} (hx : okPB c x.1 x.2) : tabP c wa x.1 x.2 = segOf (Vecs.numsB wa) (segC c x) := by
  have hle := from_le hc.small hx
  unfold tabP segOf segC Vecs.numsB
  show _ = ((wa.data.toList.map _).drop (fromP c x.1 x.2).toNat).take (spanN c x.1 1).toNat
  rw [ByteArray.data_extract, Array.toList_extract, List.extract_eq_take_drop, ← List.map_drop, ← List.map_take, show (fromP c x.1 x.2 + spanN c x.1 1).toNat - (fromP c x.1 x.2).toNat = (spanN c x.1 1).toNat by omega]
/-- The sum over all places is the sum over all weights. -/
theorem places_sum {φ : List Int → List Int → Int} (hφ : Additive φ) (hc : okC c) (ha : (wa.size : Int) = allN c) (hb : (wb.size : Int) = allN c) : ((placesL c.blocks.toNat).map fun x => φ (tabP c wa x.1 x.2) (tabP c wb x.1 x.2)).sum = φ (Vecs.numsB wa) (Vecs.numsB wb) := by
  have hla := Vecs.numsB_len wa
  have hlb := Vecs.numsB_len wb
  have h := contig_sum hφ (xs := Vecs.numsB wa) (ys := Vecs.numsB wb) (by omega) (Int.le_refl 0) (by omega) (contig_all hc)
  rw [List.map_map] at h
  have hw : ∀ l : List Int, (l.length : Int) = allN c → segOf l (0, allN c - 0) = l := fun l hl => by
    unfold segOf
    show (l.drop (0 : Int).toNat).take (allN c - 0).toNat = l
    rw [show (0 : Int).toNat = 0 from rfl, List.drop_zero, List.take_of_length_le (by omega)]
  rw [hw _ (by omega), hw _ (by omega)] at h
  rw [← h]
  congr 1
  refine List.map_congr_left fun x hx => ?_
  have hok := places_ok hc x hx
  rw [tab_seg hc ha hok, tab_seg hc hb hok]
  rfl
end
theorem count_sum_le : ∀ (xs ys : List Int), bytesOk xs → bytesOk ys → countD xs ys ≤ sumD xs ys ∧ sumD xs ys ≤ 255 * countD xs ys ∧ mostD xs ys ≤ sumD xs ys ∧ mostD xs ys ≤ 255 ∧ (countD xs ys > 0 → 1 ≤ mostD xs ys) := by
  have key : ∀ l : List Int, (∀ d ∈ l, 0 ≤ d ∧ d ≤ 255) → ∀ m : Int, 0 ≤ m → m ≤ 255 → (l.map isD).sum ≤ l.sum ∧ l.sum ≤ 255 * (l.map isD).sum ∧ l.foldl max m ≤ m + l.sum ∧ l.foldl max m ≤ 255 ∧ 0 ≤ (l.map isD).sum ∧ (((l.map isD).sum > 0 ∨ 1 ≤ m) → 1 ≤ l.foldl max m) := by
    intro l
    induction l with
    | nil => intro _ m h0 h1; simp; omega
    | cons d l ih =>
      intro hd m h0 h1
      have hd0 := hd d List.mem_cons_self
      obtain ⟨i1, i2, i3, i4, i5, i6⟩ := ih (fun z hz => hd z (List.mem_cons_of_mem _ hz)) (max m d) (by omega) (by omega)
      rw [List.map_cons, List.sum_cons, List.sum_cons, List.foldl_cons]
      have hi : isD d = if d > 0 then 1 else 0 := rfl
      refine ⟨by rw [hi]; split <;> omega, by rw [hi]; split <;> omega, by omega, i4, by rw [hi]; split <;> omega, fun h => i6 ?_⟩
      rw [hi] at h
      split at h <;> omega
  intro xs ys h1 h2
  have hz : ∀ (xs ys : List Int), bytesOk xs → bytesOk ys → ∀ d ∈ List.zipWith apartI xs ys, 0 ≤ d ∧ d ≤ 255 := by
    intro xs
    induction xs with
    | nil => intro ys _ _ d hd; cases hd
    | cons x xs ih =>
      intro ys h1 h2 d hd
      cases ys with
      | nil => cases hd
      | cons y ys =>
        rw [List.zipWith_cons_cons] at hd
        rcases List.mem_cons.1 hd with rfl | hd
        · exact apart_le (h1 x List.mem_cons_self) (h2 y List.mem_cons_self)
        · exact ih ys (fun z hz => h1 z (List.mem_cons_of_mem _ hz)) (fun z hz => h2 z (List.mem_cons_of_mem _ hz)) d hd
  obtain ⟨i1, i2, i3, i4, i5, i6⟩ := key _ (hz xs ys h1 h2) 0 (Int.le_refl _) (by omega)
  unfold countD sumD mostD
  exact ⟨i1, i2, by omega, i4, fun h => i6 (.inl h)⟩
end Go.Proofs.YtbadkcnemcnhfaaGreatDoor.Lens
