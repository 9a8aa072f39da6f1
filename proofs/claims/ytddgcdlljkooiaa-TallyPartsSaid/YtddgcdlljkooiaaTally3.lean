/- For every tally of the model: what the document's own counting, a total, a kind's counts and the laws' helpers answer; the conditions stand in each theorem. -/
import Derived.Test.YtddgcdlljkooiaaTally2
import Derived.Test.YtddgcdlljkooiaaVcTallyL
set_option linter.unusedVariables false
set_option linter.unusedSimpArgs false
namespace Go.Proofs.Ytddgcdlljkooiaa.Tally
open Go Go.Proofs Go.Proofs.Ytddgcdlljkooiaa.V Go.Proofs.Ytddgcdlljkooiaa.Vc Go.RowKit

theorem kindP_eq {k j : Int} (hj : 1 ≤ j ∧ j ≤ 13) : (kindP k == j) = (k == j) := by
  unfold kindP
  by_cases h : k = j
  · subst h; rw [if_pos hj]
  · have h2 : (k == j) = false := by simpa using h
    rw [h2]
    split
    · exact h2
    · have : (0 : Int) ≠ j := by omega
      simpa using this
theorem RefAdd_spec {w : World} {t n : List Int} (ht : t.length = 32) (kind e : Int) {o : Option Addr} {G : Nat → Prop} (hn : Rd w o (n.map iv) G) (hG : ∀ i, G i → i < w.heap.size) (c : Nat) (oo : Option Addr) (on oc : Nat) :
    Calls Try.prog i_coadjutorref37_Add #[.agg (t.map iv).toArray, .int .i64 kind, .int .i64 e, .slice o n.length c, .slice oo on oc] w (Ret fun v w' => v = .agg ((addT t kind e n on).map iv).toArray ∧ Ch Non w w') := by
  rw [← agg32 ht]
  refine coadjutorref37_Add.calls _ _ _ _ _ _ _ _ _ _ _ _ _ _ _ _ _ _ _ _ _ _ _ _ _ _ _ _ _ _ _ _ _ _ _ _ _ _ _ _ ?_
  unfold coadjutorref37_Add.vc
  intro w1 e1 w2 e2
  have hT2 := (new32 ht e1).alloc e2
  have hR2 := newz e2
  have s1 : w.heap.size < w1.heap.size := (new32 ht e1).lt
  have s2 : w1.heap.size < w2.heap.size := hR2.lt
  have hc2 : Ch Non w w2 := (Ch.alloc e1).andN (Ch.alloc e2)
  clear e1 e2
  generalize ht' : w.heap.size = tb at hT2 s1 hG ⊢
  generalize hr' : w1.heap.size = rb at hR2 s1 s2 ⊢
  refine step_call (RefKind_spec w2 kind) ?_
  rintro v w3 ⟨rfl, hc3⟩
  have hT3 := hT2.keepN hc3
  have hR3 := hR2.keepN hc3
  have hc03 := hc2.andN hc3
  have hn3 := hn.keepN hc03
  obtain ⟨k0, k1⟩ := kindP_at kind
  have hw1 : IntKind.i64.wrap (2 * kindP kind) = 2 * kindP kind := wrap_id (by omega) (by omega)
  have hw2 : IntKind.i64.wrap (2 * kindP kind + 1) = 2 * kindP kind + 1 := wrap_id (by omega) (by omega)
  have hi1 : (2 * kindP kind).toNat * 1 = 2 * (kindP kind).toNat := by omega
  have hi2 : (2 * kindP kind + 1).toNat * 1 = 2 * (kindP kind).toNat + 1 := by omega
  refine ⟨_, rfl, ?_⟩
  rw [hw1, hw2, hi1, hi2, add_at, add_at, Nat.zero_add, Nat.zero_add]
  refine ⟨⟨by omega, by omega⟩, _, cT hT3 _ (by omega), ⟨by omega, by omega⟩, okT hT3 _ (by omega), fun w4 e4 => ?_⟩
  have hT4 := setT hT3 e4
  have hc4 : Ch (· = tb) w3 w4 := chT e4
  have hR4 := hR3.keep hc4 (by omega)
  have hn4 := hn3.keep hc4 (fun i _ hi he => by have := hG i hi; omega)
  have hc04 : Ch (· = tb) w w4 := (hc03.any (F := (· = tb))).same hc4
  have hb : t.set (2 * (kindP kind).toNat) (IntKind.i64.wrap (g t (2 * (kindP kind).toNat) + 1)) = bump t (2 * (kindP kind).toNat) 1 := rfl
  rw [hb] at hT4
  have hl4 : (bump t (2 * (kindP kind).toNat) 1).length = 32 := by rw [bump_len]; exact ht
  have hadd : addT t kind e n on = if e ≠ 0 then bump (bump t (2 * (kindP kind).toNat) 1) (2 * (kindP kind).toNat + 1) 1 else if kind = 5 then pickT (bump t (2 * (kindP kind).toNat) 1) n else if kind = 2 then bump (bump t (2 * (kindP kind).toNat) 1) 29 1 else if kind = 3 then bump (bump t (2 * (kindP kind).toNat) 1) 30 on else bump t (2 * (kindP kind).toNat) 1 := rfl
  rw [hadd]
  generalize bump t (2 * (kindP kind).toNat) 1 = t1 at hT4 hl4
  have hRl : z32.length = 32 := rfl
  refine ⟨fun he => ?_, fun he => ?_⟩
  · have he : e ≠ 0 := by simpa using he
    rw [if_pos he]
    refine ⟨⟨by omega, by omega⟩, _, cT hT4 _ (by omega), ⟨by omega, by omega⟩, okT hT4 _ (by omega), fun w5 e5 => ?_⟩
    have hT := setT hT4 e5
    have hc5 : Ch (· = tb) w4 w5 := chT e5
    have hR := hR4.keep hc5 (by omega)
    have hTl : (t1.set (2 * (kindP kind).toNat + 1) (IntKind.i64.wrap (g t1 (2 * (kindP kind).toNat + 1) + 1))).length = 32 := by rw [List.length_set]; exact hl4
    refine ⟨_, _, _, _, _, _, _, _, _, _, _, _, _, _, _, _, _, _, _, _, _, _, _, _, _, _, _, _, _, _, _, _, ⟨cT hT 0 (by rw [hTl]; decide), cT hT 1 (by rw [hTl]; decide), cT hT 2 (by rw [hTl]; decide), cT hT 3 (by rw [hTl]; decide), cT hT 4 (by rw [hTl]; decide), cT hT 5 (by rw [hTl]; decide), cT hT 6 (by rw [hTl]; decide), cT hT 7 (by rw [hTl]; decide), cT hT 8 (by rw [hTl]; decide), cT hT 9 (by rw [hTl]; decide), cT hT 10 (by rw [hTl]; decide), cT hT 11 (by rw [hTl]; decide), cT hT 12 (by rw [hTl]; decide), cT hT 13 (by rw [hTl]; decide), cT hT 14 (by rw [hTl]; decide), cT hT 15 (by rw [hTl]; decide), cT hT 16 (by rw [hTl]; decide), cT hT 17 (by rw [hTl]; decide), cT hT 18 (by rw [hTl]; decide), cT hT 19 (by rw [hTl]; decide), cT hT 20 (by rw [hTl]; decide), cT hT 21 (by rw [hTl]; decide), cT hT 22 (by rw [hTl]; decide), cT hT 23 (by rw [hTl]; decide), cT hT 24 (by rw [hTl]; decide), cT hT 25 (by rw [hTl]; decide), cT hT 26 (by rw [hTl]; decide), cT hT 27 (by rw [hTl]; decide), cT hT 28 (by rw [hTl]; decide), cT hT 29 (by rw [hTl]; decide), cT hT 30 (by rw [hTl]; decide), cT hT 31 (by rw [hTl]; decide)⟩, ⟨okT hR 0 (by rw [hRl]; decide), okT hR 1 (by rw [hRl]; decide), okT hR 2 (by rw [hRl]; decide), okT hR 3 (by rw [hRl]; decide), okT hR 4 (by rw [hRl]; decide), okT hR 5 (by rw [hRl]; decide), okT hR 6 (by rw [hRl]; decide), okT hR 7 (by rw [hRl]; decide), okT hR 8 (by rw [hRl]; decide), okT hR 9 (by rw [hRl]; decide), okT hR 10 (by rw [hRl]; decide), okT hR 11 (by rw [hRl]; decide), okT hR 12 (by rw [hRl]; decide), okT hR 13 (by rw [hRl]; decide), okT hR 14 (by rw [hRl]; decide), okT hR 15 (by rw [hRl]; decide), okT hR 16 (by rw [hRl]; decide), okT hR 17 (by rw [hRl]; decide), okT hR 18 (by rw [hRl]; decide), okT hR 19 (by rw [hRl]; decide), okT hR 20 (by rw [hRl]; decide), okT hR 21 (by rw [hRl]; decide), okT hR 22 (by rw [hRl]; decide), okT hR 23 (by rw [hRl]; decide), okT hR 24 (by rw [hRl]; decide), okT hR 25 (by rw [hRl]; decide), okT hR 26 (by rw [hRl]; decide), okT hR 27 (by rw [hRl]; decide), okT hR 28 (by rw [hRl]; decide), okT hR 29 (by rw [hRl]; decide), okT hR 30 (by rw [hRl]; decide), okT hR 31 (by rw [hRl]; decide)⟩, fun wr er => ?_⟩
    obtain ⟨hRt, hcr⟩ := sets32 hR hRl hTl er
    refine ⟨_, _, _, _, _, _, _, _, _, _, _, _, _, _, _, _, _, _, _, _, _, _, _, _, _, _, _, _, _, _, _, _, ⟨cT hRt 0 (by rw [hTl]; decide), cT hRt 1 (by rw [hTl]; decide), cT hRt 2 (by rw [hTl]; decide), cT hRt 3 (by rw [hTl]; decide), cT hRt 4 (by rw [hTl]; decide), cT hRt 5 (by rw [hTl]; decide), cT hRt 6 (by rw [hTl]; decide), cT hRt 7 (by rw [hTl]; decide), cT hRt 8 (by rw [hTl]; decide), cT hRt 9 (by rw [hTl]; decide), cT hRt 10 (by rw [hTl]; decide), cT hRt 11 (by rw [hTl]; decide), cT hRt 12 (by rw [hTl]; decide), cT hRt 13 (by rw [hTl]; decide), cT hRt 14 (by rw [hTl]; decide), cT hRt 15 (by rw [hTl]; decide), cT hRt 16 (by rw [hTl]; decide), cT hRt 17 (by rw [hTl]; decide), cT hRt 18 (by rw [hTl]; decide), cT hRt 19 (by rw [hTl]; decide), cT hRt 20 (by rw [hTl]; decide), cT hRt 21 (by rw [hTl]; decide), cT hRt 22 (by rw [hTl]; decide), cT hRt 23 (by rw [hTl]; decide), cT hRt 24 (by rw [hTl]; decide), cT hRt 25 (by rw [hTl]; decide), cT hRt 26 (by rw [hTl]; decide), cT hRt 27 (by rw [hTl]; decide), cT hRt 28 (by rw [hTl]; decide), cT hRt 29 (by rw [hTl]; decide), cT hRt 30 (by rw [hTl]; decide), cT hRt 31 (by rw [hTl]; decide)⟩, ?_⟩
    rw [agg32 hTl]
    exact ⟨rfl, ((hc04.same hc5).trans hcr (fun i hi he => by omega)).mono (fun i hi he => by omega)⟩
  have he : ¬ e ≠ 0 := by simpa using he
  rw [if_neg he]
  refine ⟨fun w' => ∃ t2 : List Int, t2 = (if kind = 5 then pickT t1 n else if kind = 2 then bump t1 29 1 else if kind = 3 then bump t1 30 on else t1) ∧ t2.length = 32 ∧ Blk w' tb (t2.map iv) 60 ∧ Ch (· = tb) w4 w', ⟨fun h5 => ?_, fun h5 => ⟨fun h2 => ?_, fun h2 => ⟨fun h3 => ?_, fun h3 => ?_⟩⟩⟩, ?_⟩
  · rw [kindP_eq (by omega)] at h5
    have h5 : kind = 5 := by simpa using h5
    rw [if_pos h5]
    refine ⟨fun w' => ∃ t2 : List Int, t2 = (if 2 ≤ n.length ∧ n.getD 1 0 = 1 then bump t1 28 1 else t1) ∧ Blk w' tb (t2.map iv) 60 ∧ Ch (· = tb) w4 w', ⟨fun h => ⟨⟨by omega, by have := of_decide_eq_true h; omega⟩, ?_⟩, fun h => ?_⟩, ?_⟩
    · have h : 1 < n.length := by have := of_decide_eq_true h; omega
      refine hn4.typed (j := 1) (xs := n) h fun p hp => ⟨_, hp, ?_⟩
      have h1 : n.getD 1 0 = n[1] := by rw [List.getD_eq_getElem?_getD, List.getElem?_eq_getElem h]; rfl
      rw [h1]
      refine ⟨fun h2 => ⟨⟨by omega, by omega⟩, _, cT hT4 28 (by omega), ⟨by omega, by omega⟩, okT hT4 28 (by omega), fun w7 e7 => ?_⟩, fun h2 => ?_⟩
      · have h2 : n[1] = 1 := by simpa using h2
        rw [if_pos ⟨h, h2⟩]
        exact ⟨_, rfl, setT hT4 e7, chT e7⟩
      · have h2 : ¬ n[1] = 1 := by simpa using h2
        rw [if_neg (fun k => h2 k.2)]
        exact ⟨_, rfl, hT4, Ch.refl _ _⟩
    · have h : ¬ 2 ≤ n.length := by have := of_decide_eq_false h; omega
      rw [if_neg (fun k => h k.1)]
      exact ⟨_, rfl, hT4, Ch.refl _ _⟩
    · rintro jk w8 ⟨t2, ht2, hT8, hc8⟩
      have hl2 : t2.length = 32 := by rw [ht2]; split <;> simp [bump_len, hl4]
      have hp : pickT t1 n = if n.length = 4 then bump t2 31 (n.getD 3 0) else t2 := by rw [ht2]; rfl
      rw [hp]
      refine ⟨fun h => ?_, fun h => ?_⟩
      · have h : n.length = 4 := by
          have : (n.length : Int) = 4 := by simpa using h
          omega
        have hn8 := hn4.keep hc8 (fun i _ hi he => by have := hG i hi; omega)
        refine ⟨fun w' => Ch Non w8 w', fun w9 e9 => ⟨Ch.drew e9, ⟨by omega, by omega⟩, ?_⟩⟩
        have hT9 := hT8.drew e9
        refine ⟨_, fun w' hc => cT (hT8.keepN hc) 31 (by omega), ⟨by omega, by omega⟩, ?_⟩
        refine Rd.keeps (j := 3) (xs := n) (S := fun w' => Ch Non w8 w') (fun w' hc => hn8.keepN hc) (Ch.refl _ _) (by omega) fun p hp => ⟨_, hp, ⟨by omega, by omega⟩, okT hT9 31 (by omega), fun w12 e12 => ?_⟩
        have h3 : n.getD 3 0 = n[3] := by rw [List.getD_eq_getElem?_getD, List.getElem?_eq_getElem (by omega)]; rfl
        rw [if_pos h, h3]
        exact ⟨_, rfl, by rw [bump_len]; exact hl2, setT hT9 e12, (hc8.andN (Ch.drew e9)).same (chT e12)⟩
      · have h : ¬ n.length = 4 := fun k => by rw [k] at h; simp at h
        rw [if_neg h]
        exact ⟨_, rfl, hl2, hT8, hc8⟩
  · rw [kindP_eq (by omega)] at h5 h2
    have h5 : ¬ kind = 5 := by simpa using h5
    have h2 : kind = 2 := by simpa using h2
    rw [if_neg h5, if_pos h2]
    exact ⟨⟨by omega, by omega⟩, _, cT hT4 29 (by omega), ⟨by omega, by omega⟩, okT hT4 29 (by omega), fun w13 e13 => ⟨_, rfl, by rw [bump_len]; exact hl4, setT hT4 e13, chT e13⟩⟩
  · rw [kindP_eq (by omega)] at h5 h2 h3
    have h5 : ¬ kind = 5 := by simpa using h5
    have h2 : ¬ kind = 2 := by simpa using h2
    have h3 : kind = 3 := by simpa using h3
    rw [if_neg h5, if_neg h2, if_pos h3]
    exact ⟨⟨by omega, by omega⟩, _, cT hT4 30 (by omega), ⟨by omega, by omega⟩, okT hT4 30 (by omega), fun w14 e14 => ⟨_, rfl, by rw [bump_len]; exact hl4, setT hT4 e14, chT e14⟩⟩
  · rw [kindP_eq (by omega)] at h5 h2 h3
    have h5 : ¬ kind = 5 := by simpa using h5
    have h2 : ¬ kind = 2 := by simpa using h2
    have h3 : ¬ kind = 3 := by simpa using h3
    rw [if_neg h5, if_neg h2, if_neg h3]
    exact ⟨_, rfl, hl4, hT4, Ch.refl _ _⟩
  · rintro jk w15 ⟨t2, ht2, hTl, hT, hc15⟩
    have hR := hR4.keep hc15 (by omega)
    refine ⟨_, _, _, _, _, _, _, _, _, _, _, _, _, _, _, _, _, _, _, _, _, _, _, _, _, _, _, _, _, _, _, _, ⟨cT hT 0 (by rw [hTl]; decide), cT hT 1 (by rw [hTl]; decide), cT hT 2 (by rw [hTl]; decide), cT hT 3 (by rw [hTl]; decide), cT hT 4 (by rw [hTl]; decide), cT hT 5 (by rw [hTl]; decide), cT hT 6 (by rw [hTl]; decide), cT hT 7 (by rw [hTl]; decide), cT hT 8 (by rw [hTl]; decide), cT hT 9 (by rw [hTl]; decide), cT hT 10 (by rw [hTl]; decide), cT hT 11 (by rw [hTl]; decide), cT hT 12 (by rw [hTl]; decide), cT hT 13 (by rw [hTl]; decide), cT hT 14 (by rw [hTl]; decide), cT hT 15 (by rw [hTl]; decide), cT hT 16 (by rw [hTl]; decide), cT hT 17 (by rw [hTl]; decide), cT hT 18 (by rw [hTl]; decide), cT hT 19 (by rw [hTl]; decide), cT hT 20 (by rw [hTl]; decide), cT hT 21 (by rw [hTl]; decide), cT hT 22 (by rw [hTl]; decide), cT hT 23 (by rw [hTl]; decide), cT hT 24 (by rw [hTl]; decide), cT hT 25 (by rw [hTl]; decide), cT hT 26 (by rw [hTl]; decide), cT hT 27 (by rw [hTl]; decide), cT hT 28 (by rw [hTl]; decide), cT hT 29 (by rw [hTl]; decide), cT hT 30 (by rw [hTl]; decide), cT hT 31 (by rw [hTl]; decide)⟩, ⟨okT hR 0 (by rw [hRl]; decide), okT hR 1 (by rw [hRl]; decide), okT hR 2 (by rw [hRl]; decide), okT hR 3 (by rw [hRl]; decide), okT hR 4 (by rw [hRl]; decide), okT hR 5 (by rw [hRl]; decide), okT hR 6 (by rw [hRl]; decide), okT hR 7 (by rw [hRl]; decide), okT hR 8 (by rw [hRl]; decide), okT hR 9 (by rw [hRl]; decide), okT hR 10 (by rw [hRl]; decide), okT hR 11 (by rw [hRl]; decide), okT hR 12 (by rw [hRl]; decide), okT hR 13 (by rw [hRl]; decide), okT hR 14 (by rw [hRl]; decide), okT hR 15 (by rw [hRl]; decide), okT hR 16 (by rw [hRl]; decide), okT hR 17 (by rw [hRl]; decide), okT hR 18 (by rw [hRl]; decide), okT hR 19 (by rw [hRl]; decide), okT hR 20 (by rw [hRl]; decide), okT hR 21 (by rw [hRl]; decide), okT hR 22 (by rw [hRl]; decide), okT hR 23 (by rw [hRl]; decide), okT hR 24 (by rw [hRl]; decide), okT hR 25 (by rw [hRl]; decide), okT hR 26 (by rw [hRl]; decide), okT hR 27 (by rw [hRl]; decide), okT hR 28 (by rw [hRl]; decide), okT hR 29 (by rw [hRl]; decide), okT hR 30 (by rw [hRl]; decide), okT hR 31 (by rw [hRl]; decide)⟩, fun wr er => ?_⟩
    obtain ⟨hRt, hcr⟩ := sets32 hR hRl hTl er
    refine ⟨_, _, _, _, _, _, _, _, _, _, _, _, _, _, _, _, _, _, _, _, _, _, _, _, _, _, _, _, _, _, _, _, ⟨cT hRt 0 (by rw [hTl]; decide), cT hRt 1 (by rw [hTl]; decide), cT hRt 2 (by rw [hTl]; decide), cT hRt 3 (by rw [hTl]; decide), cT hRt 4 (by rw [hTl]; decide), cT hRt 5 (by rw [hTl]; decide), cT hRt 6 (by rw [hTl]; decide), cT hRt 7 (by rw [hTl]; decide), cT hRt 8 (by rw [hTl]; decide), cT hRt 9 (by rw [hTl]; decide), cT hRt 10 (by rw [hTl]; decide), cT hRt 11 (by rw [hTl]; decide), cT hRt 12 (by rw [hTl]; decide), cT hRt 13 (by rw [hTl]; decide), cT hRt 14 (by rw [hTl]; decide), cT hRt 15 (by rw [hTl]; decide), cT hRt 16 (by rw [hTl]; decide), cT hRt 17 (by rw [hTl]; decide), cT hRt 18 (by rw [hTl]; decide), cT hRt 19 (by rw [hTl]; decide), cT hRt 20 (by rw [hTl]; decide), cT hRt 21 (by rw [hTl]; decide), cT hRt 22 (by rw [hTl]; decide), cT hRt 23 (by rw [hTl]; decide), cT hRt 24 (by rw [hTl]; decide), cT hRt 25 (by rw [hTl]; decide), cT hRt 26 (by rw [hTl]; decide), cT hRt 27 (by rw [hTl]; decide), cT hRt 28 (by rw [hTl]; decide), cT hRt 29 (by rw [hTl]; decide), cT hRt 30 (by rw [hTl]; decide), cT hRt 31 (by rw [hTl]; decide)⟩, ?_⟩
    rw [agg32 hTl]
    rw [← ht2]
    exact ⟨rfl, ((hc04.same hc15).trans hcr (fun i hi he => by omega)).mono (fun i hi he => by omega)⟩
/-- The first numbers of a tally, then zeros. -/
def upto (t : List Int) (k : Nat) : List Int := allT fun i => if i < k then g t i else 0
theorem upto_len (t : List Int) (k : Nat) : (upto t k).length = 32 := allT_len _
theorem upto_zero (t : List Int) : upto t 0 = z32 := by
  unfold upto z32 allT
  apply List.ext_getElem
  · simp
  · intro i h1 h2
    rw [List.getElem_replicate]
    simp
theorem upto_all {t : List Int} (h : t.length = 32) : upto t 32 = t := by
  have : upto t 32 = allT (g t) := by
    unfold upto allT
    refine List.map_congr_left fun i hi => ?_
    have : i < 32 := by simpa using hi
    rw [if_pos this]
  rw [this, list_g h]
theorem upto_set (t : List Int) (k : Nat) : (upto t k).set k (g t k) = upto t (k + 1) := by
  apply List.ext_getElem
  · rw [List.length_set, upto_len, upto_len]
  · intro i h1 h2
    rw [List.getElem_set]
    simp only [upto, allT, List.getElem_map, List.getElem_range]
    by_cases h : k = i
    · subst h; rw [if_pos rfl, if_pos (by omega)]
    · rw [if_neg h]
      by_cases h3 : i < k
      · rw [if_pos h3, if_pos (by omega)]
      · rw [if_neg h3, if_neg (by omega)]
theorem numsL_spec (w : World) {t : List Int} (ht : t.length = 32) : Calls Try.prog i_coadjutorlaw37_numbers #[.agg (t.map iv).toArray] w (Ret fun v w' => v = .agg (t.map iv).toArray ∧ Ch Non w w') := by
  conv in Calls _ _ _ _ => rw [← agg32 ht]
  refine coadjutorlaw37_numbers.calls _ _ _ _ _ _ _ _ _ _ _ _ _ _ _ _ _ _ _ _ _ _ _ _ _ _ _ _ _ _ _ _ ?_
  unfold coadjutorlaw37_numbers.vc
  intro w1 e1 w2 e2 w3 e3
  have hT3 := ((new32 ht e1).alloc e2).alloc e3
  have hR3 := (newz e2).alloc e3
  have hU3 := newz e3
  have s1 : w.heap.size < w1.heap.size := (new32 ht e1).lt
  have s2 : w1.heap.size < w2.heap.size := (newz e2).lt
  have s3 : w2.heap.size < w3.heap.size := hU3.lt
  have hc3 : Ch Non w w3 := ((Ch.alloc e1).andN (Ch.alloc e2)).andN (Ch.alloc e3)
  clear e1 e2 e3
  generalize ht' : w.heap.size = tb at hT3 s1 ⊢
  generalize hr' : w1.heap.size = rb at hR3 s1 s2 ⊢
  generalize hu' : w2.heap.size = ub at hU3 s2 s3 ⊢
  refine ⟨⟨okT hU3 0 (by decide), okT hU3 1 (by decide), okT hU3 2 (by decide), okT hU3 3 (by decide), okT hU3 4 (by decide), okT hU3 5 (by decide), okT hU3 6 (by decide), okT hU3 7 (by decide), okT hU3 8 (by decide), okT hU3 9 (by decide), okT hU3 10 (by decide), okT hU3 11 (by decide), okT hU3 12 (by decide), okT hU3 13 (by decide), okT hU3 14 (by decide), okT hU3 15 (by decide), okT hU3 16 (by decide), okT hU3 17 (by decide), okT hU3 18 (by decide), okT hU3 19 (by decide), okT hU3 20 (by decide), okT hU3 21 (by decide), okT hU3 22 (by decide), okT hU3 23 (by decide), okT hU3 24 (by decide), okT hU3 25 (by decide), okT hU3 26 (by decide), okT hU3 27 (by decide), okT hU3 28 (by decide), okT hU3 29 (by decide), okT hU3 30 (by decide), okT hU3 31 (by decide)⟩, fun w4 e4 => ?_⟩
  obtain ⟨hU4, hc4⟩ := sets32 (t := z32) hU3 rfl rfl e4
  rw [← upto_zero t] at hU4
  refine ⟨fun i k w' => ∃ j : Nat, i = j ∧ j ≤ 14 ∧ k = 14 - j ∧ Blk w' ub ((upto t (2 * j)).map iv) 60 ∧ Ch (· = ub) w3 w', ⟨_, 0, rfl, by omega, rfl, hU4, hc4⟩, ?_⟩
  clear hU4 hc4 e4
  rintro jk i k w5 ⟨j, rfl, hj, rfl, hU5, hc5⟩
  have hT5 := hT3.keep hc5 (by omega)
  have hR5 := hR3.keep hc5 (by omega)
  refine ⟨fun hlt => ?_, fun hge => ?_⟩
  · have hlt : j < 14 := by have := of_decide_eq_true hlt; omega
    have hjj : (j : Int).toNat = j := Int.toNat_natCast j
    have hw1 : IntKind.i64.wrap (2 * (j : Int)) = 2 * (j : Int) := wrap_id (by omega) (by omega)
    have hw2 : IntKind.i64.wrap (2 * (j : Int) + 1) = 2 * (j : Int) + 1 := wrap_id (by omega) (by omega)
    have hi1 : (2 * (j : Int)).toNat * 1 = 2 * j := by omega
    have hi2 : (2 * (j : Int) + 1).toNat * 1 = 2 * j + 1 := by omega
    have hi3 : j * 2 = 2 * j := by omega
    rw [hw1, hw2, hi1, hi2, hjj, hi3]
    simp only [add_at, Nat.zero_add]
    refine ⟨⟨by omega, by omega⟩, _, cT hT5 _ (by omega), ⟨by omega, by omega⟩, okT hU5 _ (by rw [upto_len]; omega), fun w6 e6 => ?_⟩
    have hU6 := setT hU5 e6
    rw [upto_set] at hU6
    have hc6 : Ch (· = ub) w5 w6 := chT e6
    have hT6 := hT5.keep hc6 (by omega)
    refine ⟨⟨by omega, by omega⟩, _, cT hT6 _ (by omega), ⟨by omega, by omega⟩, okT hU6 _ (by rw [upto_len]; omega), fun w7 e7 => ?_⟩
    have hU7 := setT hU6 e7
    rw [upto_set] at hU7
    have h2 : 2 * j + 1 + 1 = 2 * (j + 1) := by omega
    rw [h2] at hU7
    exact ⟨14 - (j + 1), by omega, j + 1, by rw [wrap_id (by omega) (by omega)]; rfl, hlt, rfl, hU7, (hc5.same hc6).same (chT e7)⟩
  · have hj14 : j = 14 := by have := of_decide_eq_false hge; omega
    subst hj14
    refine ⟨_, cT hT5 28 (by omega), ⟨by omega, by omega⟩, okT hU5 28 (by rw [upto_len]; omega), fun w8 e8 => ?_⟩
    have hU8 := setT hU5 e8
    rw [upto_set] at hU8
    have hc8 : Ch (· = ub) w5 w8 := chT e8
    refine ⟨_, cT (hT5.keep hc8 (by omega)) 29 (by omega), ⟨by omega, by omega⟩, okT hU8 29 (by rw [upto_len]; omega), fun w9 e9 => ?_⟩
    have hU9 := setT hU8 e9
    rw [upto_set] at hU9
    have hc9 : Ch (· = ub) w5 w9 := hc8.same (chT e9)
    refine ⟨_, cT (hT5.keep hc9 (by omega)) 30 (by omega), ⟨by omega, by omega⟩, okT hU9 30 (by rw [upto_len]; omega), fun w10 e10 => ?_⟩
    have hU10 := setT hU9 e10
    rw [upto_set] at hU10
    have hc10 : Ch (· = ub) w5 w10 := hc9.same (chT e10)
    refine ⟨_, cT (hT5.keep hc10 (by omega)) 31 (by omega), ⟨by omega, by omega⟩, okT hU10 31 (by rw [upto_len]; omega), fun w11 e11 => ?_⟩
    have hT := setT hU10 e11
    rw [upto_set, upto_all ht] at hT
    have hc11 : Ch (· = ub) w5 w11 := hc10.same (chT e11)
    have hR := hR5.keep hc11 (by omega)
    have hTl := ht
    have hRl : z32.length = 32 := rfl
    refine ⟨_, _, _, _, _, _, _, _, _, _, _, _, _, _, _, _, _, _, _, _, _, _, _, _, _, _, _, _, _, _, _, _, ⟨cT hT 0 (by rw [hTl]; decide), cT hT 1 (by rw [hTl]; decide), cT hT 2 (by rw [hTl]; decide), cT hT 3 (by rw [hTl]; decide), cT hT 4 (by rw [hTl]; decide), cT hT 5 (by rw [hTl]; decide), cT hT 6 (by rw [hTl]; decide), cT hT 7 (by rw [hTl]; decide), cT hT 8 (by rw [hTl]; decide), cT hT 9 (by rw [hTl]; decide), cT hT 10 (by rw [hTl]; decide), cT hT 11 (by rw [hTl]; decide), cT hT 12 (by rw [hTl]; decide), cT hT 13 (by rw [hTl]; decide), cT hT 14 (by rw [hTl]; decide), cT hT 15 (by rw [hTl]; decide), cT hT 16 (by rw [hTl]; decide), cT hT 17 (by rw [hTl]; decide), cT hT 18 (by rw [hTl]; decide), cT hT 19 (by rw [hTl]; decide), cT hT 20 (by rw [hTl]; decide), cT hT 21 (by rw [hTl]; decide), cT hT 22 (by rw [hTl]; decide), cT hT 23 (by rw [hTl]; decide), cT hT 24 (by rw [hTl]; decide), cT hT 25 (by rw [hTl]; decide), cT hT 26 (by rw [hTl]; decide), cT hT 27 (by rw [hTl]; decide), cT hT 28 (by rw [hTl]; decide), cT hT 29 (by rw [hTl]; decide), cT hT 30 (by rw [hTl]; decide), cT hT 31 (by rw [hTl]; decide)⟩, ⟨okT hR 0 (by rw [hRl]; decide), okT hR 1 (by rw [hRl]; decide), okT hR 2 (by rw [hRl]; decide), okT hR 3 (by rw [hRl]; decide), okT hR 4 (by rw [hRl]; decide), okT hR 5 (by rw [hRl]; decide), okT hR 6 (by rw [hRl]; decide), okT hR 7 (by rw [hRl]; decide), okT hR 8 (by rw [hRl]; decide), okT hR 9 (by rw [hRl]; decide), okT hR 10 (by rw [hRl]; decide), okT hR 11 (by rw [hRl]; decide), okT hR 12 (by rw [hRl]; decide), okT hR 13 (by rw [hRl]; decide), okT hR 14 (by rw [hRl]; decide), okT hR 15 (by rw [hRl]; decide), okT hR 16 (by rw [hRl]; decide), okT hR 17 (by rw [hRl]; decide), okT hR 18 (by rw [hRl]; decide), okT hR 19 (by rw [hRl]; decide), okT hR 20 (by rw [hRl]; decide), okT hR 21 (by rw [hRl]; decide), okT hR 22 (by rw [hRl]; decide), okT hR 23 (by rw [hRl]; decide), okT hR 24 (by rw [hRl]; decide), okT hR 25 (by rw [hRl]; decide), okT hR 26 (by rw [hRl]; decide), okT hR 27 (by rw [hRl]; decide), okT hR 28 (by rw [hRl]; decide), okT hR 29 (by rw [hRl]; decide), okT hR 30 (by rw [hRl]; decide), okT hR 31 (by rw [hRl]; decide)⟩, fun wr er => ?_⟩
    obtain ⟨hRt, hcr⟩ := sets32 hR hRl hTl er
    refine ⟨_, _, _, _, _, _, _, _, _, _, _, _, _, _, _, _, _, _, _, _, _, _, _, _, _, _, _, _, _, _, _, _, ⟨cT hRt 0 (by rw [hTl]; decide), cT hRt 1 (by rw [hTl]; decide), cT hRt 2 (by rw [hTl]; decide), cT hRt 3 (by rw [hTl]; decide), cT hRt 4 (by rw [hTl]; decide), cT hRt 5 (by rw [hTl]; decide), cT hRt 6 (by rw [hTl]; decide), cT hRt 7 (by rw [hTl]; decide), cT hRt 8 (by rw [hTl]; decide), cT hRt 9 (by rw [hTl]; decide), cT hRt 10 (by rw [hTl]; decide), cT hRt 11 (by rw [hTl]; decide), cT hRt 12 (by rw [hTl]; decide), cT hRt 13 (by rw [hTl]; decide), cT hRt 14 (by rw [hTl]; decide), cT hRt 15 (by rw [hTl]; decide), cT hRt 16 (by rw [hTl]; decide), cT hRt 17 (by rw [hTl]; decide), cT hRt 18 (by rw [hTl]; decide), cT hRt 19 (by rw [hTl]; decide), cT hRt 20 (by rw [hTl]; decide), cT hRt 21 (by rw [hTl]; decide), cT hRt 22 (by rw [hTl]; decide), cT hRt 23 (by rw [hTl]; decide), cT hRt 24 (by rw [hTl]; decide), cT hRt 25 (by rw [hTl]; decide), cT hRt 26 (by rw [hTl]; decide), cT hRt 27 (by rw [hTl]; decide), cT hRt 28 (by rw [hTl]; decide), cT hRt 29 (by rw [hTl]; decide), cT hRt 30 (by rw [hTl]; decide), cT hRt 31 (by rw [hTl]; decide)⟩, ?_⟩
    rw [agg32 hTl]
    exact ⟨rfl, (hc3.trans (hc5.same hc11) (fun i hi he => by omega)).trans hcr (fun i hi he => by omega)⟩
/-- All kinds together. -/
def totT (t : List Int) (j : Nat) : Int × Int := (List.range j).foldl (fun p i => (IntKind.i64.wrap (p.1 + g t (2 * i)), IntKind.i64.wrap (p.2 + g t (2 * i + 1)))) (0, 0)
theorem totT_succ (t : List Int) (j : Nat) : totT t (j + 1) = (IntKind.i64.wrap ((totT t j).1 + g t (2 * j)), IntKind.i64.wrap ((totT t j).2 + g t (2 * j + 1))) := by
  unfold totT; rw [List.range_succ, List.foldl_append]; rfl
theorem ext28 {t : List Int} {j : Nat} (h : j < 14) : (#[.int .i64 (g t 0), .int .i64 (g t 1), .int .i64 (g t 2), .int .i64 (g t 3), .int .i64 (g t 4), .int .i64 (g t 5), .int .i64 (g t 6), .int .i64 (g t 7), .int .i64 (g t 8), .int .i64 (g t 9), .int .i64 (g t 10), .int .i64 (g t 11), .int .i64 (g t 12), .int .i64 (g t 13), .int .i64 (g t 14), .int .i64 (g t 15), .int .i64 (g t 16), .int .i64 (g t 17), .int .i64 (g t 18), .int .i64 (g t 19), .int .i64 (g t 20), .int .i64 (g t 21), .int .i64 (g t 22), .int .i64 (g t 23), .int .i64 (g t 24), .int .i64 (g t 25), .int .i64 (g t 26), .int .i64 (g t 27)] : Array Value).extract (j * 2) (j * 2 + 2) = #[.int .i64 (g t (2 * j)), .int .i64 (g t (2 * j + 1))] := by
  have : j = 0 ∨ j = 1 ∨ j = 2 ∨ j = 3 ∨ j = 4 ∨ j = 5 ∨ j = 6 ∨ j = 7 ∨ j = 8 ∨ j = 9 ∨ j = 10 ∨ j = 11 ∨ j = 12 ∨ j = 13 := by omega
  rcases this with rfl | rfl | rfl | rfl | rfl | rfl | rfl | rfl | rfl | rfl | rfl | rfl | rfl | rfl <;> rfl
theorem Total_spec (w : World) {t : List Int} (ht : t.length = 32) : Calls Try.prog i_tally_Tally_Total #[.agg (t.map iv).toArray] w (Ret fun v w' => v = .agg #[.int .i64 (totT t 14).1, .int .i64 (totT t 14).2] ∧ Ch Non w w') := by
  rw [← agg32 ht]
  refine tally_Tally_Total.calls _ _ _ _ _ _ _ _ _ _ _ _ _ _ _ _ _ _ _ _ _ _ _ _ _ _ _ _ _ _ _ _ ?_
  unfold tally_Tally_Total.vc
  intro w1 e1 w2 e2 w3 e3
  have hT3 := ((new32 ht e1).alloc e2).alloc e3
  have hR3 := (Blk.new e2).alloc e3
  have hU3 := Blk.new e3
  have s1 : w.heap.size < w1.heap.size := (new32 ht e1).lt
  have s2 : w1.heap.size < w2.heap.size := (Blk.new e2).lt
  have s3 : w2.heap.size < w3.heap.size := hU3.lt
  have hc3 : Ch Non w w3 := ((Ch.alloc e1).andN (Ch.alloc e2)).andN (Ch.alloc e3)
  clear e1 e2 e3
  have hR3 : Blk w3 w1.heap.size [.int .i64 0, .int .i64 0] 55 := hR3
  have hU3 : Blk w3 w2.heap.size [.int .i64 (totT t 0).1, .int .i64 (totT t 0).2] 55 := hU3
  generalize ht' : w.heap.size = tb at hT3 s1 ⊢
  generalize hr' : w1.heap.size = rb at hR3 s1 s2 ⊢
  generalize hu' : w2.heap.size = ub at hU3 s2 s3 ⊢
  refine ⟨_, _, _, _, _, _, _, _, _, _, _, _, _, _, _, _, _, _, _, _, _, _, _, _, _, _, _, _, ⟨cT hT3 0 (by rw [ht]; decide), cT hT3 1 (by rw [ht]; decide), cT hT3 2 (by rw [ht]; decide), cT hT3 3 (by rw [ht]; decide), cT hT3 4 (by rw [ht]; decide), cT hT3 5 (by rw [ht]; decide), cT hT3 6 (by rw [ht]; decide), cT hT3 7 (by rw [ht]; decide), cT hT3 8 (by rw [ht]; decide), cT hT3 9 (by rw [ht]; decide), cT hT3 10 (by rw [ht]; decide), cT hT3 11 (by rw [ht]; decide), cT hT3 12 (by rw [ht]; decide), cT hT3 13 (by rw [ht]; decide), cT hT3 14 (by rw [ht]; decide), cT hT3 15 (by rw [ht]; decide), cT hT3 16 (by rw [ht]; decide), cT hT3 17 (by rw [ht]; decide), cT hT3 18 (by rw [ht]; decide), cT hT3 19 (by rw [ht]; decide), cT hT3 20 (by rw [ht]; decide), cT hT3 21 (by rw [ht]; decide), cT hT3 22 (by rw [ht]; decide), cT hT3 23 (by rw [ht]; decide), cT hT3 24 (by rw [ht]; decide), cT hT3 25 (by rw [ht]; decide), cT hT3 26 (by rw [ht]; decide), cT hT3 27 (by rw [ht]; decide)⟩, fun i k w' => ∃ j : Nat, i = j ∧ j ≤ 14 ∧ k = 14 - j ∧ Blk w' ub [.int .i64 (totT t j).1, .int .i64 (totT t j).2] 55 ∧ Ch (· = ub) w3 w', ⟨_, 0, rfl, by omega, rfl, hU3, Ch.refl _ _⟩, ?_⟩
  clear hU3
  rintro jk i k w4 ⟨j, rfl, hj, rfl, hU4, hc4⟩
  have hR4 := hR3.keep hc4 (by omega)
  refine ⟨fun hlt => ?_, fun hge => ?_⟩
  · have hlt : j < 14 := by have := of_decide_eq_true hlt; omega
    have hjj : (j : Int).toNat = j := Int.toNat_natCast j
    rw [hjj]
    refine ⟨⟨by omega, by omega⟩, _, _, ext28 hlt, fun w5 e5 => ?_⟩
    have hC5 := Blk.new e5
    refine ⟨⟨hC5.ok 0 rfl, hC5.ok 1 rfl⟩, fun w6 e6 => ?_⟩
    have e6' : w6 = w5.setCells w4.heap.size 0 [.int .i64 (g t (2 * j)), .int .i64 (g t (2 * j + 1))] := e6
    have hC6 := hC5.all [.int .i64 (g t (2 * j)), .int .i64 (g t (2 * j + 1))] rfl e6'
    have hC6 : Blk w6 w4.heap.size [.int .i64 (g t (2 * j)), .int .i64 (g t (2 * j + 1))] 55 := hC6
    have hc46 : Ch Non w4 w6 := (Ch.alloc (F := Non) e5).trans (Ch.sets (F := (· = w4.heap.size)) e6' rfl) (fun i hi he => by omega)
    have hU6 := hU4.keepN hc46
    have hub := hU4.lt
    refine ⟨_, hU6.cell 0 rfl, _, hC6.cell 0 rfl, hU6.ok 0 rfl, fun w7 e7 => ?_⟩
    have hU7 := hU6.set e7
    have hc7 : Ch (· = ub) w6 w7 := chT e7
    have hC7 := hC6.keep hc7 (by omega)
    refine ⟨_, hU7.cell 1 rfl, _, hC7.cell 1 rfl, hU7.ok 1 rfl, fun w8 e8 => ?_⟩
    have hU8 := hU7.set e8
    have hc8 : Ch (· = ub) w7 w8 := chT e8
    refine ⟨14 - (j + 1), by omega, j + 1, by rw [wrap_id (by omega) (by omega)]; rfl, hlt, rfl, ?_, ((hc4.andN hc46).same hc7).same hc8⟩
    rw [totT_succ]
    exact hU8
  · have hj14 : j = 14 := by have := of_decide_eq_false hge; omega
    subst hj14
    refine ⟨_, _, ⟨hU4.cell 0 rfl, hU4.cell 1 rfl⟩, ⟨hR4.ok 0 rfl, hR4.ok 1 rfl⟩, fun w9 e9 => ?_⟩
    have e9' : w9 = w4.setCells rb 0 [.int .i64 (totT t 14).1, .int .i64 (totT t 14).2] := e9
    have hR9 := hR4.all [.int .i64 (totT t 14).1, .int .i64 (totT t 14).2] rfl e9'
    exact ⟨_, _, ⟨hR9.cell 0 rfl, hR9.cell 1 rfl⟩, rfl, (hc3.trans hc4 (fun i hi he => by omega)).trans (Ch.sets (F := (· = rb)) e9' rfl) (fun i hi he => by omega)⟩
theorem Kind_spec (w : World) {t : List Int} (ht : t.length = 32) (kind a b : Int) (d : Bool) (o1 : Option Addr) (n1 c1 : Nat) (o2 : Option Addr) (n2 c2 : Nat) (s : ByteArray) :
    Calls Try.prog i_tally_Tally_Kind #[.agg (t.map iv).toArray, .agg #[.int .i64 kind, .int .i64 a, .int .i64 b, .bool d, .slice o1 n1 c1, .slice o2 n2 c2, .string s]] w (Ret fun v w' => v = .agg #[.int .i64 (g t (2 * (kindP kind).toNat)), .int .i64 (g t (2 * (kindP kind).toNat + 1))] ∧ Ch Non w w') := by
  rw [← agg32 ht]
  refine tally_Tally_Kind.calls _ _ _ _ _ _ _ _ _ _ _ _ _ _ _ _ _ _ _ _ _ _ _ _ _ _ _ _ _ _ _ _ _ _ _ _ _ _ _ _ _ _ _ ?_
  unfold tally_Tally_Kind.vc
  intro w1 e1 w2 e2 w3 e3
  have hT3 := ((new32 ht e1).alloc e2).alloc e3
  have hC3 := (Blk.new e2).alloc e3
  have hR3 := Blk.new e3
  have s1 : w.heap.size < w1.heap.size := (new32 ht e1).lt
  have s2 : w1.heap.size < w2.heap.size := (Blk.new e2).lt
  have hc3 : Ch Non w w3 := ((Ch.alloc e1).andN (Ch.alloc e2)).andN (Ch.alloc e3)
  refine ⟨_, hC3.cell 0 rfl, ?_⟩
  refine step_call (place_spec w3 kind) ?_
  rintro v w4 ⟨rfl, hc4⟩
  have hT4 := hT3.keepN hc4
  have hR4 := hR3.keepN hc4
  obtain ⟨k0, k1⟩ := kindP_at kind
  have hi : (kindP kind).toNat * 2 = 2 * (kindP kind).toNat := by omega
  refine ⟨_, rfl, ⟨k0, k1⟩, ?_⟩
  rw [hi]
  simp only [add_at, Nat.zero_add]
  refine ⟨_, _, ⟨cT hT4 _ (by omega), cT hT4 _ (by omega)⟩, ⟨hR4.ok 0 rfl, hR4.ok 1 rfl⟩, fun w5 e5 => ?_⟩
  have e5' : w5 = w4.setCells w2.heap.size 0 [.int .i64 (g t (2 * (kindP kind).toNat)), .int .i64 (g t (2 * (kindP kind).toNat + 1))] := e5
  have hR5 := hR4.all [.int .i64 (g t (2 * (kindP kind).toNat)), .int .i64 (g t (2 * (kindP kind).toNat + 1))] rfl e5'
  exact ⟨_, _, ⟨hR5.cell 0 rfl, hR5.cell 1 rfl⟩, rfl, (hc3.andN hc4).trans (Ch.sets (F := (· = w2.heap.size)) e5' rfl) (fun i hi he => by omega)⟩
/-- More than is asked. -/
def wide (e : EvD) : Bool := decide (e.nums.length > 10) || decide (e.on > 40) || e.nums.any fun x => decide (x > 1099511627776) || decide (x < -1099511627776)
def greatB (es : List EvD) : Bool := es.any wide || decide (es.length > 60)
theorem great_spec {w : World} {o : Option Addr} {es : List EvD} {F G : Nat → Prop} (h : Rd w o (es.map evE).flatten F) (hl : es.length ≤ 9223372036854775807) (hn : ∀ e ∈ es, Rd w e.no (e.nums.map iv) G) (hnl : ∀ e ∈ es, e.nums.length ≤ 9223372036854775807) (c : Nat) :
    Calls Try.prog i_coadjutorlaw37_great #[.slice o es.length c] w (Ret fun v w' => v = .bool (greatB es) ∧ w' = w) := by
  refine coadjutorlaw37_great.calls _ _ _ ?_
  unfold coadjutorlaw37_great.vc
  have gt : ∀ e ∈ es, wide e = true → greatB es = true := fun e he hw => by
    unfold greatB
    rw [List.any_eq_true.2 ⟨e, he, hw⟩]; rfl
  refine ⟨fun i k w' => w' = w ∧ ∃ j : Nat, i = j ∧ j ≤ es.length ∧ k = es.length - j ∧ (es.take j).any wide = false, ⟨_, rfl, 0, rfl, Nat.zero_le _, rfl, rfl⟩, ?_⟩
  rintro jk i k w1 ⟨rfl, j, rfl, hj, rfl, hno⟩
  refine ⟨fun hlt => ?_, fun hge => ?_⟩
  · have hlt : j < es.length := by have := of_decide_eq_true hlt; omega
    obtain ⟨p, hp, _, _, hcell⟩ := h.elem (sz := 10) (enc := evE) (fun _ => rfl) (by omega) hlt
    have hm := List.getElem_mem hlt
    have hnj := hn _ hm
    have hnlj := hnl _ hm
    have hgt := gt _ hm
    have htk : es.take (j + 1) = es.take j ++ [es[j]] := List.take_succ_eq_append_getElem hlt
    generalize es[j] = e at hcell hnj hnlj hgt htk
    subst hp
    have hjj : (j : Int).toNat = j := Int.toNat_natCast j
    rw [hjj]
    simp only [add_add]
    have h8 := hcell 8 _ rfl
    have h9 := hcell 9 _ rfl
    rw [add_add] at h8 h9
    refine ⟨⟨by omega, by omega⟩, _, _, _, h8, fun h1 => ?_, fun h1 => ⟨⟨by omega, by omega⟩, _, _, _, h9, fun h2 => ?_, fun h2 => ?_⟩⟩
    · have h1 : e.nums.length > 10 := by have := of_decide_eq_true h1; omega
      exact ⟨by rw [hgt (by unfold wide; rw [decide_eq_true h1]; rfl)], trivial⟩
    · have h2 : e.on > 40 := by have := of_decide_eq_true h2; omega
      exact ⟨by rw [hgt (by unfold wide; rw [decide_eq_true h2]; simp)], trivial⟩
    have h1 : ¬ e.nums.length > 10 := by have := of_decide_eq_false h1; omega
    have h2 : ¬ e.on > 40 := by have := of_decide_eq_false h2; omega
    have hwd : wide e = e.nums.any fun x => decide (x > 1099511627776) || decide (x < -1099511627776) := by
      unfold wide; rw [decide_eq_false h1, decide_eq_false h2]; rfl
    rw [hwd] at hgt
    refine ⟨fun i k w' => w' = w1 ∧ ∃ m : Nat, i = m ∧ m ≤ e.nums.length ∧ k = e.nums.length - m ∧ (e.nums.take m).any (fun x => decide (x > 1099511627776) || decide (x < -1099511627776)) = false, ⟨_, rfl, 0, rfl, Nat.zero_le _, rfl, rfl⟩, ?_⟩
    rintro jk i k w2 ⟨rfl, m, rfl, hm2, rfl, hno2⟩
    refine ⟨⟨by omega, by omega⟩, _, _, _, h8, fun hlt2 => ?_, fun hge2 => ?_⟩
    · have hlt2 : m < e.nums.length := by have := of_decide_eq_true hlt2; omega
      have hmm : (m : Int).toNat = m := Int.toNat_natCast m
      rw [hmm, Nat.mul_one]
      refine ⟨⟨by omega, by omega⟩, _, _, _, h8, ⟨by omega, by omega⟩, hnj.typed (xs := e.nums) hlt2 fun p hp => ⟨_, hp, fun h3 => ?_, fun h3 => ⟨⟨by omega, by omega⟩, _, _, _, h8, ⟨by omega, by omega⟩, hnj.typed (xs := e.nums) hlt2 fun p2 hp2 => ⟨_, hp2, fun h4 => ?_, fun h4 => ?_⟩⟩⟩⟩
      · exact ⟨by rw [hgt (List.any_eq_true.2 ⟨_, List.getElem_mem hlt2, by rw [h3]; rfl⟩)], rfl⟩
      · exact ⟨by rw [hgt (List.any_eq_true.2 ⟨_, List.getElem_mem hlt2, by rw [h4]; simp⟩)], rfl⟩
      · refine ⟨e.nums.length - (m + 1), by omega, rfl, m + 1, by rw [wrap_id (by omega) (by omega)]; rfl, hlt2, rfl, ?_⟩
        rw [List.take_succ_eq_append_getElem hlt2, List.any_append, hno2, List.any_cons, h3, h4]; rfl
    · have hmn : m = e.nums.length := by have := of_decide_eq_false hge2; omega
      subst hmn
      rw [List.take_length] at hno2
      refine ⟨es.length - (j + 1), by omega, rfl, j + 1, by rw [wrap_id (by omega) (by omega)]; rfl, hlt, rfl, ?_⟩
      rw [htk, List.any_append, hno, List.any_cons, hwd, hno2]; rfl
  · have hjn : j = es.length := by have := of_decide_eq_false hge; omega
    subst hjn
    rw [List.take_length] at hno
    refine ⟨?_, rfl⟩
    unfold greatB
    rw [hno, Bool.false_or]
    congr 1
    exact decide_eq_decide.2 ⟨fun h => by omega, fun h => by omega⟩
end Go.Proofs.Ytddgcdlljkooiaa.Tally
