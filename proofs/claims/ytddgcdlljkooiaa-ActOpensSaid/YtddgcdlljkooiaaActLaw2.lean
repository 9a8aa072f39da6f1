/- ActOpens' contract: of all whole numbers the Go function answers true and leaves what was there; the conditions stand in each theorem. -/
import Derived.Test.YtddgcdlljkooiaaActLaw1
set_option linter.unusedVariables false
namespace Go.Proofs.Ytddgcdlljkooiaa.Act
open Go Go.Proofs Go.Proofs.Ytddgcdlljkooiaa.V Go.Proofs.Ytddgcdlljkooiaa.Vc Go.Proofs.Ytddgcdlljkooiaa.Num Go.RowKit

theorem tbl_le : ∀ k : Nat, k < 17 → 5 ≤ tbl.getD k 0 ∧ tbl.getD k 0 ≤ 251 := by decide
theorem tbl_mono : ∀ i : Nat, i < 17 → ∀ j : Nat, j < 17 → i ≤ j → tbl.getD i 0 ≤ tbl.getD j 0 := by decide
theorem gate_le (n : Int) : 5 ≤ gate n ∧ gate n ≤ 251 := by
  have := place_le n
  exact tbl_le _ (by omega)
theorem gate_mono {a b : Int} (h : a ≤ b) : gate a ≤ gate b := by
  have h1 := place_le a
  have h2 := place_le b
  refine tbl_mono _ (by omega) _ (by omega) ?_
  have : place a ≤ place b := by
    unfold place
    have := clamp_mono (x := div a 32) (y := div b 32) (low := -8) (high := 8) (by rw [div32, div32]; omega) (by omega)
    omega
  omega
theorem thr_le (g : Int) {n : Int} (h1 : -32767 ≤ n) (h2 : n ≤ 32767) : (0 ≤ n → 0 ≤ thr g n ∧ thr g n ≤ n) ∧ (n < 0 → thr g n ≤ 0 ∧ n ≤ thr g n) := by
  have hg := gate_le g
  unfold thr mul product
  rw [clamp_id (x := n) (by omega) (by omega), clamp_id (x := gate g) (by omega) (by omega)]
  generalize gate g = q at hg
  have hs : ∀ x : Int, shift x 8 = x / 256 + x / 128 % 2 := fun x => by
    unfold shift; rw [if_neg (by omega), if_neg (by omega)]; rfl
  rw [hs]
  have k1 : 0 ≤ n → 5 * n ≤ n * q ∧ n * q ≤ 251 * n := fun h => by
    have := Int.mul_le_mul_of_nonneg_left hg.1 h
    have := Int.mul_le_mul_of_nonneg_left hg.2 h
    omega
  have k2 : n < 0 → 251 * n ≤ n * q ∧ n * q ≤ 5 * n := fun h => by
    have := Int.mul_le_mul_of_nonneg_left hg.1 (show 0 ≤ -n by omega)
    have := Int.mul_le_mul_of_nonneg_left hg.2 (show 0 ≤ -n by omega)
    simp only [Int.neg_mul] at *
    omega
  generalize n * q = m at k1 k2
  have hd : m / 256 = m / 128 / 2 := by omega
  rw [hd]
  refine ⟨fun h => ?_, fun h => ?_⟩
  · obtain ⟨a1, a2⟩ := k1 h
    have e1 : m / 128 ≤ 2 * n := by omega
    have e2 : 0 ≤ m / 128 := by omega
    rw [sat_id (by omega) (by omega)]
    omega
  · obtain ⟨a1, a2⟩ := k2 h
    have e1 : 2 * n ≤ m / 128 := by omega
    have e2 : m / 128 ≤ -1 := by omega
    rw [sat_id (by omega) (by omega)]
    omega
theorem some_of {p : Addr} {K : Addr → Prop} (h : K p) : someV (some p) K := h
theorem ActOpens_true (W : World) (a : Int) (wa : (Lit.int .i64 a).wf = true) (b : Int) (wb : (Lit.int .i64 b).wf = true) :
    Calls Try.prog i_coadjutorlaw14_ActOpens #[.int .i64 a, .int .i64 b] W (Ret fun v w' => v = .bool true ∧ Ch Non W w') := by
  have ia : inI a := wf_i64 wa
  have ib : inI b := wf_i64 wb
  refine coadjutorlaw14_ActOpens.calls _ _ ?_
  unfold coadjutorlaw14_ActOpens.vc
  refine step_call (awake_spec W) ?_
  rintro v w1 ⟨rfl, hc1⟩
  refine ⟨_, rfl, iteF rfl ⟨fun _ => ⟨rfl, hc1⟩, fun a1 => ⟨fun _ => ⟨rfl, hc1⟩, fun a2 => ⟨fun _ => ⟨rfl, hc1⟩, fun b1 => ⟨fun _ => ⟨rfl, hc1⟩, fun b2 => ?_⟩⟩⟩⟩⟩
  simp only [decide_eq_false_iff_not] at a1 a2 b1 b2
  have hx := thr_le a (n := a) (by omega) (by omega)
  have hy := thr_le a (n := b) (by omega) (by omega)
  refine step_call (Of_spec w1 ia) ?_
  rintro v w2 ⟨rfl, hc2⟩
  have hc2 := hc1.andN hc2
  refine ⟨_, rfl, fun hab => ?_, fun hab => ?_⟩
  · refine step_call (Gate_spec w2 ia) ?_
    rintro v w3 ⟨rfl, hc3⟩
    refine ⟨_, rfl, ?_⟩
    refine step_call (Gate_spec w3 ib) ?_
    rintro v w4 ⟨rfl, hc4⟩
    have hc4 := (hc2.andN hc3).andN hc4
    have hm := gate_mono (a := a) (b := b) (by simp at hab; omega)
    refine ⟨_, rfl, iteF (by simp; omega) ?_⟩
    rcases Int.lt_or_le a 0 with ha | ha
    · obtain ⟨y1, y2⟩ := hx.2 ha
      refine iteF (by simp; omega) (iteT (by simp; omega) (iteF (by simp; omega) (iteF (by simp; omega) ?_)))
      refine step_call (Gate_spec _ ia) ?_
      rintro v w5 ⟨rfl, hc5⟩
      refine ⟨_, rfl, fun w6 e6 w7 e7 => ?_⟩
      have h6 : Own w6 t_int 1 (some ⟨w5.heap.size, 0, none⟩) 1 1 (([a] : List Int).map (.int .i64)) (New w5 w6) := Own.made e6 rfl (by decide) ⟨Nat.le_refl _, (Blk.new e6).lt⟩
      have h7 : Own w7 t_int 1 (some ⟨w6.heap.size, 0, none⟩) 1 1 (([b] : List Int).map (.int .i64)) (New w6 w7) := Own.made e7 rfl (by decide) ⟨Nat.le_refl _, (Blk.new e7).lt⟩
      have hc7 : Ch Non W w7 := ((hc4.andN hc5).andN (Ch.alloc e6)).andN (Ch.alloc e7)
      refine step_call (Pairs_spec (gs := [a]) (xs := [b]) (h6.keepN (Ch.alloc e7)).rd h7.rd (by intro x hx; simp at hx; subst hx; exact ia) (by simp)) ?_
      rintro v w8 ⟨o, c, rfl, ho, hc8⟩
      have hp1 : pairsL [a] [b] = [thr a b] := by simp [pairsL]
      rw [hp1] at ho ⊢
      have hc8 := hc7.andN hc8
      obtain ⟨p, hp, _, _, hcell⟩ := ho.rd.getT (j := 0) (by simp)
      subst hp
      have hcell : w8.cell? p = some (.int .i64 (thr a b)) := by simpa [Addr.add] using hcell
      have hg := gate_le a
      refine ⟨_, _, _, rfl, iteT (by simp; omega) (iteT (by simp; omega) (iteT rfl ?_))⟩
      rcases Int.lt_or_le b 0 with hb | hb
      · obtain ⟨y1, y2⟩ := hy.2 hb
        exact iteF (by simp; omega) (iteT (by simp; omega) ⟨⟨by omega, by simp⟩, some_of ⟨_, hcell, iteT (by simp; omega) ⟨⟨by omega, by simp⟩, some_of ⟨_, hcell, by simp; omega, hc8⟩⟩⟩⟩)
      · obtain ⟨y1, y2⟩ := hy.1 hb
        exact iteT (by simp; omega) ⟨⟨by omega, by simp⟩, some_of ⟨_, hcell, iteT (by simp; omega) ⟨⟨by omega, by simp⟩, some_of ⟨_, hcell, iteT (by simp; omega) ⟨rfl, hc8⟩⟩⟩⟩⟩
    · obtain ⟨y1, y2⟩ := hx.1 ha
      refine iteT (by simp; omega) (iteF (by simp; omega) (iteF (by simp; omega) (iteF (by simp; omega) ?_)))
      refine step_call (Gate_spec _ ia) ?_
      rintro v w5 ⟨rfl, hc5⟩
      refine ⟨_, rfl, fun w6 e6 w7 e7 => ?_⟩
      have h6 : Own w6 t_int 1 (some ⟨w5.heap.size, 0, none⟩) 1 1 (([a] : List Int).map (.int .i64)) (New w5 w6) := Own.made e6 rfl (by decide) ⟨Nat.le_refl _, (Blk.new e6).lt⟩
      have h7 : Own w7 t_int 1 (some ⟨w6.heap.size, 0, none⟩) 1 1 (([b] : List Int).map (.int .i64)) (New w6 w7) := Own.made e7 rfl (by decide) ⟨Nat.le_refl _, (Blk.new e7).lt⟩
      have hc7 : Ch Non W w7 := ((hc4.andN hc5).andN (Ch.alloc e6)).andN (Ch.alloc e7)
      refine step_call (Pairs_spec (gs := [a]) (xs := [b]) (h6.keepN (Ch.alloc e7)).rd h7.rd (by intro x hx; simp at hx; subst hx; exact ia) (by simp)) ?_
      rintro v w8 ⟨o, c, rfl, ho, hc8⟩
      have hp1 : pairsL [a] [b] = [thr a b] := by simp [pairsL]
      rw [hp1] at ho ⊢
      have hc8 := hc7.andN hc8
      obtain ⟨p, hp, _, _, hcell⟩ := ho.rd.getT (j := 0) (by simp)
      subst hp
      have hcell : w8.cell? p = some (.int .i64 (thr a b)) := by simpa [Addr.add] using hcell
      have hg := gate_le a
      refine ⟨_, _, _, rfl, iteT (by simp; omega) (iteT (by simp; omega) (iteT rfl ?_))⟩
      rcases Int.lt_or_le b 0 with hb | hb
      · obtain ⟨y1, y2⟩ := hy.2 hb
        exact iteF (by simp; omega) (iteT (by simp; omega) ⟨⟨by omega, by simp⟩, some_of ⟨_, hcell, iteT (by simp; omega) ⟨⟨by omega, by simp⟩, some_of ⟨_, hcell, by simp; omega, hc8⟩⟩⟩⟩)
      · obtain ⟨y1, y2⟩ := hy.1 hb
        exact iteT (by simp; omega) ⟨⟨by omega, by simp⟩, some_of ⟨_, hcell, iteT (by simp; omega) ⟨⟨by omega, by simp⟩, some_of ⟨_, hcell, iteT (by simp; omega) ⟨rfl, hc8⟩⟩⟩⟩⟩
  · have hc4 := hc2
    rcases Int.lt_or_le a 0 with ha | ha
    · obtain ⟨y1, y2⟩ := hx.2 ha
      refine iteF (by simp; omega) (iteT (by simp; omega) (iteF (by simp; omega) (iteF (by simp; omega) ?_)))
      refine step_call (Gate_spec _ ia) ?_
      rintro v w5 ⟨rfl, hc5⟩
      refine ⟨_, rfl, fun w6 e6 w7 e7 => ?_⟩
      have h6 : Own w6 t_int 1 (some ⟨w5.heap.size, 0, none⟩) 1 1 (([a] : List Int).map (.int .i64)) (New w5 w6) := Own.made e6 rfl (by decide) ⟨Nat.le_refl _, (Blk.new e6).lt⟩
      have h7 : Own w7 t_int 1 (some ⟨w6.heap.size, 0, none⟩) 1 1 (([b] : List Int).map (.int .i64)) (New w6 w7) := Own.made e7 rfl (by decide) ⟨Nat.le_refl _, (Blk.new e7).lt⟩
      have hc7 : Ch Non W w7 := ((hc4.andN hc5).andN (Ch.alloc e6)).andN (Ch.alloc e7)
      refine step_call (Pairs_spec (gs := [a]) (xs := [b]) (h6.keepN (Ch.alloc e7)).rd h7.rd (by intro x hx; simp at hx; subst hx; exact ia) (by simp)) ?_
      rintro v w8 ⟨o, c, rfl, ho, hc8⟩
      have hp1 : pairsL [a] [b] = [thr a b] := by simp [pairsL]
      rw [hp1] at ho ⊢
      have hc8 := hc7.andN hc8
      obtain ⟨p, hp, _, _, hcell⟩ := ho.rd.getT (j := 0) (by simp)
      subst hp
      have hcell : w8.cell? p = some (.int .i64 (thr a b)) := by simpa [Addr.add] using hcell
      have hg := gate_le a
      refine ⟨_, _, _, rfl, iteT (by simp; omega) (iteT (by simp; omega) (iteT rfl ?_))⟩
      rcases Int.lt_or_le b 0 with hb | hb
      · obtain ⟨y1, y2⟩ := hy.2 hb
        exact iteF (by simp; omega) (iteT (by simp; omega) ⟨⟨by omega, by simp⟩, some_of ⟨_, hcell, iteT (by simp; omega) ⟨⟨by omega, by simp⟩, some_of ⟨_, hcell, by simp; omega, hc8⟩⟩⟩⟩)
      · obtain ⟨y1, y2⟩ := hy.1 hb
        exact iteT (by simp; omega) ⟨⟨by omega, by simp⟩, some_of ⟨_, hcell, iteT (by simp; omega) ⟨⟨by omega, by simp⟩, some_of ⟨_, hcell, iteT (by simp; omega) ⟨rfl, hc8⟩⟩⟩⟩⟩
    · obtain ⟨y1, y2⟩ := hx.1 ha
      refine iteT (by simp; omega) (iteF (by simp; omega) (iteF (by simp; omega) (iteF (by simp; omega) ?_)))
      refine step_call (Gate_spec _ ia) ?_
      rintro v w5 ⟨rfl, hc5⟩
      refine ⟨_, rfl, fun w6 e6 w7 e7 => ?_⟩
      have h6 : Own w6 t_int 1 (some ⟨w5.heap.size, 0, none⟩) 1 1 (([a] : List Int).map (.int .i64)) (New w5 w6) := Own.made e6 rfl (by decide) ⟨Nat.le_refl _, (Blk.new e6).lt⟩
      have h7 : Own w7 t_int 1 (some ⟨w6.heap.size, 0, none⟩) 1 1 (([b] : List Int).map (.int .i64)) (New w6 w7) := Own.made e7 rfl (by decide) ⟨Nat.le_refl _, (Blk.new e7).lt⟩
      have hc7 : Ch Non W w7 := ((hc4.andN hc5).andN (Ch.alloc e6)).andN (Ch.alloc e7)
      refine step_call (Pairs_spec (gs := [a]) (xs := [b]) (h6.keepN (Ch.alloc e7)).rd h7.rd (by intro x hx; simp at hx; subst hx; exact ia) (by simp)) ?_
      rintro v w8 ⟨o, c, rfl, ho, hc8⟩
      have hp1 : pairsL [a] [b] = [thr a b] := by simp [pairsL]
      rw [hp1] at ho ⊢
      have hc8 := hc7.andN hc8
      obtain ⟨p, hp, _, _, hcell⟩ := ho.rd.getT (j := 0) (by simp)
      subst hp
      have hcell : w8.cell? p = some (.int .i64 (thr a b)) := by simpa [Addr.add] using hcell
      have hg := gate_le a
      refine ⟨_, _, _, rfl, iteT (by simp; omega) (iteT (by simp; omega) (iteT rfl ?_))⟩
      rcases Int.lt_or_le b 0 with hb | hb
      · obtain ⟨y1, y2⟩ := hy.2 hb
        exact iteF (by simp; omega) (iteT (by simp; omega) ⟨⟨by omega, by simp⟩, some_of ⟨_, hcell, iteT (by simp; omega) ⟨⟨by omega, by simp⟩, some_of ⟨_, hcell, by simp; omega, hc8⟩⟩⟩⟩)
      · obtain ⟨y1, y2⟩ := hy.1 hb
        exact iteT (by simp; omega) ⟨⟨by omega, by simp⟩, some_of ⟨_, hcell, iteT (by simp; omega) ⟨⟨by omega, by simp⟩, some_of ⟨_, hcell, iteT (by simp; omega) ⟨rfl, hc8⟩⟩⟩⟩⟩
end Go.Proofs.Ytddgcdlljkooiaa.Act
