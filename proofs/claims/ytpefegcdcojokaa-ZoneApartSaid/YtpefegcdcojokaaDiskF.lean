/- DiskFuse's contract: of all rows of deeds and every fuse the Go function answers true and leaves what was there; the conditions stand in each theorem. -/
import Derived.Test.YtpefegcdcojokaaDiskL
set_option linter.unusedVariables false
set_option linter.unusedSimpArgs false
namespace Go.Proofs.Ytpefegcdcojokaa.Disk
open Go Go.Proofs Go.Proofs.Ytpefegcdcojokaa.V Go.Proofs.Ytpefegcdcojokaa.Vc Go.RowKit

structure FInv (N j : Nat) (x : DkD) : Prop where
  aw : x.away = decide (N < j)
  dn : x.done = ((min j N : Nat) : Int)
  fu : j ≤ N → x.fuse = (N : Int) - j
  sl : x.safe.length = 4
  ll : x.loose.length ≤ j
theorem FInv.past {N j : Nat} {x : DkD} (h : FInv N j x) (hj : N < j) : FInv N (j + 1) x :=
  ⟨by rw [h.aw, decide_eq_true hj, decide_eq_true (by omega)], by rw [h.dn]; congr 1; omega, fun h => by omega, h.sl, by have := h.ll; omega⟩
theorem FInv.cut {N j : Nat} {x : DkD} (h : FInv N j x) (hj : j = N) : FInv N (j + 1) (cutC x x.keep) := by
  have ha : x.away = false := by rw [h.aw]; exact decide_eq_false (by omega)
  unfold cutC
  rw [if_neg (by rw [ha]; decide)]
  refine ⟨(decide_eq_true (by omega)).symm, ?_, fun h => by omega, ?_, Nat.zero_le _⟩
  · show x.done = _
    rw [h.dn]; congr 1; omega
  · show (layN _ _ _ _).length = 4
    rw [layN_len]; exact h.sl
theorem FInv.sync {N j : Nat} {x : DkD} (h : FInv N j x) : (syncC x).1 = (if j < N then 0 else 4) ∧ FInv N (j + 1) (syncC x).2 := by
  unfold syncC
  by_cases h1 : N < j
  · have ha : x.away = true := by rw [h.aw]; exact decide_eq_true h1
    rw [if_pos ha, if_neg (by omega)]
    exact ⟨rfl, h.past h1⟩
  have ha : x.away = false := by rw [h.aw]; exact decide_eq_false h1
  rw [if_neg (show ¬ x.away = true by rw [ha]; decide)]
  have hf := h.fu (by omega)
  unfold useC
  by_cases h2 : j = N
  · rw [if_pos (show x.fuse = 0 by omega), if_neg (show ¬ j < N by omega)]
    exact ⟨rfl, h.cut h2⟩
  · rw [if_neg (show ¬ x.fuse = 0 by omega), if_pos (show j < N by omega)]
    refine ⟨rfl, by show x.away = _; rw [ha]; exact (decide_eq_false (by omega)).symm, ?_, fun _ => ?_, ?_, Nat.zero_le _⟩
    · show x.done + 1 = _
      rw [h.dn]; omega
    · show max (x.fuse - 1) (-1) = _
      omega
    · show (layN _ _ _ _).length = 4
      rw [layN_len]; exact h.sl
theorem FInv.write {N j : Nat} {x : DkD} (h : FInv N j x) {q : Int} {l : List UInt8} (hq : 0 ≤ q ∧ q < 4) (hl : l.length = 32) : (writeC x q l).1 = (if j < N then 0 else 4) ∧ FInv N (j + 1) (writeC x q l).2 := by
  unfold writeC
  rw [if_neg (by omega)]
  have hs := h.sl
  by_cases h1 : N < j
  · have ha : x.away = true := by rw [h.aw]; exact decide_eq_true h1
    have hc : chk x q = 4 := by unfold chk; rw [if_neg (by omega), if_pos ha]
    rw [hc, if_pos (by decide), if_neg (by omega)]
    exact ⟨rfl, h.past h1⟩
  have ha : x.away = false := by rw [h.aw]; exact decide_eq_false h1
  have hc : chk x q = 0 := by unfold chk; rw [if_neg (by omega), ha]; rfl
  rw [hc, if_neg (by decide)]
  have hf := h.fu (by omega)
  unfold useC
  by_cases h2 : j = N
  · rw [if_pos (show x.fuse = 0 by omega), if_neg (show ¬ j < N by omega)]
    exact ⟨rfl, h.cut h2⟩
  · rw [if_neg (show ¬ x.fuse = 0 by omega), if_pos (show j < N by omega)]
    refine ⟨rfl, by show x.away = _; rw [ha]; exact (decide_eq_false (by omega)).symm, ?_, fun _ => ?_, hs, ?_⟩
    · show x.done + 1 = _
      rw [h.dn]; omega
    · show max (x.fuse - 1) (-1) = _
      omega
    · show (x.loose ++ [(q, l)]).length ≤ _
      rw [List.length_append]
      have := h.ll
      simp; omega
theorem mod_u64 (x : Int) (m : Nat) (hm : 0 < m) (hm2 : m ≤ 1000) : ∃ N : Nat, IntKind.i64.wrap (Int.tmod (IntKind.u64.wrap x) m) = N ∧ N < m := by
  have h := wrap_u64 x
  have h0 : 0 ≤ IntKind.u64.wrap x := by rw [h]; omega
  have h1 := Int.emod_nonneg (IntKind.u64.wrap x) (b := (m : Int)) (by omega)
  have h2 := Int.emod_lt_of_pos (IntKind.u64.wrap x) (b := (m : Int)) (by omega)
  refine ⟨(IntKind.u64.wrap x % (m : Int)).toNat, ?_, by omega⟩
  rw [tmod_pos h0, wrap_id (by omega) (by omega)]; omega
theorem u8_in {x : Int} (h : (Lit.int .u8 x).wf = true) : 0 ≤ x ∧ x < 256 := by
  have := h
  simp [Lit.wf] at this
  have h1 : IntKind.u8.min = 0 := by decide
  have h2 : IntKind.u8.max = 255 := by decide
  rw [h1, h2] at this
  omega
set_option maxRecDepth 100000 in
set_option maxHeartbeats 4000000 in
theorem DiskFuse_true (W : World) (o : Option Addr) (n c : Nat) (h0 : DatC Try.prog W t_S_uint8 [.slice o n c]) (fuse : Int) (hf0 : (Lit.int .i64 fuse).wf = true) :
    Calls Try.prog i_coadjutorlaw04_DiskFuse #[.slice o n c, .int .i64 fuse] W (Ret fun v w' => v = .bool true ∧ Ch Non W w') := by
  obtain ⟨o', c', xs, hcs, _, hcm, _, hwf, hr⟩ := h0.ints (k := .u8) (e := t_uint8) (by kernel_rfl) (by kernel_rfl)
  injection hcs with hcs
  injection hcs with q1 q2 q3
  subst q1; subst q2; subst q3
  have hr : Rd W o (xs.map (.int .u8)) (fun i => i < W.heap.size) := hr.mono (fun i hi _ => hi)
  refine coadjutorlaw04_DiskFuse.calls _ _ _ _ ?_
  unfold coadjutorlaw04_DiskFuse.vc
  refine step_call (awake_spec W) ?_
  rintro v w1 ⟨rfl, hc1⟩
  refine ⟨_, rfl, iteF rfl (step_call (S_new hc1 4) ?_)⟩
  rintro v w2 ⟨d, F2, rfl, hS2, hF2, hc2⟩
  obtain ⟨N, hN, hN31⟩ := mod_u64 fuse 31 (by omega) (by omega)
  have hN : IntKind.i64.wrap (Int.tmod (IntKind.u64.wrap fuse) 31) = (N : Int) := hN
  rw [hN]
  refine ⟨_, rfl, by decide, fun w3 e3 => ?_⟩
  have hb3 : Blk w3 w2.heap.size ((List.replicate 10 true).map Value.bool) 4 := Blk.new e3
  refine step_call (S_fuse (hS2.keepN (Ch.alloc e3)) N (by omega) (ks := List.replicate 10 true) hb3.rd (by decide) 10) ?_
  rintro v w4 ⟨rfl, F4, hS4, hE4, hc4⟩
  have hI0 : FInv N 0 (fuseC (diskOf (List.replicate (newN 4) zeros32)) N (List.replicate 10 true)) := by
    have e : fuseC (diskOf (List.replicate (newN 4) zeros32)) N (List.replicate 10 true) = { diskOf (List.replicate (newN 4) zeros32) with fuse := max (N : Int) (-1), keep := List.replicate 10 true } := rfl
    rw [e]
    exact ⟨rfl, by show (0 : Int) = _; omega, fun _ => by show max (N : Int) (-1) = _; omega, rfl, Nat.zero_le _⟩
  generalize fuseC (diskOf (List.replicate (newN 4) zeros32)) N (List.replicate 10 true) = x0 at hS4 hI0
  refine ⟨rfl, fun i k w' => ∃ (j : Nat) (x : DkD) (F : Nat → Prop), i = j ∧ j ≤ xs.length ∧ j ≤ 30 ∧ k = xs.length - j ∧ DkS W w' d x F ∧ FInv N j x, ⟨_, 0, x0, F4, rfl, Nat.zero_le _, by omega, rfl, hS4, hI0⟩, ?_⟩
  clear hS4 hI0 hS2 hc4 hE4 hb3 e3 hc2 hF2 hc1
  rintro jk i k w5 ⟨j, x, F, rfl, hj, hj30, rfl, hS, hI⟩
  refine ⟨fun hlt => ⟨fun h30 => ?_, fun h30 => ?_⟩, fun hge => ?_⟩
  · have hlt : j < xs.length := by have := of_decide_eq_true hlt; omega
    have h30 : j + 1 ≤ 30 := by have := of_decide_eq_true h30; omega
    have hjj : (j : Int).toNat * 1 = j := by omega
    have hfar : ∀ i, i < W.heap.size → ¬ F i := fun i hi hf => by have := (hS.f i hf).1; omega
    have hr5 := hr.keepN hS.c
    have hx8 := u8_in (hwf _ (List.getElem_mem hlt))
    have hll := hI.ll
    have hdn := hI.dn
    obtain ⟨pa, hpa, _, _, hcx⟩ := hr5.getT hlt
    have hrS : ∀ w', Ch F w5 w' → w'.cell? (pa.add j) = some (.int .u8 xs[j]) := fun w' hc => by
      obtain ⟨pb, hpb, _, _, hcy⟩ := (hr5.keep hc (fun i _ hi => hfar i hi)).getT hlt
      rw [hpa] at hpb; injection hpb with hpb; subst hpb; exact hcy
    subst hpa
    generalize xs[j] = b at hcx hx8 hrS
    rw [hjj]
    refine ⟨⟨by omega, by omega⟩, _, hcx, by decide, fun h5 => ?_, fun h5 => ?_⟩
    · refine step_call (S_sync hS (by omega)) ?_
      obtain ⟨e1, hinv⟩ := hI.sync
      rw [e1]
      generalize (syncC x).2 = x' at hinv
      rintro v w6 ⟨rfl, F', hS', _, _⟩
      have hN0 : ((j : Int) < (N : Int)) ↔ j < N := by omega
      by_cases hjN : j < N
      · rw [if_pos hjN]
        refine ⟨_, rfl, iteF (by rw [decide_eq_true (hN0.2 hjN)]; rfl) (iteF rfl (step_call (S_on hS') ?_))⟩
        rintro v wz ⟨rfl, rfl⟩
        have ha : (!x'.away) = true := by rw [hinv.aw, decide_eq_false (by omega)]; rfl
        rw [ha]
        exact ⟨_, rfl, iteF (by rw [decide_eq_true (hN0.2 hjN)]; rfl) ⟨xs.length - (j + 1), by omega, j + 1, x', F', by rw [wrap_id (by omega) (by omega)]; rfl, hlt, h30, rfl, hS', hinv⟩⟩
      · rw [if_neg hjN]
        refine ⟨_, rfl, iteF (by rw [decide_eq_false (fun h => hjN (hN0.1 h))]; rfl) (iteT rfl (iteF rfl (step_call (S_on hS') ?_)))⟩
        rintro v wz ⟨rfl, rfl⟩
        have ha : (!x'.away) = false := by rw [hinv.aw, decide_eq_true (by omega)]; rfl
        rw [ha]
        exact ⟨_, rfl, iteF (by rw [decide_eq_false (fun h => hjN (hN0.1 h))]; rfl) ⟨xs.length - (j + 1), by omega, j + 1, x', F', by rw [wrap_id (by omega) (by omega)]; rfl, hlt, h30, rfl, hS', hinv⟩⟩
    · refine ⟨fun w' => Ch F w5 w', fun w9 e9 => ⟨Ch.drew e9, ⟨by omega, by omega⟩, _, hrS, by decide, ⟨by omega, by omega⟩, _, hrS, step_call (of_spec w9 hx8) ?_⟩⟩
      rintro v w12 ⟨rfl, hc12⟩
      have hc512 : Ch Non w5 w12 := (Ch.drew e9).andN hc12
      have hq : IntKind.i64.wrap (Int.tmod b 4) = b % 4 := by rw [tmod_pos hx8.1, wrap_id (by omega) (by omega)]
      rw [hq]
      refine ⟨_, rfl, hc512.any, step_call (S_write (hS.keepN hc512) (by omega) (by omega) (b % 4) (ofL b)) ?_⟩
      obtain ⟨e1, hinv⟩ := hI.write (q := b % 4) (l := ofL b) ⟨by omega, by omega⟩ (ofL_len b)
      rw [e1]
      generalize (writeC x (b % 4) (ofL b)).2 = x' at hinv
      rintro v w13 ⟨rfl, F', hS', _, hc13⟩
      have hvs : Ch F w5 w13 := hc512.any.same hc13
      have hN0 : ((j : Int) < (N : Int)) ↔ j < N := by omega
      by_cases hjN : j < N
      · rw [if_pos hjN]
        refine ⟨_, rfl, hvs, iteF (by rw [decide_eq_true (hN0.2 hjN)]; rfl) (iteF rfl (step_call (S_on hS') ?_))⟩
        rintro v wz ⟨rfl, rfl⟩
        have ha : (!x'.away) = true := by rw [hinv.aw, decide_eq_false (by omega)]; rfl
        rw [ha]
        exact ⟨_, rfl, iteF (by rw [decide_eq_true (hN0.2 hjN)]; rfl) ⟨xs.length - (j + 1), by omega, j + 1, x', F', by rw [wrap_id (by omega) (by omega)]; rfl, hlt, h30, rfl, hS', hinv⟩⟩
      · rw [if_neg hjN]
        refine ⟨_, rfl, hvs, iteF (by rw [decide_eq_false (fun h => hjN (hN0.1 h))]; rfl) (iteT rfl (iteF rfl (step_call (S_on hS') ?_)))⟩
        rintro v wz ⟨rfl, rfl⟩
        have ha : (!x'.away) = false := by rw [hinv.aw, decide_eq_true (by omega)]; rfl
        rw [ha]
        exact ⟨_, rfl, iteF (by rw [decide_eq_false (fun h => hjN (hN0.1 h))]; rfl) ⟨xs.length - (j + 1), by omega, j + 1, x', F', by rw [wrap_id (by omega) (by omega)]; rfl, hlt, h30, rfl, hS', hinv⟩⟩
  · have hlt : j < xs.length := by have := of_decide_eq_true hlt; omega
    have h30 : j = 30 := by have := of_decide_eq_false h30; omega
    refine step_call (S_done hS) ?_
    rintro v wz ⟨rfl, rfl⟩
    refine ⟨_, rfl, ?_, hS.c⟩
    rw [hI.dn]
    congr 1
    have : (if (if (30 : Int) < (xs.length : Int) then (30 : Int) else (xs.length : Int)) < (N : Int) then (if (30 : Int) < (xs.length : Int) then (30 : Int) else (xs.length : Int)) else (N : Int)) = ((min j N : Nat) : Int) := by (repeat' split) <;> omega
    rw [this]
    exact beq_self_eq_true _
  · have hge : j = xs.length := by have := of_decide_eq_false hge; omega
    refine step_call (S_done hS) ?_
    rintro v wz ⟨rfl, rfl⟩
    refine ⟨_, rfl, ?_, hS.c⟩
    rw [hI.dn]
    congr 1
    have : (if (if (30 : Int) < (xs.length : Int) then (30 : Int) else (xs.length : Int)) < (N : Int) then (if (30 : Int) < (xs.length : Int) then (30 : Int) else (xs.length : Int)) else (N : Int)) = ((min j N : Nat) : Int) := by (repeat' split) <;> omega
    rw [this]
    exact beq_self_eq_true _
end Go.Proofs.Ytpefegcdcojokaa.Disk
