/- For every index of beginnings: what the laws' own helpers answer; the conditions stand in each theorem. -/
import Derived.Test.YtpcddfhfchempaaPrefix5
import Derived.Test.YtpcddfhfchempaaVcPrefixL
set_option linter.unusedVariables false
set_option linter.unusedSimpArgs false
namespace Go.Proofs.Ytpcddfhfchempaa.Prefix
open Go Go.Proofs Go.Proofs.Ytpcddfhfchempaa.V Go.Proofs.Ytpcddfhfchempaa.Vc Go.Proofs.Ytpcddfhfchempaa.Step Go.Proofs.Ytpcddfhfchempaa.Pages Go.RowKit

theorem ints_spec {w : World} {o ob : Option Addr} {xs ys : List Int} {F G : Nat → Prop} (ha : Rd w o (xs.map (.int .i64)) F) (hb : Rd w ob (ys.map (.int .i64)) G) (hl : xs.length ≤ 1000000000) (c cb : Nat) :
    Calls Try.prog i_coadjutorlaw23_ints #[.slice o xs.length c, .slice ob ys.length cb] w (Ret fun v w' => v = .bool (decide (xs = ys)) ∧ Ch Non w w') := by
  refine coadjutorlaw23_ints.calls _ _ _ _ _ _ ?_
  unfold coadjutorlaw23_ints.vc
  refine ⟨fun h => ?_, fun h => ?_⟩
  · have h : xs.length ≠ ys.length := by simp at h; omega
    exact ⟨by rw [decide_eq_false (fun e => h (by rw [e]))], Ch.refl _ _⟩
  have h : xs.length = ys.length := by simp at h; omega
  refine ⟨fun i k w' => ∃ j : Nat, i = j ∧ j ≤ xs.length ∧ k = xs.length - j ∧ xs.take j = ys.take j ∧ Ch Non w w', ⟨_, 0, rfl, Nat.zero_le _, rfl, rfl, Ch.refl _ _⟩, ?_⟩
  rintro jk i k w1 ⟨j, rfl, hj, rfl, he, hc⟩
  refine ⟨fun hlt => ?_, fun hge => ?_⟩
  · have hlt : j < xs.length := by simpa using hlt
    have hlt2 : j < ys.length := by omega
    refine ⟨fun w2 => Ch Non w w2, fun w2 e2 => ⟨hc.andN (Ch.drew e2), ⟨by omega, by omega⟩, Rd.keeps (j := (j : Int).toNat * 1) (S := fun w2 => Ch Non w w2) (fun w2 h2 => ha.keepN h2) hc (by simpa using hlt) fun p hp => ⟨_, hp, ⟨by omega, by omega⟩,
      Rd.keeps (j := (j : Int).toNat * 1) (S := fun w2 => Ch Non w w2) (fun w2 h2 => hb.keepN h2) hc (by simpa using hlt2) fun p2 hp2 => ⟨_, hp2, fun hne => ?_, fun heq => ?_⟩⟩⟩⟩
    · refine ⟨?_, hc.andN (Ch.drew e2)⟩
      rw [decide_eq_false]
      intro e
      subst e
      simp at hne
    · have heq : xs[j] = ys[j] := by simpa using heq
      refine ⟨xs.length - (j + 1), by omega, j + 1, by rw [wrap_id (by omega) (by omega)]; rfl, hlt, rfl, ?_, hc.andN (Ch.drew e2)⟩
      rw [take_snoc xs j hlt, take_snoc ys j hlt2, he, heq]
  · have : j = xs.length := by simp at hge; omega
    subst this
    rw [List.take_length, h, List.take_length] at he
    exact ⟨by rw [decide_eq_true he], hc⟩
/-- An entry that a page's number tells, pages with so many of it, a pool of full ones. -/
def e1 (i : Int) : Ent := ([[i]], [])
def pgK (i k : Nat) : PageD := ⟨1 + (i : Int) % 2, 1, List.replicate k (e1 i)⟩
def fullS (n i : Nat) : List PageD := (List.range n).map fun j => if j < i then pgK j 4 else pg0
def fullP (n : Nat) : List PageD := (List.range n).map fun j => pgK j 4
theorem fullS_len (n i : Nat) : (fullS n i).length = n := by simp [fullS]
theorem fullS_get {n i j : Nat} (h : j < (fullS n i).length) : (fullS n i)[j] = if j < i then pgK j 4 else pg0 := by simp [fullS]
theorem fullS_all (n : Nat) : fullS n n = fullP n := by
  unfold fullS fullP
  refine List.map_congr_left fun j hj => ?_
  rw [if_pos (by simpa using hj)]
theorem fullS_zero (n : Nat) : fullS n 0 = List.replicate n pg0 := by
  unfold fullS
  apply List.ext_getElem
  · simp
  · intro j h1 h2; simp
theorem fullS_set {n i : Nat} (hi : i < n) : (fullS n i).set i (pgK i 4) = fullS n (i + 1) := by
  apply List.ext_getElem
  · simp [fullS_len]
  · intro j h1 h2
    rw [List.getElem_set, fullS_get, fullS_get]
    by_cases h : i = j
    · subst h; rw [if_pos rfl, if_pos (by omega)]
    · rw [if_neg h]
      by_cases h3 : j < i
      · rw [if_pos h3, if_pos (by omega)]
      · rw [if_neg h3, if_neg (by omega)]
theorem fullS_take {n i : Nat} (hi : i < n) : takeI (fullS n i) = i := by
  unfold takeI
  refine (List.findIdx_eq (by rw [fullS_len]; exact hi)).2 ⟨?_, fun m hm => ?_⟩
  · rw [fullS_get, if_neg (Nat.lt_irrefl _)]; rfl
  · rw [fullS_get, if_pos hm]; rfl
theorem e1_small (i : Int) : smallE (e1 i) := ⟨⟨by simp [e1], fun xs h => by simp [e1] at h; subst h; simp⟩, ⟨by simp [e1], fun xs h => by simp [e1] at h⟩⟩
theorem e1_lay {w w1 w2 : World} {i : Int} (a1 : w1 = w.alloc (.cells #[.int .i64 i] 3 (0, 0))) (a2 : w2 = w1.alloc (.cells #[.slice (some ⟨w.heap.size, 0, none⟩) 1 1] 27 (0, 0))) :
    EntV w2 (.slice (some ⟨w1.heap.size, 0, none⟩) 1 1, .slice none 0 0) (e1 i) (New w w2) ∧ Ch Non w w2 := by
  have hA := (Blk.new a1).alloc a2
  have hB := Blk.new a2
  have s1 : w.heap.size < w1.heap.size := (Blk.new a1).lt
  have s2 : w1.heap.size < w2.heap.size := hB.lt
  have hb : Rd w2 (some ⟨w.heap.size, 0, none⟩) (([i] : List Int).map (.int .i64)) (· = w.heap.size) := hA.rd
  have hc : Rd w2 (some ⟨w1.heap.size, 0, none⟩) [.slice (some ⟨w.heap.size, 0, none⟩) 1 1] (· = w1.heap.size) := hB.rd
  refine ⟨⟨⟨_, _, [.slice (some ⟨w.heap.size, 0, none⟩) 1 1], rfl, hc.mono (fun j _ hj => ⟨by omega, by omega⟩), .cons ⟨_, _, rfl, hb.mono (fun j _ hj => ⟨by omega, by omega⟩)⟩ .nil⟩, RowsV.nil _ _⟩, (Ch.alloc a1).andN (Ch.alloc a2)⟩
theorem mid_put {n i k : Nat} (hi : i < n) (hk : k < 4) : putV ((fullS n i).set i (pgK i k)) (i : Int) = 0 ∧ putP ((fullS n i).set i (pgK i k)) (i : Int) (e1 i) = (fullS n i).set i (pgK i (k + 1)) := by
  have hl : ((fullS n i).set i (pgK i k)).length = n := by rw [List.length_set, fullS_len]
  have hat : pgAt ((fullS n i).set i (pgK i k)) (i : Int) = pgK i k := by
    rw [pgAt_lt (by omega) (by rw [hl]; simpa using hi)]
    simp
  have hb : isB ((fullS n i).set i (pgK i k)) (i : Int) = true := by
    unfold isB; rw [hat]; rfl
  have hv : putV ((fullS n i).set i (pgK i k)) (i : Int) = 0 := by
    unfold putV
    rw [hb, if_pos rfl, hat, if_neg (by simp [pgK]), if_neg (by simp [pgK]; omega)]
  refine ⟨hv, ?_⟩
  unfold putP
  rw [hv, if_pos rfl, hat, Int.toNat_natCast, List.set_set]
  congr 1
  simp [pgK, List.replicate_succ']
theorem full_good (n : Nat) : Pages.Good n 1 (fullP n) := ⟨by simp [fullP], fun p hp => by
  obtain ⟨j, _, rfl⟩ := List.mem_map.1 hp
  exact ⟨by simp [pgK], by simp [pgK], fun h => by simp [pgK] at h, by simp [pgK]⟩⟩
theorem full_spec {W w : World} (hW : Ch Non W w) (n : Nat) (hn : 1 ≤ n ∧ n ≤ 64) : Calls Try.prog i_coadjutorlaw23_full #[.int .i64 n] w (Ret fun v w' => ∃ (pb ub : Nat) (F FU : Nat → Prop), v = .tuple #[.pointer (some ⟨pb, 0, none⟩), .pointer (some ⟨ub, 0, none⟩)] ∧ Both W w' pb ub (fullP n) (fullP n) F FU) := by
  refine coadjutorlaw23_full.calls _ ?_
  unfold coadjutorlaw23_full.vc
  refine step_call (New_spec w n (by omega)) ?_
  rintro v w2 ⟨pb, rfl, hr2, hc2⟩
  refine ⟨_, rfl, ?_⟩
  refine step_call (RefNew_spec w2 n (by omega)) ?_
  rintro v w3 ⟨ub, rfl, hr3, hc3⟩
  rw [Int.toNat_natCast, ← fullS_zero] at hr2 hr3
  have hB3 : Both W w3 pb ub (fullS n 0) (fullS n 0) (New w w2) (New w2 w3) :=
    ⟨⟨hr2.keepN hc3, (Foot.new hW).le hc3.size, (hW.andN hc2).andN hc3⟩, hr3, Foot.new (hW.andN hc2), fun i h1 h2 => by have := h1.2; have := h2.1; omega⟩
  refine ⟨_, rfl, fun i f w' => ∃ (j : Nat) (F FU : Nat → Prop), i = j ∧ j ≤ n ∧ f = n - j ∧ Both W w' pb ub (fullS n j) (fullS n j) F FU, ⟨_, 0, _, _, rfl, Nat.zero_le _, rfl, hB3⟩, ?_⟩
  clear hB3 hr2 hr3 hc2 hc3 hW
  rintro jk i f w3 ⟨j, F, FU, rfl, hj, rfl, hB⟩
  refine ⟨fun hlt => ?_, fun hge => ?_⟩
  rotate_left
  · have : j = n := by have := of_decide_eq_false hge; omega
    subst this
    rw [fullS_all] at hB
    exact ⟨pb, ub, F, FU, rfl, hB⟩
  have hlt : j < n := by have := of_decide_eq_true hlt; omega
  have hv : IntKind.i64.wrap (1 + Int.tmod (j : Int) 2) = 1 + (j : Int) % 2 := by
    rw [tmod_pos (by omega)]
    have := Int.emod_nonneg (j : Int) (show (2 : Int) ≠ 0 by omega)
    have := Int.emod_lt_of_pos (j : Int) (show (0 : Int) < 2 by omega)
    rw [wrap_id (by omega) (by omega)]
  rw [hv]
  have tv : takeV (fullS n j) (1 + (j : Int) % 2) = ((j : Int), 0) ∧ takeP (fullS n j) (1 + (j : Int) % 2) = (fullS n j).set j (pgK j 0) := by
    have h1 := Int.emod_nonneg (j : Int) (show (2 : Int) ≠ 0 by omega)
    have h2 := Int.emod_lt_of_pos (j : Int) (show (0 : Int) < 2 by omega)
    unfold takeV takeP
    have hcv : ¬ (1 + (j : Int) % 2 < 1 ∨ 1 + (j : Int) % 2 > 2147483647) := by omega
    rw [if_neg hcv, if_pos (by rw [fullS_take hlt, fullS_len]; exact hlt), if_neg hcv, fullS_take hlt]
    exact ⟨rfl, rfl⟩
  refine ⟨by decide, ?_⟩
  refine step_call (Take_spec hB.p.r _) ?_
  rintro v w4 ⟨rfl, hr4, hc4⟩
  rw [tv.2] at hr4
  have hB4 := hB.stepP0 hr4 hc4
  refine ⟨_, _, rfl, by decide, ?_⟩
  refine step_call (RefTake_spec hB4.r _) ?_
  rintro v w5 ⟨rfl, hr5, hc5⟩
  rw [tv.2] at hr5
  have hB5 := hB4.stepR (hr5.mono (fun i _ hi => .inl hi)) hc5
  refine ⟨_, _, rfl, fun kk f w' => ∃ (m : Nat) (F FU : Nat → Prop), kk = m ∧ m ≤ 4 ∧ f = 4 - m ∧ Both W w' pb ub ((fullS n j).set j (pgK j m)) ((fullS n j).set j (pgK j m)) F FU, ⟨_, 0, _, _, rfl, by omega, rfl, hB5⟩, ?_⟩
  clear hB5 hr4 hr5 hc4 hc5 hB4 hB tv hv
  rintro jk kk f w6 ⟨m, F, FU, rfl, hm, rfl, hB⟩
  refine ⟨fun hlt2 w7 a7 w8 a8 => ?_, fun hge2 => ?_⟩
  rotate_left
  · have : m = 4 := by have := of_decide_eq_false hge2; omega
    subst this
    rw [fullS_set hlt] at hB
    exact ⟨n - (j + 1), by omega, j + 1, F, FU, by rw [wrap_id (by omega) (by omega)]; rfl, hlt, rfl, hB⟩
  have hlt2 : m < 4 := by have := of_decide_eq_true hlt2; omega
  obtain ⟨hv, hp⟩ := mid_put hlt hlt2
  obtain ⟨he8, hc8⟩ := e1_lay a7 a8
  have hB8 := hB.keepN hc8
  refine step_call (Put_spec (p := (_, _)) hB8.p.r _ he8 (e1_small _)) ?_
  rintro v w9 ⟨rfl, hr9, hc9⟩
  rw [hp] at hr9
  have hB9 := hB8.stepP hr9 hc9
  refine ⟨_, rfl, fun w10 a10 w11 a11 => ?_⟩
  obtain ⟨he11, hc11⟩ := e1_lay a10 a11
  have hB11 := hB9.keepN hc11
  have hfu := hB9.fu
  refine step_call (RefPut_spec (p := (_, _)) hB11.r hB11.fu _ he11 (fun i hi => ⟨hi.2, fun hu => by have := hfu i hu; have := hi.1; omega⟩) (e1_small _)) ?_
  rintro v w12 ⟨rfl, hr12, hc12⟩
  rw [hp] at hr12
  have hpl := hB9.p.lt
  have hB12 := hB11.stepE hr12 hc12 (fun i hi => ⟨by have := hi.1; have := hB9.p.c.size; omega, hi.2, fun hF => by have := hpl i hF; have := hi.1; omega⟩)
  exact ⟨_, rfl, 4 - (m + 1), by omega, m + 1, _, _, by rw [wrap_id (by omega) (by omega)]; rfl, hlt2, rfl, hB12⟩
theorem New_spec {W w : World} {pb k : Nat} {B : Int} {ps : List PageD} {FP : Nat → Prop} (h : Pool W w pb ps FP) (hg : Pages.Good k B ps) : Calls Try.prog i_prefix_New #[.pointer (some ⟨pb, 0, none⟩)] w (Ret fun v w' => ∃ xb, v = .pointer (some ⟨xb, 0, none⟩) ∧ PX W w' pb xb k B ps [] FP (New w w') ∧ Ch Non w w') := by
  refine prefix_New.calls _ ?_
  unfold prefix_New.vc
  intro w1 a1
  have hc : Ch Non w w1 := Ch.alloc a1
  have hB := Blk.new a1
  refine ⟨_, rfl, ⟨h.keepN hc, ⟨none, 0, [], fun k i => k = 0 ∧ i = w.heap.size, ⟨⟨fun k i hi => by have := hB.lt; omega, fun j k hjk i h1 h2 => by omega⟩, ⟨rfl, rfl⟩, hB, Own.nil _ _ _ _, rfl⟩, fun k i hi => ⟨by omega, by have := hB.lt; omega⟩, .nil⟩, hg, Foot.new h.c, fun i hi hf => by have := h.lt i hf; have := hi.1; omega⟩, hc⟩
theorem New_nil (w : World) : Calls Try.prog i_prefix_New #[.pointer none] w (Ret fun v w' => v = .pointer none ∧ w' = w) := prefix_New.calls_nil ⟨rfl, rfl⟩
end Go.Proofs.Ytpcddfhfchempaa.Prefix
