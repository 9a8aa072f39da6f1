/- ActExact's and ActAll's contracts: of all rows of whole numbers the Go functions answer true and leave what was there; the conditions stand in each theorem. -/
import Derived.Test.YtddgcdlljkooiaaAct
set_option linter.unusedVariables false
namespace Go.Proofs.Ytddgcdlljkooiaa.Act
open Go Go.Proofs Go.Proofs.Ytddgcdlljkooiaa.V Go.Proofs.Ytddgcdlljkooiaa.Vc Go.Proofs.Ytddgcdlljkooiaa.Num Go.RowKit

section
variable {w : World} {oa ob : Option Addr} {ca cb : Nat} {xs ys : List Int} {F G : Nat → Prop}
theorem ints_spec (ha : Rd w oa (xs.map (.int .i64)) F) (hb : Rd w ob (ys.map (.int .i64)) G) (hl : xs.length ≤ 1000000000) :
    Calls Try.prog i_coadjutorlaw14_ints #[.slice oa xs.length ca, .slice ob ys.length cb] w (Ret fun v w' => v = .bool (decide (xs = ys)) ∧ Ch Non w w') := by
  refine coadjutorlaw14_ints.calls _ _ _ _ _ _ ?_
  unfold coadjutorlaw14_ints.vc
  refine ⟨fun h => ?_, fun h => ?_⟩
  · have h : xs.length ≠ ys.length := by simp at h; omega
    exact ⟨by rw [decide_eq_false (fun e => h (by rw [e]))], Ch.refl _ _⟩
  have h : xs.length = ys.length := by simp at h; omega
  refine ⟨fun i k w' => ∃ j : Nat, i = j ∧ j ≤ xs.length ∧ k = xs.length - j ∧ xs.take j = ys.take j ∧ Ch Non w w', ⟨_, 0, rfl, Nat.zero_le _, rfl, rfl, Ch.refl _ _⟩, ?_⟩
  rintro jk i k w1 ⟨j, rfl, hj, rfl, he, hc⟩
  refine ⟨fun hlt => ?_, fun hge => ?_⟩
  · have hlt : j < xs.length := by simpa using hlt
    have hlt2 : j < ys.length := by omega
    refine ⟨fun w2 => Ch Non w w2, fun w2 e2 => ⟨hc.andN (Ch.drew e2), ⟨by omega, by omega⟩, Rd.keeps (j := (j : Int).toNat * 1) (S := fun w2 => Ch Non w w2) (fun w2 h2 => ha.keepN h2) hc (by simpa using hlt) fun p hp => ⟨_, hp, ⟨by omega, by omega⟩,
      Rd.keeps (j := (j : Int).toNat * 1) (S := fun w2 => Ch Non w w2) (fun w2 h2 => hb.keepN h2) hc (by simpa using hlt2) fun p2 hp2 => ⟨_, hp2, fun hne => ?_, fun heq => ?_⟩⟩⟩⟩
    · refine ⟨?_, hc.andN (Ch.drew e2)⟩
      rw [decide_eq_false]
      intro e
      subst e
      simp at hne
    · have heq : xs[j] = ys[j] := by simpa using heq
      refine ⟨xs.length - (j + 1), by omega, j + 1, by rw [wrap_id (by omega) (by omega)]; rfl, hlt, rfl, ?_, hc.andN (Ch.drew e2)⟩
      rw [take_snoc xs j hlt, take_snoc ys j hlt2, he, heq]
  · have : j = xs.length := by simp at hge; omega
    subst this
    rw [List.take_length, h, List.take_length] at he
    exact ⟨by rw [decide_eq_true he], hc⟩
end
theorem awake_spec (w : World) : Calls Try.prog i_coadjutorlaw14_awake #[] w (Ret fun v w' => v = .bool true ∧ Ch Non w w') := by
  refine coadjutorlaw14_awake.calls ?_
  unfold coadjutorlaw14_awake.vc
  refine step_call (Gate_spec w (n := 0) ⟨by decide, by decide⟩) ?_
  rintro v w1 ⟨rfl, hc1⟩
  refine ⟨_, rfl, iteT (by decide) ?_⟩
  refine step_call (Of_spec w1 (n := 64) ⟨by decide, by decide⟩) ?_
  rintro v w2 ⟨rfl, hc2⟩
  refine ⟨_, rfl, iteT (by decide) ?_⟩
  refine step_call (Gate_spec w2 (n := 4611686018427387904) ⟨by decide, by decide⟩) ?_
  rintro v w3 ⟨rfl, hc3⟩
  refine ⟨_, rfl, iteT (by decide) ?_⟩
  refine step_call (Gate_spec w3 (n := -4611686018427387904) ⟨by decide, by decide⟩) ?_
  rintro v w4 ⟨rfl, hc4⟩
  refine ⟨_, rfl, iteT (by decide) fun w5 e5 w6 e6 => ?_⟩
  have h5 : Own w5 t_int 1 (some ⟨w4.heap.size, 0, none⟩) 1 1 (([1] : List Int).map (.int .i64)) (New w4 w5) := Own.made e5 rfl (by decide) ⟨Nat.le_refl _, (Blk.new e5).lt⟩
  have h6 : Own w6 t_int 1 (some ⟨w5.heap.size, 0, none⟩) 2 2 (([1, 2] : List Int).map (.int .i64)) (New w5 w6) := Own.made e6 rfl (by decide) ⟨Nat.le_refl _, (Blk.new e6).lt⟩
  have hc6 : Ch Non w4 w6 := (Ch.alloc (F := Non) e5).andN (Ch.alloc e6)
  refine step_call (Pairs_spec (gs := [1]) (xs := [1, 2]) (h5.keepN (Ch.alloc e6)).rd h6.rd (by intro x hx; simp at hx; subst hx; exact ⟨by decide, by decide⟩) (by decide)) ?_
  rintro v w7 ⟨o, c, rfl, ho, hc7⟩
  exact ⟨_, _, _, rfl, rfl, (((((hc1.andN hc2).andN hc3).andN hc4).andN hc6).andN hc7)⟩

theorem ActExact_true (W : World) (o1 : Option Addr) (n1 c1 : Nat) (h1 : DatC Try.prog W t_S_int [.slice o1 n1 c1]) (o2 : Option Addr) (n2 c2 : Nat) (h2 : DatC Try.prog W t_S_int [.slice o2 n2 c2]) :
    Calls Try.prog i_coadjutorlaw14_ActExact #[.slice o1 n1 c1, .slice o2 n2 c2] W (Ret fun v w' => v = .bool true ∧ Ch Non W w') := by
  obtain ⟨o1', c1', gs, hcs, hl1, hl2, hl3, ig, hg⟩ := h1.ints (e := t_int) (by kernel_rfl) (by kernel_rfl)
  injection hcs with hcs
  injection hcs with e1 e2 e3
  subst e1; subst e2; subst e3
  obtain ⟨o2', c2', xs, hcs, hm1, hm2, hm3, ix, hx⟩ := h2.ints (e := t_int) (by kernel_rfl) (by kernel_rfl)
  injection hcs with hcs
  injection hcs with e1 e2 e3
  subst e1; subst e2; subst e3
  have ig : ∀ x ∈ gs, inI x := fun x hx => wf_i64 (ig x hx)
  have ix : ∀ x ∈ xs, inI x := fun x hx => wf_i64 (ix x hx)
  refine coadjutorlaw14_ActExact.calls _ _ _ _ _ _ ?_
  unfold coadjutorlaw14_ActExact.vc
  refine step_call (awake_spec W) ?_
  rintro v w1 ⟨rfl, hc1⟩
  refine ⟨_, rfl, iteF rfl ⟨fun _ => ⟨rfl, hc1⟩, fun hg64 => ⟨fun _ => ⟨rfl, hc1⟩, fun hx64 => ?_⟩⟩⟩
  have hg64 : gs.length ≤ 64 := by simp at hg64; omega
  have hx64 : xs.length ≤ 64 := by simp at hx64; omega
  refine ⟨fun i k w' => ∃ j : Nat, i = j ∧ j ≤ xs.length ∧ k = xs.length - j ∧ Ch Non W w', ⟨_, 0, rfl, Nat.zero_le _, rfl, hc1⟩, ?_⟩
  rintro jk i k w2 ⟨j, rfl, hj, rfl, hc2⟩
  refine ⟨fun hlt => ?_, fun hge => ?_⟩
  · have hlt : j < xs.length := by simpa using hlt
    have rd : ∀ {w : World} {K : Addr → Prop}, (∀ p : Addr, (∀ w, Ch Non W w → w.cell? (p.add ((j : Int).toNat * 1)) = some (.int .i64 xs[j])) → K p) → someV o2 K := fun hk =>
      Rd.keeps (j := j) (S := fun w => Ch Non W w) (enc := .int .i64) (fun w h => hx.keepN h) hc2 hlt (fun p hp => hk p (by simpa using hp))
    have hwr : IntKind.i64.wrap ((j : Int) + 1) = ((j + 1 : Nat) : Int) := by rw [wrap_id (by omega) (by omega)]; rfl
    refine ⟨fun w => Ch Non W w, fun w3 e3 => ⟨hc2.andN (Ch.drew e3), ⟨by omega, by omega⟩, rd (w := w3) fun p hp => ⟨_, hp, ⟨by omega, by omega⟩, rd (w := w3) fun p2 hp2 => ⟨_, hp2, ?_⟩⟩⟩⟩
    have hc3 := hc2.andN (Ch.drew (F := Non) e3)
    have hin := ix xs[j] (List.getElem_mem _)
    refine step_call (Gate_spec w3 hin) ?_
    rintro v w4 ⟨rfl, hc4⟩
    have hc4 := hc3.andN hc4
    refine ⟨_, rfl, hc4, ?_⟩
    refine step_call (rGate_spec w4 hin) ?_
    rintro v w5 ⟨rfl, hc5⟩
    have hc5 := hc4.andN hc5
    refine ⟨_, rfl, hc5, iteF (by simp) ⟨⟨by omega, by omega⟩, rd (w := w3) fun p3 hp3 => ⟨_, hp3, ⟨by omega, by omega, by rw [hwr]; omega⟩, ⟨by omega, by omega, by rw [hwr]; omega⟩, ?_⟩⟩⟩
    refine step_call (Of_spec w5 hin) ?_
    rintro v w6 ⟨rfl, hc6⟩
    have hc6 := hc5.andN hc6
    refine ⟨_, rfl, hc6, ?_⟩
    have hsl := (hx.keepN hc6).slice (sz := 1) (c := c2) (by simp; omega) j 1
    have hone : ((xs.map (Value.int .i64)).drop (j * 1)).take (1 * 1) = ([xs[j]].map (.int .i64)) := by
      rw [Nat.mul_one, Nat.mul_one, ← List.map_drop, ← List.map_take, List.drop_eq_getElem_cons hlt]; rfl
    rw [hone] at hsl
    rw [hwr, Int.toNat_natCast, Int.toNat_natCast, show j + 1 - j = [xs[j]].length by simp]
    refine step_call (rPairs_spec hsl hsl (by intro x hx; simp at hx; subst hx; exact hin) (by simp)) ?_
    rintro v w7 ⟨o, c, rfl, ho, hc7⟩
    have hc7 := hc6.andN hc7
    have hp1 : pairsL [xs[j]] [xs[j]] = [thr xs[j] xs[j]] := by simp [pairsL]
    rw [hp1] at ho
    obtain ⟨p, hp, _, _, hcell⟩ := ho.rd.getT (j := 0) (by simp)
    subst hp
    refine ⟨_, _, _, rfl, hc7, ⟨by omega, by rw [hp1]; simp⟩, thr xs[j] xs[j], by simpa [Addr.add] using hcell, hc7, iteF (by simp) ⟨xs.length - (j + 1), by omega, j + 1, rfl, hlt, rfl, hc7⟩⟩
  · refine step_call (All_spec (hx.keepN hc2) ix (by omega)) ?_
    rintro v w3 ⟨o3, c3, rfl, ho3, hc3⟩
    refine ⟨_, _, _, rfl, ?_⟩
    have hW3 := hc2.andN hc3
    refine step_call (rPairs_spec (hx.keepN hW3) (hx.keepN hW3) ix (by omega)) ?_
    rintro v w4 ⟨o4, c4, rfl, ho4, hc4⟩
    refine ⟨_, _, _, rfl, ?_⟩
    have hW4 := hW3.andN hc4
    have hpl := pairsL_len (gs := xs) (xs := xs) rfl
    refine step_call (ints_spec (ho3.keepN hc4).rd ho4.rd (by omega)) ?_
    rintro v w5 ⟨rfl, hc5⟩
    have hW5 := hW4.andN hc5
    refine ⟨_, rfl, iteT (by simp) ?_⟩
    refine step_call (Pairs_spec (hg.keepN hW5) (hx.keepN hW5) ig (by omega)) ?_
    rintro v w6 ⟨o6, c6, rfl, ho6, hc6⟩
    refine ⟨_, _, _, rfl, ?_⟩
    have hW6 := hW5.andN hc6
    refine step_call (rPairs_spec (hg.keepN hW6) (hx.keepN hW6) ig (by omega)) ?_
    rintro v w7 ⟨o7, c7, rfl, ho7, hc7⟩
    refine ⟨_, _, _, rfl, ?_⟩
    have hW7 := hW6.andN hc7
    have hpl2 : (pairsL gs xs).length ≤ 1000 := by unfold pairsL; split <;> simp; omega
    refine step_call (ints_spec (ho6.keepN hc7).rd ho7.rd (by omega)) ?_
    rintro v w8 ⟨rfl, hc8⟩
    exact ⟨_, rfl, by simp, hW7.andN hc8⟩
theorem ActAll_true (W : World) (o2 : Option Addr) (n2 c2 : Nat) (h2 : DatC Try.prog W t_S_int [.slice o2 n2 c2]) (split : Int) (_ : (Lit.int .i64 split).wf = true) :
    Calls Try.prog i_coadjutorlaw14_ActAll #[.slice o2 n2 c2, .int .i64 split] W (Ret fun v w' => v = .bool true ∧ Ch Non W w') := by
  obtain ⟨o2', c2', xs, hcs, hm1, hm2, hm3, ix, hx⟩ := h2.ints (e := t_int) (by kernel_rfl) (by kernel_rfl)
  injection hcs with hcs
  injection hcs with e1 e2 e3
  subst e1; subst e2; subst e3
  have ix : ∀ x ∈ xs, inI x := fun x hx => wf_i64 (ix x hx)
  refine coadjutorlaw14_ActAll.calls _ _ _ _ ?_
  unfold coadjutorlaw14_ActAll.vc
  refine step_call (awake_spec W) ?_
  rintro v w1 ⟨rfl, hc1⟩
  refine ⟨_, rfl, iteF rfl ⟨fun _ => ⟨rfl, hc1⟩, fun hx64 => ?_⟩⟩
  have hx64 : xs.length ≤ 40 := by simp at hx64; omega
  have hpl := pairsL_len (gs := xs) (xs := xs) rfl
  refine step_call (All_spec (hx.keepN hc1) ix (by omega)) ?_
  rintro v w2 ⟨oa, ca, rfl, ha, hc2⟩
  refine ⟨_, _, _, rfl, ?_⟩
  have hW2 := hc1.andN hc2
  refine step_call (Pairs_spec (hx.keepN hW2) (hx.keepN hW2) ix (by omega)) ?_
  rintro v w3 ⟨ob, cb, rfl, hb, hc3⟩
  refine ⟨_, _, _, rfl, ?_⟩
  have hW3 := hW2.andN hc3
  have ha3 := ha.keepN hc3
  refine step_call (ints_spec ha3.rd hb.rd (by omega)) ?_
  rintro v w4 ⟨rfl, hc4⟩
  have hW4 := hW3.andN hc4
  have ha4 := ha3.keepN hc4
  refine ⟨_, rfl, iteF (by simp) (iteF (by rw [hpl]; simp) ?_)⟩
  refine ⟨fun i k w' => ∃ j : Nat, i = j ∧ j ≤ xs.length ∧ k = xs.length - j ∧ Ch Non w4 w', ⟨_, 0, rfl, Nat.zero_le _, rfl, Ch.refl _ _⟩, ?_⟩
  rintro jk i k w5 ⟨j, rfl, hj, rfl, hc5⟩
  refine ⟨fun hlt => ?_, fun hge => ?_⟩
  · have hlt : j < xs.length := by simpa using hlt
    refine ⟨fun w => Ch Non w4 w, fun w6 e6 => ⟨hc5.andN (Ch.drew e6), ⟨by omega, by rw [hpl]; omega⟩, Rd.keeps (j := (j : Int).toNat * 1) (S := fun w => Ch Non w4 w) (fun w h => ha4.rd.keepN h) hc5 (by simp; omega) fun p hp => ⟨_, hp, ⟨by omega, by omega⟩,
      Rd.keeps (j := (j : Int).toNat * 1) (S := fun w => Ch Non w4 w) (fun w h => hx.keepN (hW4.andN h)) hc5 (by simpa using hlt) fun p2 hp2 => ⟨_, hp2, ?_⟩⟩⟩⟩
    have hc6 := hc5.andN (Ch.drew (F := Non) e6)
    refine step_call (Of_spec w6 (ix _ (List.getElem_mem _))) ?_
    rintro v w7 ⟨rfl, hc7⟩
    have hc7 := hc6.andN hc7
    refine ⟨_, rfl, hc7, iteF ?_ ⟨xs.length - (j + 1), by omega, j + 1, by rw [wrap_id (by omega) (by omega)]; rfl, hlt, rfl, hc7⟩⟩
    have := pairsL_at (gs := xs) (xs := xs) rfl hlt
    simp [this]
  · have hwn : IntKind.i64.wrap ((xs.length : Int) + 1) = (xs.length : Int) + 1 := wrap_id (by omega) (by omega)
    have hun : IntKind.u64.wrap ((xs.length : Int) + 1) = (xs.length : Int) + 1 := by rw [wrap_u64]; omega
    rw [hwn, hun]
    have h0 : 0 ≤ IntKind.u64.wrap split := by rw [wrap_u64]; omega
    have hk1 : 0 ≤ IntKind.u64.wrap split % ((xs.length : Int) + 1) := Int.emod_nonneg _ (by omega)
    have hk2 : IntKind.u64.wrap split % ((xs.length : Int) + 1) < (xs.length : Int) + 1 := Int.emod_lt_of_pos _ (by omega)
    rw [tmod_pos h0, wrap_id (x := IntKind.u64.wrap split % ((xs.length : Int) + 1)) (by omega) (by omega)]
    obtain ⟨k, hk⟩ : ∃ k : Nat, IntKind.u64.wrap split % ((xs.length : Int) + 1) = k := ⟨_, (Int.toNat_of_nonneg hk1).symm⟩
    rw [hk] at hk2 ⊢
    have hk2 : k ≤ xs.length := by omega
    rw [Int.toNat_natCast, Nat.sub_zero]
    refine ⟨by omega, fun w => Ch Non w4 w, fun w6 e6 => ⟨hc5.andN (Ch.drew e6), ⟨by omega, by omega⟩, ⟨by omega, by omega⟩, ?_⟩⟩
    have hc6 := hc5.andN (Ch.drew (F := Non) e6)
    have s1 := (hx.keepN (hW4.andN hc6)).slice (sz := 1) (c := c2) (by simp; omega) 0 k
    have t1 : ((xs.map (Value.int .i64)).drop (0 * 1)).take (k * 1) = ((xs.take k).map (.int .i64)) := by rw [Nat.zero_mul, List.drop_zero, Nat.mul_one, List.map_take]
    have l1 : k = (xs.take k).length := by simp; omega
    rw [t1] at s1
    have c1 := All_spec (cx := c2 - 0) s1 (fun x hx => ix x (List.mem_of_mem_take hx)) (by simp; omega)
    rw [← l1] at c1
    refine step_call c1 ?_
    rintro v w7 ⟨oc, cc, rfl, hoc, hc7⟩
    have hc67 := hc7
    have hc7 := hc6.andN hc7
    refine ⟨_, _, _, rfl, hc7, ?_⟩
    have s2 := (hx.keepN (hW4.andN hc7)).slice (sz := 1) (c := c2) (by simp; omega) k (xs.length - k)
    have t2 : ((xs.map (Value.int .i64)).drop (k * 1)).take ((xs.length - k) * 1) = ((xs.drop k).map (.int .i64)) := by rw [Nat.mul_one, Nat.mul_one, ← List.map_drop, List.take_of_length_le (by simp)]
    have l2 : xs.length - k = (xs.drop k).length := by simp
    rw [t2] at s2
    have c1 := All_spec (cx := c2 - k) s2 (fun x hx => ix x (List.mem_of_mem_drop hx)) (by simp; omega)
    rw [← l2] at c1
    refine step_call c1 ?_
    rintro v w8 ⟨od, cd, rfl, hod, hc8⟩
    have hc78 := hc8
    have hc8 := hc7.andN hc8
    refine ⟨_, _, _, rfl, hc8, ?_⟩
    have p1 := pairsL_len (gs := xs.take k) (xs := xs.take k) rfl
    have p2 := pairsL_len (gs := xs.drop k) (xs := xs.drop k) rfl
    rw [← l1] at p1
    rw [← l2] at p2
    obtain ⟨oe, ce, w9, hr, hoe, hc9⟩ := (hoc.keepN hc78).appendRd el_S_int t_S_int (c2 := cd) hod.rd (m := (pairsL (xs.drop k) (xs.drop k)).length) (by simp) (by intro u hu; simp at hu; obtain ⟨x, _, rfl⟩ := hu; rfl) (by unfold maxLen; omega) (by omega)
    have hc9 : Ch Non w4 w9 := hc8.trans hc9 (fun i hi hN => absurd hN.1 (by have := hc6.size; omega))
    refine ⟨oe, _, ce, w9, hr, hc9, ?_⟩
    have he : (pairsL (xs.take k) (xs.take k)).map (Value.int .i64) ++ (pairsL (xs.drop k) (xs.drop k)).map (.int .i64) = ((pairsL xs xs).map (.int .i64)) := by
      rw [← List.map_append]
      congr 1
      unfold pairsL
      rw [if_pos rfl, if_pos rfl, if_pos rfl, ← List.zipWith_append (by simp), List.take_append_drop]
    have hln : (pairsL (xs.take k) (xs.take k)).length + (pairsL (xs.drop k) (xs.drop k)).length = (pairsL xs xs).length := by rw [p1, p2, hpl]; omega
    rw [he, hln] at hoe
    rw [hln]
    refine step_call (ints_spec hoe.rd (ha4.keepN hc9).rd (by omega)) ?_
    rintro v w10 ⟨rfl, hc10⟩
    exact ⟨_, rfl, hc9.andN hc10, by simp, hW4.andN (hc9.andN hc10)⟩
end Go.Proofs.Ytddgcdlljkooiaa.Act
