/- SoftExact's, SoftMix's and SoftOrder's contracts: of all numbers, weights and rows the Go functions answer true and leave what was there; the conditions stand in each theorem. -/
import Derived.Test.YtfecfdhigkehgaaSoft3
import Derived.Test.YtfecfdhigkehgaaVcSoft2
set_option linter.unusedVariables false
set_option linter.unusedSimpArgs false
namespace Go.Proofs.Ytfecfdhigkehgaa.Soft
open Go Go.Proofs Go.Proofs.Ytfecfdhigkehgaa.V Go.Proofs.Ytfecfdhigkehgaa.Vc Go.Proofs.Ytfecfdhigkehgaa.Num Go.RowKit

theorem row2 {w w1 : World} {x y : Int} (e1 : w1 = w.alloc (.cells #[.int .i64 x, .int .i64 y] t_int (0, 0))) : Rd w1 (some ⟨w.heap.size, 0, none⟩) (([x, y] : List Int).map (.int .i64)) (· = w.heap.size) := (Blk.new e1).rd
theorem row3 {w w1 : World} {x y z : Int} (e1 : w1 = w.alloc (.cells #[.int .i64 x, .int .i64 y, .int .i64 z] t_int (0, 0))) : Rd w1 (some ⟨w.heap.size, 0, none⟩) (([x, y, z] : List Int).map (.int .i64)) (· = w.heap.size) := (Blk.new e1).rd
theorem awake_spec (w : World) : Calls Try.prog i_coadjutorlaw12_awake #[] w (Ret fun v w' => v = .bool true ∧ Ch Non w w') := by
  refine coadjutorlaw12_awake.calls ?_
  unfold coadjutorlaw12_awake.vc
  intro w1 e1
  have hC : Ch Non w w1 := Ch.alloc e1
  have sp := Weights_spec (xs := [5, 5, -3]) (row3 e1) (by decide) 3
  have p1 : weightsL [5, 5, -3] = [65536, 65536, 32768] := by decide +kernel
  rw [p1] at sp
  refine step_call sp ?_
  rintro v w2 ⟨A2, C2, rfl, hg2⟩
  refine ⟨_, _, _, rfl, fun w3 e3 => ?_⟩
  have hc : Ch Non w2 w3 := Ch.alloc e3
  refine step_call (ints_spec (xs := [65536, 65536, 32768]) (ys := [65536, 65536, 32768]) (hg2.keepN hc).rd (row3 e3) (by decide)) ?_
  rintro v w4 ⟨rfl, hc4⟩
  have hC := ((hC.andN hg2.2).andN hc).andN hc4
  refine ⟨_, rfl, iteT (by simp) fun w5 e5 w6 e6 w7 e7 w8 e8 => ?_⟩
  have hc68 : Ch Non w6 w8 := (Ch.alloc e7).andN (Ch.alloc e8)
  have hc78 : Ch Non w7 w8 := Ch.alloc e8
  have hc58 : Ch Non w5 w8 := (Ch.alloc (F := Non) e6).andN hc68
  have hc48 : Ch Non w4 w8 := (Ch.alloc (F := Non) e5).andN hc58
  have r0 := (row2 e5).keepN hc58
  have r1 := (row2 e6).keepN hc68
  have r2 := (row2 e7).keepN hc78
  have r3 : Rd w8 (some ⟨w7.heap.size, 0, none⟩) (([(some ⟨w5.heap.size, 0, none⟩, 2, [0, 8]), (some ⟨w6.heap.size, 0, none⟩, 2, [4, -8])] : List RowD).map encR) (· = w7.heap.size) := (Blk.new e8).rd
  generalize w5.heap.size = b1 at r1 r3
  generalize w6.heap.size = b2 at r2 r3
  have sp := Mix_spec (ws := [1, 3]) (K := fun _ => True) r0 r3 (fun z hz => by
    rcases List.mem_cons.1 hz with rfl | hz
    · exact ⟨r1.mono (fun _ _ _ => trivial), by simp⟩
    · rw [List.mem_singleton] at hz; subst hz; exact ⟨r2.mono (fun _ _ _ => trivial), by simp⟩) (by simp) (by simp) 2 2
  have p3 : mixT [1, 3] [(some ⟨b1, 0, none⟩, 2, [0, 8]), (some ⟨b2, 0, none⟩, 2, [4, -8])] = [3, -4] := by rfl
  rw [p3] at sp
  refine step_call sp ?_
  rintro v w9 ⟨A9, C9, rfl, hg9⟩
  refine ⟨_, _, _, rfl, fun w10 e10 => ?_⟩
  have hc : Ch Non w9 w10 := Ch.alloc e10
  refine step_call (ints_spec (xs := [3, -4]) (ys := [3, -4]) (hg9.keepN hc).rd (row2 e10) (by decide)) ?_
  rintro v w11 ⟨rfl, hc11⟩
  have hC := (((hC.andN hc48).andN hg9.2).andN hc).andN hc11
  refine ⟨_, rfl, iteT (by simp) fun w12 e12 => ?_⟩
  refine step_call (Choose_spec (ws := [3, 0, 4]) (row3 e12) (by decide) 5 3) ?_
  rintro v w13 ⟨rfl, rfl⟩
  have hC := hC.andN (Ch.alloc e12)
  refine ⟨_, rfl, iteT (by decide +kernel) fun w14 e14 => ?_⟩
  refine step_call (Choose_spec (ws := [3, 4]) (row2 e14) (by decide) (-1) 2) ?_
  rintro v w15 ⟨rfl, rfl⟩
  have hC := hC.andN (Ch.alloc e14)
  refine ⟨_, rfl, iteT (by decide +kernel) fun w16 e16 => ?_⟩
  refine step_call (Best_spec (xs := [1, 7, 7]) (row3 e16) (by decide) 3) ?_
  rintro v w17 ⟨b, rfl, hb, rfl⟩
  have hC := hC.andN (Ch.alloc e16)
  have hb1 : b = 1 := hb.uniq (.inr ⟨1, rfl, by decide, by decide, by decide⟩)
  subst hb1
  refine ⟨_, rfl, iteT rfl ?_⟩
  refine step_call (Best_spec (xs := []) (Rd.nil _ _ (fun _ => True)) (by decide) 0) ?_
  rintro v w18 ⟨b, rfl, hb, rfl⟩
  have hb1 : b = -1 := hb.uniq (.inl ⟨rfl, rfl⟩)
  subst hb1
  exact ⟨_, rfl, rfl, hC⟩
theorem SoftExact_true (W : World) (o1 : Option Addr) (n1 c1 : Nat) (h1 : DatC Try.prog W t_S_int [.slice o1 n1 c1]) (draw : Int) (_ : (Lit.int .i64 draw).wf = true) (below : Int) (hb : (Lit.int .i64 below).wf = true) :
    Calls Try.prog i_coadjutorlaw12_SoftExact #[.slice o1 n1 c1, .int .i64 draw, .int .i64 below] W (Ret fun v w' => v = .bool true ∧ Ch Non W w') := by
  obtain ⟨o1', c1', xs, hcs1, _, _, _, _, hx⟩ := h1.ints (e := t_int) (k := .i64) (by kernel_rfl) (by kernel_rfl)
  injection hcs1 with hcs1
  injection hcs1 with q1 q2 q3
  subst q1; subst q2; subst q3
  have hb := (wf_i64 hb).2
  refine coadjutorlaw12_SoftExact.calls _ _ _ _ _ ?_
  unfold coadjutorlaw12_SoftExact.vc
  refine step_call (awake_spec W) ?_
  rintro v w1 ⟨rfl, hC⟩
  refine ⟨_, rfl, iteF rfl ⟨fun _ => ⟨rfl, hC⟩, fun hl => ?_⟩⟩
  have hl := of_decide_eq_false hl
  refine step_call (Exp_spec w1 hb) ?_
  rintro v w2 ⟨rfl, hc⟩
  have hC := hC.andN hc
  refine ⟨_, rfl, ?_⟩
  refine step_call (rExp_spec w2 hb) ?_
  rintro v w3 ⟨rfl, hc⟩
  have hC := hC.andN hc
  refine ⟨_, rfl, iteT (by simp) ?_⟩
  refine step_call (Weights_spec (hx.keepN hC) (by omega) c1) ?_
  rintro v w4 ⟨A4, C4, rfl, hg4⟩
  have hC := hC.andN hg4.2
  refine ⟨_, _, _, rfl, ?_⟩
  refine step_call (rWeights_spec (hx.keepN hC) (by omega) c1) ?_
  rintro v w5 ⟨A5, C5, rfl, hg5⟩
  have hC := hC.andN hg5.2
  refine ⟨_, _, _, rfl, ?_⟩
  refine step_call (ints_spec (xs := weightsL xs) (ys := weightsL xs) (hg4.keepN hg5.2).rd hg5.rd (by simp [weightsL]; omega)) ?_
  rintro v w6 ⟨rfl, hc⟩
  have hC := hC.andN hc
  refine ⟨_, rfl, iteT (by simp) ?_⟩
  refine step_call (Choose_spec (hx.keepN hC) (by omega) draw c1) ?_
  rintro v w7 ⟨rfl, rfl⟩
  refine ⟨_, rfl, ?_⟩
  refine step_call (rChoose_spec (hx.keepN hC) (by omega) draw c1) ?_
  rintro v w8 ⟨rfl, rfl⟩
  refine ⟨_, rfl, iteT (by simp) ?_⟩
  refine step_call (Best_spec (hx.keepN hC) (by omega) c1) ?_
  rintro v w9 ⟨a, rfl, ha, rfl⟩
  refine ⟨_, rfl, ?_⟩
  refine step_call (rBest_spec (hx.keepN hC) (by omega) c1) ?_
  rintro v w10 ⟨b, rfl, hb, hc⟩
  exact ⟨_, rfl, by rw [ha.uniq hb]; simp, hC.andN hc⟩
theorem mixT_len {ws : List Int} {zs : List RowD} (h : wid zs ≤ 1000000) : (mixT ws zs).length ≤ 1000000000 := by
  unfold mixT; split
  · simp [mixL]; omega
  · simp
theorem SoftMix_true (W : World) (o0 : Option Addr) (n0 c0 : Nat) (h0 : DatC Try.prog W t_S_int [.slice o0 n0 c0]) (o1 : Option Addr) (n1 c1 : Nat) (h1 : DatC Try.prog W t_S_S_int [.slice o1 n1 c1]) :
    Calls Try.prog i_coadjutorlaw12_SoftMix #[.slice o0 n0 c0, .slice o1 n1 c1] W (Ret fun v w' => v = .bool true ∧ Ch Non W w') := by
  obtain ⟨o0', c0', ws, hcs0, _, _, _, _, hw⟩ := h0.ints (e := t_int) (k := .i64) (by kernel_rfl) (by kernel_rfl)
  injection hcs0 with hcs0
  injection hcs0 with q1 q2 q3
  subst q1; subst q2; subst q3
  obtain ⟨o1', c1', zs, hcs, hm1, hm2, hm3, hzs, hz⟩ := h1.intRows (e := t_S_int) (g := t_int) (k := .i64) (by kernel_rfl) (by kernel_rfl) (by kernel_rfl)
  injection hcs with hcs
  injection hcs with q1 q2 q3
  subst q1; subst q2; subst q3
  have hz : Rd W o1 (zs.map encR) (fun _ => True) := hz
  refine coadjutorlaw12_SoftMix.calls _ _ _ _ _ _ ?_
  unfold coadjutorlaw12_SoftMix.vc
  refine step_call (awake_spec W) ?_
  rintro v w1 ⟨rfl, hC⟩
  refine ⟨_, rfl, iteF rfl ⟨fun _ => ⟨rfl, hC⟩, fun hl => ⟨fun _ => ⟨rfl, hC⟩, fun hl2 => ?_⟩⟩⟩
  have hl := of_decide_eq_false hl
  have hl2 := of_decide_eq_false hl2
  refine ⟨fun i k w' => w' = w1 ∧ ∃ j : Nat, i = j ∧ j ≤ zs.length ∧ k = zs.length - j ∧ ∀ z ∈ zs.take j, z.2.2.length ≤ 40, ⟨_, rfl, 0, rfl, Nat.zero_le _, rfl, fun z hz => by simp at hz⟩, ?_⟩
  rintro jk i k w' ⟨rfl, j, rfl, hj, rfl, hall⟩
  refine ⟨fun hlt => ?_, fun hge => ?_⟩
  · have hlt : j < zs.length := by have := of_decide_eq_true hlt; omega
    refine ⟨⟨by omega, by omega⟩, (hz.keepN hC).at (j := (j : Int).toNat * 1) (v := encR zs[j]) (by simp [hlt]) fun p hp => ⟨_, _, _, hp, fun _ => ⟨rfl, hC⟩, fun h40 => ?_⟩⟩
    have h40 := of_decide_eq_false h40
    refine ⟨zs.length - (j + 1), by omega, rfl, j + 1, by rw [wrap_id (by omega) (by omega)]; rfl, hlt, rfl, fun z hzm => ?_⟩
    rw [take_snoc zs j hlt, List.mem_append, List.mem_singleton] at hzm
    rcases hzm with hzm | rfl
    · exact hall z hzm
    · omega
  have hjl : j = zs.length := by have := of_decide_eq_false hge; omega
  subst hjl
  rw [List.take_length] at hall
  have hzz : ∀ z ∈ zs, Rd W z.1 (z.2.2.map (.int .i64)) (fun _ => True) ∧ z.2.2.length ≤ 1000000 := fun z hzm => ⟨(hzs z hzm).2.2.2.2, by have := hall z hzm; omega⟩
  have hwid : wid zs ≤ 1000000 := by
    by_cases hp : 0 < zs.length
    · rw [wid_pos hp]; exact (hzz _ (List.getElem_mem hp)).2
    · unfold wid; rw [List.getElem?_eq_none (by omega)]; simp
  refine step_call (Mix_spec (hw.keepN hC) (hz.keepN hC) (fun z hzm => ⟨(hzz z hzm).1.keepN hC, (hzz z hzm).2⟩) (by omega) (by omega) c0 c1) ?_
  rintro v w3 ⟨A3, C3, rfl, hg3⟩
  have hC := hC.andN hg3.2
  refine ⟨_, _, _, rfl, ?_⟩
  refine step_call (rMix_spec (hw.keepN hC) (hz.keepN hC) (fun z hzm => ⟨(hzz z hzm).1.keepN hC, (hzz z hzm).2⟩) (by omega) (by omega) c0 c1) ?_
  rintro v w4 ⟨A4, C4, rfl, hg4⟩
  have hC := hC.andN hg4.2
  refine ⟨_, _, _, rfl, ?_⟩
  refine step_call (ints_spec (xs := mixT ws zs) (ys := mixT ws zs) (hg3.keepN hg4.2).rd hg4.rd (mixT_len hwid)) ?_
  rintro v w5 ⟨rfl, hc⟩
  exact ⟨_, rfl, by simp, hC.andN hc⟩
theorem tab_down : ∀ r, r < 7 → tabL.getD (r + 1) 0 ≤ tabL.getD r 0 := by decide
theorem expN_step (d : Nat) : expN (d + 1) ≤ expN d := by
  unfold expN
  by_cases h : d % 8 < 7
  · have h1 : (d + 1) % 8 = d % 8 + 1 := by omega
    have h2 : (d + 1) / 8 = d / 8 := by omega
    rw [h1, h2]
    exact Nat.div_le_div_right (tab_down _ h)
  · have h1 : (d + 1) % 8 = 0 := by omega
    have h2 : (d + 1) / 8 = d / 8 + 1 := by omega
    have h3 : d % 8 = 7 := by omega
    rw [h1, h2, h3, Nat.pow_succ, Nat.mul_comm, ← Nat.div_div_eq_div_mul]
    exact Nat.div_le_div_right (by decide)
theorem expN_anti {a b : Nat} (h : a ≤ b) : expN b ≤ expN a := by
  induction b with
  | zero => obtain rfl : a = 0 := by omega
            exact Nat.le_refl _
  | succ b ih =>
    by_cases he : a = b + 1
    · rw [he]; exact Nat.le_refl _
    · exact Nat.le_trans (expN_step b) (ih (by omega))
theorem expI_anti {a b : Int} (h : a ≤ b) : expI b ≤ expI a := by
  unfold expI
  have := expN_anti (a := a.toNat) (b := b.toNat) (by omega)
  omega
theorem SoftOrder_true (W : World) (o1 : Option Addr) (n1 c1 : Nat) (h1 : DatC Try.prog W t_S_int [.slice o1 n1 c1]) (more : Int) (_ : (Lit.int .i64 more).wf = true) :
    Calls Try.prog i_coadjutorlaw12_SoftOrder #[.slice o1 n1 c1, .int .i64 more] W (Ret fun v w' => v = .bool true ∧ Ch Non W w') := by
  obtain ⟨o1', c1', xs, hcs1, _, _, _, _, hx⟩ := h1.ints (e := t_int) (k := .i64) (by kernel_rfl) (by kernel_rfl)
  injection hcs1 with hcs1
  injection hcs1 with q1 q2 q3
  subst q1; subst q2; subst q3
  refine coadjutorlaw12_SoftOrder.calls _ _ _ _ ?_
  unfold coadjutorlaw12_SoftOrder.vc
  refine step_call (awake_spec W) ?_
  rintro v w1 ⟨rfl, hC⟩
  refine ⟨_, rfl, iteF rfl ⟨fun _ => ⟨rfl, hC⟩, fun hl => ⟨fun _ => ⟨rfl, hC⟩, fun h0 => ?_⟩⟩⟩
  have hl := of_decide_eq_false hl
  have h0 : xs ≠ [] := by rintro rfl; simp at h0
  refine step_call (Weights_spec (hx.keepN hC) (by omega) c1) ?_
  rintro v w2 ⟨A, C, rfl, hg⟩
  have hC := hC.andN hg.2
  refine ⟨_, _, _, rfl, ?_⟩
  refine step_call (Best_spec (hx.keepN hC) (by omega) c1) ?_
  rintro v w3 ⟨b, rfl, hb, rfl⟩
  have hwl : (weightsL xs).length = xs.length := by simp [weightsL]
  have hwi : ∀ (j : Nat) (h : j < (weightsL xs).length) (h2 : j < xs.length), (weightsL xs)[j] = expI (cl (maxL xs) - cl xs[j]) := fun j h h2 => by simp [weightsL]
  rcases hb with ⟨hn, _⟩ | ⟨bi, rfl, hbi, hb1, hb2⟩
  · exact absurd hn h0
  have hbm : xs[bi] = maxL xs := maxL_uniq (List.getElem_mem hbi) hb1
  refine ⟨_, rfl, iteF (by rw [hwl]; simp) (iteF (decide_eq_false (by omega)) ⟨⟨by omega, by omega⟩, hg.rd.at (j := (bi : Int).toNat * 1) (v := .int .i64 (weightsL xs)[bi]) (by simp [show bi < (weightsL xs).length by omega]) fun p hp => ⟨_, hp, iteF ?_ ?_⟩⟩)⟩
  · rw [hwi bi (by omega) hbi, hbm, Int.sub_self]; decide +kernel
  refine ⟨fun i k w' => Ch Non w3 w' ∧ ∃ j : Nat, i = j ∧ j ≤ xs.length ∧ k = xs.length - j, ⟨_, Ch.refl _ _, 0, rfl, Nat.zero_le _, rfl⟩, ?_⟩
  rintro jk i k w4 ⟨hc4, j, rfl, hj, rfl⟩
  refine ⟨fun hlt => ?_, fun hge => ?_⟩
  · have hlt : j < xs.length := by have := of_decide_eq_true hlt; omega
    refine ⟨fun i k w' => Ch Non w3 w' ∧ ∃ m : Nat, i = m ∧ m ≤ xs.length ∧ k = xs.length - m, ⟨_, hc4, 0, rfl, Nat.zero_le _, rfl⟩, ?_⟩
    rintro jk i k w5 ⟨hc5, m, rfl, hm, rfl⟩
    refine ⟨fun hlt2 => ?_, fun hge2 => ⟨xs.length - (j + 1), by omega, hc5, j + 1, by rw [wrap_id (by omega) (by omega)]; rfl, hlt, rfl⟩⟩
    have hlt2 : m < xs.length := by have := of_decide_eq_true hlt2; omega
    have hw : IntKind.i64.wrap ((m : Int) + 1) = ((m + 1 : Nat) : Int) := by rw [wrap_id (by omega) (by omega)]; rfl
    refine ⟨fun w' => Ch Non w3 w', fun w6 e6 => ?_⟩
    have hc6 := hc5.andN (Ch.drew (F := Non) e6)
    refine ⟨hc6, ⟨by omega, by omega⟩, Rd.keeps (j := j) (S := fun w' => Ch Non w3 w') (fun w2 h2 => (hx.keepN hC).keepN h2) hc5 hlt fun p1 hp1 => ⟨_, fun w' h => by rw [toNat_mul_one]; exact hp1 w' h, ⟨by omega, by omega⟩,
      Rd.keeps (j := m) (S := fun w' => Ch Non w3 w') (fun w2 h2 => (hx.keepN hC).keepN h2) hc5 hlt2 fun p2 hp2 => ⟨_, fun w' h => by rw [toNat_mul_one]; exact hp2 w' h, fun hgt => ⟨⟨by omega, by omega⟩, ?_⟩, fun _ => ⟨xs.length - (m + 1), by omega, hc6, m + 1, hw, hlt2, rfl⟩⟩⟩⟩
    have hgt := of_decide_eq_true hgt
    have hjw : j < (weightsL xs).length := by omega
    have hmw : m < (weightsL xs).length := by omega
    refine Rd.keeps (j := j) (S := fun w' => Ch Non w3 w') (fun w2 h2 => hg.rd.keepN h2) hc5 hjw fun p3 hp3 => ⟨_, fun w' h => by rw [toNat_mul_one]; exact hp3 w' h, ⟨by omega, by omega⟩,
      Rd.keeps (j := m) (S := fun w' => Ch Non w3 w') (fun w2 h2 => hg.rd.keepN h2) hc5 hmw fun p4 hp4 => ⟨_, fun w' h => by rw [toNat_mul_one]; exact hp4 w' h, iteF ?_ ⟨xs.length - (m + 1), by omega, hc6, m + 1, hw, hlt2, rfl⟩⟩⟩
    apply decide_eq_false
    rw [hwi j hjw hlt, hwi m hmw hlt2]
    have h1 := cl_mono (show xs[m] ≤ xs[j] by omega)
    have h2 := expI_anti (show cl (maxL xs) - cl xs[j] ≤ cl (maxL xs) - cl xs[m] by omega)
    omega
  have hx3 := hx.keepN hC
  have hC := hC.andN hc4
  have hg := hg.keepN hc4
  clear hge hj
  refine ⟨⟨by omega, by omega⟩, (hx3.keepN hc4).at (j := (bi : Int).toNat * 1) (v := .int .i64 xs[bi]) (by simp [hbi]) fun p5 hp5 => ⟨_, hp5, fun _ => ⟨rfl, hC⟩, fun hle w11 e11 => ?_⟩⟩
  have hle := of_decide_eq_false hle
  have hg0 : Gr Non w4 w11 t_int 1 (some ⟨w4.heap.size, 0, none⟩) 0 0 [] := Gr.made0 (Ch.refl _ _) e11
  obtain ⟨A12, C12, w12, hr12, hg12, _⟩ := Gr.app (c2 := c1) (m := xs.length) el_S_int hg0 t_S_int ((hx3.keepN hc4).keepN hg0.2) (by simp) (by intro u hu; obtain ⟨n, _, rfl⟩ := List.mem_map.1 hu; rfl) (by omega) (by omega)
  rw [Nat.zero_add, List.nil_append] at hg12
  rw [Nat.zero_add] at hr12
  refine ⟨A12, _, C12, w12, hr12, fun w13 e13 => ?_⟩
  obtain ⟨A14, C14, w14, hr14, hg14, _⟩ := hg12.push el_S_int t_S_int e13 rfl rfl (by omega) (by omega)
  refine ⟨A14, _, C14, w14, hr14, ?_⟩
  have hap : List.map (Value.int IntKind.i64) xs ++ #[Value.int IntKind.i64 more].toList = (xs ++ [more]).map (.int .i64) := by simp
  rw [hap] at hg14
  have hlen : (xs ++ [more]).length = xs.length + 1 := by simp
  have sp := Weights_spec hg14.rd (by omega) C14
  rw [hlen] at sp
  refine step_call sp ?_
  rintro v w15 ⟨A15, C15, rfl, hg15⟩
  have hwl2 : (weightsL (xs ++ [more])).length = xs.length + 1 := by simp [weightsL]
  have hmax : maxL (xs ++ [more]) = maxL xs := by
    symm
    apply maxL_uniq
    · rw [← hbm]; exact List.mem_append_left _ (List.getElem_mem hbi)
    · intro x hx
      rw [List.mem_append, List.mem_singleton] at hx
      rcases hx with hx | rfl
      · rw [← hbm]; exact hb1 x hx
      · omega
  have htake : (weightsL (xs ++ [more])).take xs.length = weightsL xs := by
    unfold weightsL
    rw [hmax, List.map_append, List.take_left' (by simp)]
  have hcap : xs.length + 1 ≤ C15 := by have := hg15.1.2.1; rw [hwl2] at this; exact this
  refine ⟨_, _, _, rfl, iteT (by rw [hwl2, wrap_id (by omega) (by omega)]; simp) ⟨⟨by omega, by omega⟩, ?_⟩⟩
  have hsl : Rd w15 (if C15 = 0 then A15 else A15.map (·.add (0 * 1))) ((weightsL xs).map (.int .i64)) (New w14 w15) := by
    have h := hg15.rd.slice (c := C15) (sz := 1) (by simp; omega) 0 xs.length
    simp only [Nat.zero_mul, List.drop_zero, Nat.mul_one] at h ⊢
    rw [← List.map_take, htake] at h
    exact h
  have hne : ((xs.length : Int).toNat - 0) = (weightsL xs).length := by omega
  rw [hne]
  refine step_call (ints_spec (xs := weightsL xs) (ys := weightsL xs) hsl ((hg.keepN hg14.2).keepN hg15.2).rd (by omega)) ?_
  rintro v w16 ⟨rfl, hc16⟩
  exact ⟨_, rfl, by simp, ((hC.andN hg14.2).andN hg15.2).andN hc16⟩
end Go.Proofs.Ytfecfdhigkehgaa.Soft
