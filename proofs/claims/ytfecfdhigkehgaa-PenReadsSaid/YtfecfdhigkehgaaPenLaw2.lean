/- PenWrites's contract: of every row of deeds the Go function answers true and leaves what was there; the conditions stand in each theorem. -/
import Derived.Test.YtfecfdhigkehgaaPenLaw1
import Derived.Test.YtfecfdhigkehgaaPenD
import Derived.Test.YtfecfdhigkehgaaDatA
import Derived.Test.YtfecfdhigkehgaaVcPen3
set_option linter.unusedVariables false
set_option linter.unusedSimpArgs false
set_option maxRecDepth 100000
namespace Go.Proofs.Ytfecfdhigkehgaa.Pen
open Go Go.Proofs Go.Proofs.Ytfecfdhigkehgaa.V Go.Proofs.Ytfecfdhigkehgaa.Vc Go.RowKit

/-- A deed. -/
structure ActD where
  k : Int
  n : Int
  m : Int
  s : ByteArray
  b : UInt8
  d : Dig
def actE (x : ActD) : List Value := [.int .i64 x.k, .int .i64 x.n, .int .i64 x.m, .string x.s, u8v x.b] ++ digE x.d
theorem actE_len (x : ActD) : (actE x).length = 37 := by unfold actE; rw [List.length_append, digE_len]; rfl
theorem act_dat {w : World} {x : List Value} (hl : x.length = Try.prog.cellsOf t_coadjutorlaw03_Act) (h : DatC Try.prog w t_coadjutorlaw03_Act x) : ∃ y : ActD, x = actE y ∧ True := by
  obtain ⟨_, hf⟩ := h.struct Try.underlying61
  have h2 : Try.prog.cellsOf t_coadjutorlaw03_Act = 37 := by kernel_rfl
  rw [h2] at hl
  obtain ⟨a0, r0, rfl, l0⟩ := cons_of hl
  obtain ⟨a1, r1, rfl, l1⟩ := cons_of l0
  obtain ⟨a2, r2, rfl, l2⟩ := cons_of l1
  obtain ⟨a3, r3, rfl, l3⟩ := cons_of l2
  obtain ⟨a4, r4, rfl, l4⟩ := cons_of l3
  have h0 : DatC Try.prog w t_int [a0] := hf 0 _ rfl
  have h1 : DatC Try.prog w t_int [a1] := hf 1 _ rfl
  have h2 : DatC Try.prog w t_int [a2] := hf 2 _ rfl
  have h3 : DatC Try.prog w t_string [a3] := hf 3 _ rfl
  have h4 : DatC Try.prog w t_uint8 [a4] := hf 4 _ rfl
  have h5 : DatC Try.prog w t_api_Digest (r4.take (Try.prog.cellsOf t_api_Digest)) := hf 5 _ rfl
  have h6 : Try.prog.cellsOf t_api_Digest = 32 := by kernel_rfl
  rw [h6, List.take_of_length_le (by omega)] at h5
  obtain ⟨n0, e0, _⟩ := h0.int (k := .i64) (by kernel_rfl)
  obtain ⟨n1, e1, _⟩ := h1.int (k := .i64) (by kernel_rfl)
  obtain ⟨n2, e2, _⟩ := h2.int (k := .i64) (by kernel_rfl)
  obtain ⟨s, e3, _⟩ := h3.string (by kernel_rfl)
  obtain ⟨b, e4, hw⟩ := h4.int (k := .u8) (by kernel_rfl)
  obtain ⟨d, hd, e5⟩ := h5.bytes (n := 32) (e := t_uint8) (by kernel_rfl) (by kernel_rfl) h6 (by kernel_rfl)
  injection e0 with e0 _
  injection e1 with e1 _
  injection e2 with e2 _
  injection e3 with e3 _
  injection e4 with e4 _
  subst e0; subst e1; subst e2; subst e3; subst e4; subst e5
  have hw2 : 0 ≤ b ∧ b ≤ 255 := by
    simp only [Lit.wf, Bool.and_eq_true, decide_eq_true_eq] at hw
    exact hw
  have hb : Value.int .u8 b = u8v (UInt8.ofNat b.toNat) := by
    unfold u8v
    rw [UInt8.toNat_ofNat']
    congr 1
    omega
  exact ⟨⟨n0, n1, n2, s, UInt8.ofNat b.toNat, ⟨d, hd⟩⟩, by rw [hb]; rfl, trivial⟩
theorem Blk.rdAt {w : World} {b T : Nat} {cs : List Value} (h : Blk w b cs T) (k : Nat) : Rd w (some ⟨b, k, none⟩) (cs.drop k) (· = b) := fun j v hj => ⟨_, rfl, rfl, h.lt, by rw [add_at]; rw [List.getElem?_drop] at hj; exact h.cell _ hj⟩
theorem outs {n m : Int} : (false || [n, m].any outN) = (outN n || outN m) := by simp
theorem PenWrites_true (W : World) (o1 : Option Addr) (n1 c1 : Nat) (h1 : DatC Try.prog W t_S_coadjutorlaw03_Act [.slice o1 n1 c1]) :
    Calls Try.prog i_coadjutorlaw03_PenWrites #[.slice o1 n1 c1] W (Ret fun v w' => v = .bool true ∧ Ch Non W w') := by
  obtain ⟨o1', c1', av, hcs1, _, _, hm1, _, ha⟩ := h1.sliceOf (e := t_coadjutorlaw03_Act) (enc := actE) (Q := fun _ => True) (by kernel_rfl) (fun x hl hd => act_dat hl hd)
  injection hcs1 with hcs1
  injection hcs1 with q1 q2 q3
  subst q1; subst q2; subst q3
  refine coadjutorlaw03_PenWrites.calls _ _ _ ?_
  unfold coadjutorlaw03_PenWrites.vc
  refine step_call (awake_spec W) ?_
  rintro v w1 ⟨rfl, hC1⟩
  refine ⟨_, rfl, iteF rfl (fun w2 e2 => ?_)⟩
  have hP2 := new_pen e2
  have hF2 : Foot W w2 (New w1 w2) := Foot.new hC1
  have hC2 : Ch Non W w2 := hC1.andN (Ch.alloc e2)
  generalize New w1 w2 = F2 at hP2 hF2
  generalize w1.heap.size = pb at hP2 ⊢
  refine ⟨fun w' => Ch Non W w', ⟨fun want bad i k w' => ∃ (j : Nat) (bs : List UInt8) (F : Nat → Prop), i = j ∧ j ≤ av.length ∧ k = av.length - j ∧ want = str bs ∧ bs.length ≤ 300 * j ∧ PenR w' pb bad bs F ∧ Foot W w' F ∧ Ch Non W w', ⟨_, 0, [], _, rfl, Nat.zero_le _, rfl, rfl, by simp, hP2, hF2, hC2⟩, ?_⟩, ?_⟩
  · clear hP2 hF2 hC2 e2 hC1
    rintro jk want bad i k w3 ⟨j, bs, F, rfl, hj, rfl, rfl, hbl, hP, hF, hC⟩
    refine ⟨fun hlt => ⟨fun h40 => ?_, fun _ => hC⟩, fun hge => hC⟩
    have hlt : j < av.length := by have := of_decide_eq_true hlt; omega
    have h40 : j < 40 := by have := of_decide_eq_true h40; omega
    obtain ⟨p, hp, _, _, hcell⟩ := (ha.keepN hC).elem (sz := 37) actE_len (by omega) hlt
    generalize av[j] = x at hcell
    obtain ⟨d0, d1, d2, d3, d4, d5, d6, d7, d8, d9, d10, d11, d12, d13, d14, d15, d16, d17, d18, d19, d20, d21, d22, d23, d24, d25, d26, d27, d28, d29, d30, d31, hd⟩ := dig32 x.d.2
    have hde : actE x = [.int .i64 x.k, .int .i64 x.n, .int .i64 x.m, .string x.s, u8v x.b, u8v d0, u8v d1, u8v d2, u8v d3, u8v d4, u8v d5, u8v d6, u8v d7, u8v d8, u8v d9, u8v d10, u8v d11, u8v d12, u8v d13, u8v d14, u8v d15, u8v d16, u8v d17, u8v d18, u8v d19, u8v d20, u8v d21, u8v d22, u8v d23, u8v d24, u8v d25, u8v d26, u8v d27, u8v d28, u8v d29, u8v d30, u8v d31] := by unfold actE digE; rw [hd]; rfl
    rw [hde] at hcell
    rw [← Int.toNat_natCast j] at hcell
    have h0 := hcell 0 _ rfl
    rw [add_none] at h0
    subst hp
    refine ⟨⟨by omega, by omega⟩, ?_⟩
    show ∃ _, _
    refine ⟨_, _, _, _, _, _, _, _, _, _, _, _, _, _, _, _, _, _, _, _, _, _, _, _, _, _, _, _, _, _, _, _, _, _, _, _, _, ⟨h0, hcell 1 _ rfl, hcell 2 _ rfl, hcell 3 _ rfl, hcell 4 _ rfl, hcell 5 _ rfl, hcell 6 _ rfl, hcell 7 _ rfl, hcell 8 _ rfl, hcell 9 _ rfl, hcell 10 _ rfl, hcell 11 _ rfl, hcell 12 _ rfl, hcell 13 _ rfl, hcell 14 _ rfl, hcell 15 _ rfl, hcell 16 _ rfl, hcell 17 _ rfl, hcell 18 _ rfl, hcell 19 _ rfl, hcell 20 _ rfl, hcell 21 _ rfl, hcell 22 _ rfl, hcell 23 _ rfl, hcell 24 _ rfl, hcell 25 _ rfl, hcell 26 _ rfl, hcell 27 _ rfl, hcell 28 _ rfl, hcell 29 _ rfl, hcell 30 _ rfl, hcell 31 _ rfl, hcell 32 _ rfl, hcell 33 _ rfl, hcell 34 _ rfl, hcell 35 _ rfl, hcell 36 _ rfl⟩, fun w4 e4 => ?_⟩
    have hX4 := Blk.new e4
    refine ⟨⟨hX4.ok 0 rfl, hX4.ok 1 rfl, hX4.ok 2 rfl, hX4.ok 3 rfl, hX4.ok 4 rfl, hX4.ok 5 rfl, hX4.ok 6 rfl, hX4.ok 7 rfl, hX4.ok 8 rfl, hX4.ok 9 rfl, hX4.ok 10 rfl, hX4.ok 11 rfl, hX4.ok 12 rfl, hX4.ok 13 rfl, hX4.ok 14 rfl, hX4.ok 15 rfl, hX4.ok 16 rfl, hX4.ok 17 rfl, hX4.ok 18 rfl, hX4.ok 19 rfl, hX4.ok 20 rfl, hX4.ok 21 rfl, hX4.ok 22 rfl, hX4.ok 23 rfl, hX4.ok 24 rfl, hX4.ok 25 rfl, hX4.ok 26 rfl, hX4.ok 27 rfl, hX4.ok 28 rfl, hX4.ok 29 rfl, hX4.ok 30 rfl, hX4.ok 31 rfl, hX4.ok 32 rfl, hX4.ok 33 rfl, hX4.ok 34 rfl, hX4.ok 35 rfl, hX4.ok 36 rfl⟩, fun w5 e5 => ?_⟩
    have e6 : w5 = w4.setCells w3.heap.size 0 [.int .i64 x.k, .int .i64 x.n, .int .i64 x.m, .string x.s, u8v x.b, u8v d0, u8v d1, u8v d2, u8v d3, u8v d4, u8v d5, u8v d6, u8v d7, u8v d8, u8v d9, u8v d10, u8v d11, u8v d12, u8v d13, u8v d14, u8v d15, u8v d16, u8v d17, u8v d18, u8v d19, u8v d20, u8v d21, u8v d22, u8v d23, u8v d24, u8v d25, u8v d26, u8v d27, u8v d28, u8v d29, u8v d30, u8v d31] := e5
    have hX5 := hX4.all [.int .i64 x.k, .int .i64 x.n, .int .i64 x.m, .string x.s, u8v x.b, u8v d0, u8v d1, u8v d2, u8v d3, u8v d4, u8v d5, u8v d6, u8v d7, u8v d8, u8v d9, u8v d10, u8v d11, u8v d12, u8v d13, u8v d14, u8v d15, u8v d16, u8v d17, u8v d18, u8v d19, u8v d20, u8v d21, u8v d22, u8v d23, u8v d24, u8v d25, u8v d26, u8v d27, u8v d28, u8v d29, u8v d30, u8v d31] rfl e6
    have hc35 : Ch Non w3 w5 := (Ch.alloc (F := Non) e4).trans (Ch.sets (F := (· = w3.heap.size)) e6 rfl) (fun i hi he => by omega)
    clear e4 e5 e6 hX4 hcell h0
    have hxF : ¬ F w3.heap.size := fun h => absurd (hF _ h).2 (Nat.lt_irrefl _)
    have hxp : pb ≠ w3.heap.size := by have := hP.lt; omega
    generalize w3.heap.size = xb at hX5 hxF hxp ⊢
    have hP5 := hP.keepN hc35
    have hF5 := hF.le hc35.size
    have hC5 := hC.andN hc35
    have hpb5 := hP5.lt
    clear hP hF hC hc35
    refine ⟨_, hX5.cell 3 rfl, fun _ => ⟨rfl, hC5⟩, fun hs => ?_⟩
    have hs := of_decide_eq_false hs
    refine ⟨fun want' bad' w' => ∃ (bs' : List UInt8) (F' : Nat → Prop), want' = str bs' ∧ bs'.length ≤ 300 * (j + 1) ∧ PenR w' pb bad' bs' F' ∧ Foot W w' F' ∧ Ch Non W w', ⟨_, hX5.cell 0 rfl, fun hk => ?_, fun hk => ⟨fun hk2 => ?_, fun hk2 => ⟨fun hk3 => ?_, fun hk3 => ?_⟩⟩⟩, ?_⟩
    · refine ⟨_, hX5.cell 4 rfl, _, hX5.cell 4 rfl, fun w6 e6 => ?_⟩
      rw [u8_of (x := (x.b.toNat : Int) + 1) (m := x.b.toNat + 1) (by omega)] at e6
      have hc6 : Ch Non w5 w6 := Ch.alloc e6
      have r6 : Rd w6 (some ⟨w5.heap.size, 0, none⟩) (([x.b, UInt8.ofNat (x.b.toNat + 1)] : List UInt8).map u8v) (· = w5.heap.size) := (Blk.new e6).rd
      refine step_call (PenByte_spec (news := [x.b, UInt8.ofNat (x.b.toNat + 1)]) (hP5.keepN hc6) r6 (fun i hi => by omega) (by simp; omega) 2) ?_
      rintro v w7 ⟨rfl, hP7, hc7⟩
      have hF6 := hF5.le hc6.size
      have hC6 := hC5.andN hc6
      have hF7 := hF6.ext hC6 hc7.size
      have hC7 := hF6.hi hC6 hc7
      have hX7 := (hX5.keepN hc6).keep hc7 hxF
      refine ⟨rfl, _, hX7.cell 4 rfl, _, hX7.cell 4 rfl, fun w8 e8 => ?_⟩
      rw [u8_of (x := (x.b.toNat : Int) + 1) (m := x.b.toNat + 1) (by omega)] at e8
      have hc8 : Ch Non w7 w8 := Ch.alloc e8
      have r8 : Rd w8 (some ⟨w7.heap.size, 0, none⟩) (([x.b, UInt8.ofNat (x.b.toNat + 1)] : List UInt8).map u8v) (· = w7.heap.size) := (Blk.new e8).rd
      have hout := conv_out (P := Try.prog) (src := t_S_uint8) (dst := t_string) (e := t_uint8) (c := 2) r8 (by kernel_rfl) (by kernel_rfl) (by kernel_rfl)
      refine ⟨_, _, hout, ?_, _, _, str_app bs [x.b, UInt8.ofNat (x.b.toNat + 1)], ?_, hP7.keepN hc8, hF7.le hc8.size, hC7.andN hc8⟩
      · rw [str_size]
        show ((bs.length + 2 : Nat) : Int) ≤ _
        omega
      · simp; omega
    · refine ⟨_, hX5.cell 1 rfl, _, hX5.cell 2 rfl, fun w6 e6 => ?_⟩
      have hc6 : Ch Non w5 w6 := Ch.alloc e6
      have hs6 : w5.heap.size < w6.heap.size := (Blk.new e6).lt
      have r6 : Rd w6 (some ⟨w5.heap.size, 0, none⟩) (([x.n, x.m] : List Int).map (.int .i64)) (· = w5.heap.size) := (Blk.new e6).rd
      refine step_call (PenNum_spec (hP5.keepN hc6) (fun i hi => by have := (hF5 i hi).2; omega) r6 (fun i hi => by subst hi; exact ⟨hs6, fun hx => absurd (hF5 _ hx).2 (Nat.lt_irrefl _)⟩) (by simp; omega) 2) ?_
      rintro v w7 ⟨rfl, hP7, hc7⟩
      have hF6 := hF5.le hc6.size
      have hC6 := hC5.andN hc6
      have hF7 := hF6.ext hC6 hc7.size
      have hC7 := hF6.hi hC6 hc7
      have hX7 := (hX5.keepN hc6).keep hc7 hxF
      refine ⟨rfl, _, hX7.cell 1 rfl, ?_⟩
      refine step_call (RefNum_spec w7 _) ?_
      rintro v w8 ⟨rfl, hc8⟩
      refine ⟨_, _, rfl, _, (hX7.keepN hc8).cell 2 rfl, ?_⟩
      refine step_call (RefNum_spec w8 _) ?_
      rintro v w9 ⟨rfl, hc9⟩
      have hP9 := (hP7.keepN hc8).keepN hc9
      have hF9 := (hF7.le hc8.size).le hc9.size
      have hC9 := (hC7.andN hc8).andN hc9
      have hnum : numsL [x.n, x.m] = numI x.n ++ numI x.m := by simp [numsL]
      have hany : [x.n, x.m].any outN = (outN x.n || outN x.m) := by simp
      rw [hnum, hany] at hP9
      have hres : ∀ bad', bad' = (bad || (outN x.n || outN x.m)) → ∃ (bs' : List UInt8) (F' : Nat → Prop), str bs ++ str (numI x.n) ++ str (numI x.m) = str bs' ∧ bs'.length ≤ 300 * (j + 1) ∧ PenR w9 pb bad' bs' F' ∧ Foot W w9 F' ∧ Ch Non W w9 := fun bad' h => by
        subst h
        exact ⟨_, _, by rw [str_app, str_app, List.append_assoc], by simp [numI_len]; omega, hP9, hF9, hC9⟩
      refine ⟨_, _, rfl, by rw [str_size, str_size, numI_len]; omega, by rw [str_app, str_size, str_size, List.length_append, numI_len, numI_len]; omega, fun hb => hres _ (by rw [hb]; rfl), fun hb => ⟨fun h1 => hres _ ?_, fun h1 => hres _ ?_⟩⟩
      · cases h : outN x.n with
        | true => rw [hb]; rfl
        | false => rw [h] at h1; cases h1
      · cases h : outN x.n with
        | true => rw [h] at h1; cases h1
        | false => rw [hb]; simp
    · refine ⟨_, hX5.cell 3 rfl, _, hX5.cell 3 rfl, fun w6 e6 => ?_⟩
      have hc6 : Ch Non w5 w6 := Ch.alloc e6
      have hs6 : w5.heap.size < w6.heap.size := (Blk.new e6).lt
      have r6 : Rd w6 (some ⟨w5.heap.size, 0, none⟩) (([x.s, x.s] : List ByteArray).map .string) (· = w5.heap.size) := (Blk.new e6).rd
      have htl : textsL [x.s, x.s] = textB x.s ++ textB x.s := by simp [textsL]
      have htb : (textB x.s).length = 4 + x.s.size := by simp [textB, numI_len]
      refine step_call (PenText_spec (hP5.keepN hc6) (fun i hi => by have := (hF5 i hi).2; omega) r6 (fun i hi => by subst hi; exact ⟨hs6, fun hx => absurd (hF5 _ hx).2 (Nat.lt_irrefl _)⟩) (by rw [htl, List.length_append, htb]; omega) (fun s hs => by simp only [List.mem_cons, List.not_mem_nil, or_false] at hs; rcases hs with rfl | rfl <;> omega) (by simp) 2) ?_
      rintro v w7 ⟨rfl, hP7, hc7⟩
      rw [htl] at hP7
      have hF6 := hF5.le hc6.size
      have hC6 := hC5.andN hc6
      have hF7 := hF6.ext hC6 hc7.size
      have hC7 := hF6.hi hC6 hc7
      have hX7 := (hX5.keepN hc6).keep hc7 hxF
      refine ⟨rfl, fun w' => Ch Non w7 w', fun w8 e8 => ⟨Ch.drew e8, _, fun w' h => (hX7.keepN h).cell 3 rfl, _, fun w' h => (hX7.keepN h).cell 3 rfl, ?_⟩⟩
      have hc8 : Ch Non w7 w8 := Ch.drew e8
      refine step_call (RefText_spec w8 x.s (by omega)) ?_
      rintro v w9 ⟨rfl, hc9⟩
      refine ⟨_, rfl, hc8.andN hc9, by rw [str_size, str_size, htb]; omega, ?_⟩
      refine step_call (RefText_spec w9 x.s (by omega)) ?_
      rintro v w10 ⟨rfl, hc10⟩
      have hc710 := (hc8.andN hc9).andN hc10
      exact ⟨_, rfl, hc710, by rw [str_app, str_size, str_size, List.length_append, htb]; omega, _, _, by rw [str_app, str_app, List.append_assoc], by simp [htb]; omega, hP7.keepN hc710, hF7.le hc710.size, hC7.andN hc710⟩
    · change ∃ _, _
      refine ⟨_, _, _, _, _, _, _, _, _, _, _, _, _, _, _, _, _, _, _, _, _, _, _, _, _, _, _, _, _, _, _, _, ⟨hX5.cell 5 rfl, hX5.cell 6 rfl, hX5.cell 7 rfl, hX5.cell 8 rfl, hX5.cell 9 rfl, hX5.cell 10 rfl, hX5.cell 11 rfl, hX5.cell 12 rfl, hX5.cell 13 rfl, hX5.cell 14 rfl, hX5.cell 15 rfl, hX5.cell 16 rfl, hX5.cell 17 rfl, hX5.cell 18 rfl, hX5.cell 19 rfl, hX5.cell 20 rfl, hX5.cell 21 rfl, hX5.cell 22 rfl, hX5.cell 23 rfl, hX5.cell 24 rfl, hX5.cell 25 rfl, hX5.cell 26 rfl, hX5.cell 27 rfl, hX5.cell 28 rfl, hX5.cell 29 rfl, hX5.cell 30 rfl, hX5.cell 31 rfl, hX5.cell 32 rfl, hX5.cell 33 rfl, hX5.cell 34 rfl, hX5.cell 35 rfl, hX5.cell 36 rfl⟩, fun w6 e6 => ?_⟩
      have hc6 : Ch Non w5 w6 := Ch.alloc e6
      have hs6 : w5.heap.size < w6.heap.size := (Blk.new e6).lt
      have r6 : Rd w6 (some ⟨w5.heap.size, 0, none⟩) (([x.d] : List Dig).map digE).flatten (· = w5.heap.size) := by
        have : (([x.d] : List Dig).map digE).flatten = [u8v d0, u8v d1, u8v d2, u8v d3, u8v d4, u8v d5, u8v d6, u8v d7, u8v d8, u8v d9, u8v d10, u8v d11, u8v d12, u8v d13, u8v d14, u8v d15, u8v d16, u8v d17, u8v d18, u8v d19, u8v d20, u8v d21, u8v d22, u8v d23, u8v d24, u8v d25, u8v d26, u8v d27, u8v d28, u8v d29, u8v d30, u8v d31] := by
          simp only [List.map_cons, List.map_nil, List.flatten_cons, List.flatten_nil, List.append_nil]
          unfold digE; rw [hd]; rfl
        rw [this]
        exact (Blk.new e6).rd
      refine step_call (PenDigest_spec (hP5.keepN hc6) (fun i hi => by have := (hF5 i hi).2; omega) r6 (fun i hi => by subst hi; exact ⟨hs6, fun hx => absurd (hF5 _ hx).2 (Nat.lt_irrefl _)⟩) (by simp; omega) 1) ?_
      rintro v w7 ⟨rfl, hP7, hc7⟩
      have hF6 := hF5.le hc6.size
      have hC6 := hC5.andN hc6
      have hF7 := hF6.ext hC6 hc7.size
      have hC7 := hF6.hi hC6 hc7
      have hX7 := (hX5.keepN hc6).keep hc7 hxF
      have r7 : Rd w7 (some ⟨xb, 5, none⟩) (([d0, d1, d2, d3, d4, d5, d6, d7, d8, d9, d10, d11, d12, d13, d14, d15, d16, d17, d18, d19, d20, d21, d22, d23, d24, d25, d26, d27, d28, d29, d30, d31] : List UInt8).map u8v) (· = xb) := Blk.rdAt hX7 5
      have hout := conv_out (P := Try.prog) (src := t_S_uint8) (dst := t_string) (e := t_uint8) (c := 32) r7 (by kernel_rfl) (by kernel_rfl) (by kernel_rfl)
      rw [at0]
      refine ⟨rfl, _, _, hout, ?_⟩
      have hl7 : (bs ++ digsL [x.d]).length = bs.length + 32 := by rw [List.length_append, digsL_len]; rfl
      have hd1 : digsL [x.d] = [d0, d1, d2, d3, d4, d5, d6, d7, d8, d9, d10, d11, d12, d13, d14, d15, d16, d17, d18, d19, d20, d21, d22, d23, d24, d25, d26, d27, d28, d29, d30, d31] := by unfold digsL; simp only [List.map_cons, List.map_nil, List.flatten_cons, List.flatten_nil, List.append_nil]; exact hd
      refine ⟨by rw [str_size]; show ((bs.length + 32 : Nat) : Int) ≤ _; omega, ?_⟩
      refine step_call (PenDigest_spec (ds := []) (G := Non) hP7 (fun i hi => (hF7 i hi).2) (Rd.nil _ none _) (fun i hi => hi.elim) (by rw [hl7]; simp; omega) 0) ?_
      rintro v w8 ⟨rfl, hP8, hc8⟩
      have h8 : digsL [] = [] := rfl
      rw [h8, List.append_nil] at hP8
      exact ⟨rfl, _, _, by rw [hd1]; exact str_app _ _, by omega, hP8, hF7.ext hC7 hc8.size, hF7.hi hC7 hc8⟩
    rintro jk want' bad' w9 ⟨bs', F', rfl, hbl', hP9, hF9, hC9⟩
    refine step_call (PenBytes_spec hP9 (by omega)) ?_
    rintro v w10 ⟨rfl, hP10, hc10⟩
    have hF10 := hF9.le hc10.size
    have hC10 := hF9.hi hC9 hc10
    have hnb : ((!(({ data := bs'.toArray } : ByteArray).toList == (str bs').toList)) : Bool) = false := by
      have : (({ data := bs'.toArray } : ByteArray)) = str bs' := rfl
      rw [this]; simp
    refine ⟨_, rfl, iteF hnb ?_⟩
    refine step_call (Bad_spec hP10) ?_
    rintro v w11 ⟨rfl, rfl⟩
    exact ⟨_, rfl, iteF (by simp) ⟨av.length - (j + 1), by omega, j + 1, bs', F', by rw [wrap_id (by omega) (by omega)]; rfl, hlt, rfl, rfl, hbl', hP10, hF10, hC10⟩⟩
  rintro jk w3 hC3 w4 e4
  refine step_call (PenByteNil_spec _ _ _ _) ?_
  rintro v w5 ⟨rfl, rfl⟩
  refine ⟨rfl, fun w6 e6 => ?_⟩
  refine step_call (PenNumNil_spec _ _ _ _) ?_
  rintro v w7 ⟨rfl, rfl⟩
  refine ⟨rfl, fun w8 e8 => ?_⟩
  have r8 : Rd w8 (some ⟨w7.heap.size, 0, none⟩) (([ByteArray.mk #[97]] : List ByteArray).map .string) (· = w7.heap.size) := (Blk.new e8).rd
  refine step_call (PenTextNil_spec r8 (by simp) 1) ?_
  rintro v w9 ⟨rfl, hc9⟩
  refine ⟨rfl, fun w10 e10 => ?_⟩
  have r10 : Rd w10 (some ⟨w9.heap.size, 0, none⟩) (([⟨List.replicate 32 0, rfl⟩] : List Dig).map digE).flatten (· = w9.heap.size) := (Blk.new e10).rd
  refine step_call (PenDigestNil_spec r10 (by simp) 1) ?_
  rintro v w11 ⟨rfl, hc11⟩
  refine ⟨rfl, ?_⟩
  refine step_call (PenBytesNil_spec _) ?_
  rintro v w12 ⟨rfl, rfl⟩
  refine ⟨_, rfl, iteT (by simp) ?_⟩
  refine step_call (PenBadNil_spec _) ?_
  rintro v w13 ⟨rfl, rfl⟩
  exact ⟨_, rfl, rfl, ((((((hC3.andN (Ch.alloc e4)).andN (Ch.alloc e6)).andN (Ch.alloc e8)).andN hc9).andN (Ch.alloc e10)).andN hc11)⟩
end Go.Proofs.Ytfecfdhigkehgaa.Pen
