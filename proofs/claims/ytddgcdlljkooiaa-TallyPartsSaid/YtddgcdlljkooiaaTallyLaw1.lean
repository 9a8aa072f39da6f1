/- TallyExact's contract: of every row of events and every command the Go function answers true and leaves what was there; the conditions stand in each theorem. -/
import Derived.Test.YtddgcdlljkooiaaTally3
import Derived.Test.YtddgcdlljkooiaaDatA
set_option linter.unusedVariables false
set_option linter.unusedSimpArgs false
namespace Go.Proofs.Ytddgcdlljkooiaa.Tally
open Go Go.Proofs Go.Proofs.Ytddgcdlljkooiaa.V Go.Proofs.Ytddgcdlljkooiaa.Vc Go.RowKit

set_option maxRecDepth 100000 in
theorem cmd_dat {w : World} {x : List Value} (h : DatC Try.prog w 52 x) : ∃ (k i n : Int) (gd : Bool) (o1 : Option Addr) (n1 c1 : Nat) (o2 : Option Addr) (n2 c2 : Nat) (s : ByteArray), x = [.int .i64 k, .int .i64 i, .int .i64 n, .bool gd, .slice o1 n1 c1, .slice o2 n2 c2, .string s] := by
  obtain ⟨hl, hf⟩ := h.struct Try.underlying52
  have h2 : Try.prog.cellsOf 52 = 7 := by kernel_rfl
  rw [h2] at hl
  match x, hl with
  | [a0, a1, a2, a3, a4, a5, a6], _ =>
    have h0 : DatC Try.prog w t_int [a0] := hf 0 _ rfl
    have h1 : DatC Try.prog w t_int [a1] := hf 1 _ rfl
    have h2 : DatC Try.prog w t_int [a2] := hf 2 _ rfl
    have h3 : DatC Try.prog w 4 [a3] := hf 3 _ rfl
    have h4 : DatC Try.prog w t_S_int [a4] := hf 4 _ rfl
    have h5 : DatC Try.prog w t_S_int [a5] := hf 5 _ rfl
    have h6 : DatC Try.prog w 9 [a6] := hf 6 _ rfl
    obtain ⟨n0, e0, _⟩ := h0.int (k := .i64) (by kernel_rfl)
    obtain ⟨n1, e1, _⟩ := h1.int (k := .i64) (by kernel_rfl)
    obtain ⟨n2, e2, _⟩ := h2.int (k := .i64) (by kernel_rfl)
    obtain ⟨b3, e3⟩ := h3.bool (by kernel_rfl)
    obtain ⟨o4, c4, x4, e4, _⟩ := h4.ints (k := .i64) (e := t_int) (by kernel_rfl) (by kernel_rfl)
    obtain ⟨o5, c5, x5, e5, _⟩ := h5.ints (k := .i64) (e := t_int) (by kernel_rfl) (by kernel_rfl)
    obtain ⟨s6, e6, _⟩ := h6.string (by kernel_rfl)
    injection e0 with e0 _
    injection e1 with e1 _
    injection e2 with e2 _
    injection e3 with e3 _
    injection e4 with e4 _
    injection e5 with e5 _
    injection e6 with e6 _
    subst e0; subst e1; subst e2; subst e3; subst e4; subst e5; subst e6
    exact ⟨n0, n1, n2, b3, o4, _, c4, o5, _, c5, s6, rfl⟩
set_option maxRecDepth 100000 in
theorem ev_dat {w : World} {x : List Value} (hl : x.length = Try.prog.cellsOf 64) (h : DatC Try.prog w 64 x) : ∃ y : EvD, x = evE y ∧ Rd w y.no (y.nums.map iv) (fun _ => True) ∧ y.nums.length ≤ 9223372036854775807 := by
  obtain ⟨_, hf⟩ := h.struct Try.underlying64
  have h2 : Try.prog.cellsOf 64 = 10 := by kernel_rfl
  rw [h2] at hl
  match x, hl with
  | [a0, a1, a2, a3, a4, a5, a6, a7, a8, a9], _ =>
    have hc : DatC Try.prog w 52 [a0, a1, a2, a3, a4, a5, a6] := hf 0 _ rfl
    have ha : DatC Try.prog w 62 [a7, a8, a9] := hf 1 _ rfl
    obtain ⟨k, i, n, gd, o1, n1, c1, o2, n2, c2, s, ec⟩ := cmd_dat hc
    obtain ⟨_, hg⟩ := ha.struct Try.underlying62
    have h7 : DatC Try.prog w 26 [a7] := hg 0 _ rfl
    have h8 : DatC Try.prog w t_S_int [a8] := hg 1 _ rfl
    have h9 : DatC Try.prog w t_S_int [a9] := hg 2 _ rfl
    obtain ⟨n7, e7, _⟩ := h7.int (k := .i64) (by kernel_rfl)
    obtain ⟨o8, c8, x8, e8, hl8, hm8, _, _, hr⟩ := h8.ints (k := .i64) (e := t_int) (by kernel_rfl) (by kernel_rfl)
    obtain ⟨o9, c9, x9, e9, _⟩ := h9.ints (k := .i64) (e := t_int) (by kernel_rfl) (by kernel_rfl)
    injection e7 with e7 _
    injection e8 with e8 _
    injection e9 with e9 _
    subst e7; subst e8; subst e9
    simp only [List.cons.injEq, and_true] at ec
    obtain ⟨rfl, rfl, rfl, rfl, rfl, rfl, rfl⟩ := ec
    exact ⟨⟨k, i, n, gd, o1, n1, c1, o2, n2, c2, s, n7, o8, c8, x8, o9, _, c9⟩, rfl, hr, Nat.le_trans hl8 (Nat.le_trans hm8 (by unfold maxLen; omega))⟩
theorem bump_g {t : List Int} {i j : Nat} {d : Int} (hi : i < t.length) : g (bump t i d) j = if j = i then IntKind.i64.wrap (g t i + d) else g t j := by
  unfold bump
  by_cases h : j = i
  · subst h; rw [if_pos rfl, g_set hi]
  · rw [if_neg h]
    unfold g
    rw [List.getD_eq_getElem?_getD, List.getElem?_set_ne (fun e => h e.symm), List.getD_eq_getElem?_getD]
theorem pickT_g {t n : List Int} {j : Nat} (ht : t.length = 32) (hj : j < 28) : g (pickT t n) j = g t j := by
  unfold pickT
  simp only
  have h1 : g (if 2 ≤ n.length ∧ n.getD 1 0 = 1 then bump t 28 1 else t) j = g t j := by
    split
    · rw [bump_g (by omega), if_neg (by omega)]
    · rfl
  split
  · rw [bump_g (by split <;> simp [bump_len, ht]), if_neg (by omega)]; exact h1
  · exact h1
/-- Counts rise by at most one. -/
theorem addT_g {t : List Int} {k e : Int} {n : List Int} {o j : Nat} (ht : t.length = 32) (hj : j < 28) (B : Int) (hB : B ≤ 1000000) (h : ∀ i, i < 28 → 0 ≤ g t i ∧ g t i ≤ B) : 0 ≤ g (addT t k e n o) j ∧ g (addT t k e n o) j ≤ B + 1 := by
  obtain ⟨k0, k1⟩ := kindP_at k
  have hb : ∀ i, i < 28 → g (bump t (2 * (kindP k).toNat) 1) i = if i = 2 * (kindP k).toNat then g t i + 1 else g t i := fun i hi => by
    rw [bump_g (by omega)]
    split
    · rename_i h2
      subst h2
      have := h _ hi
      rw [wrap_id (by omega) (by omega)]
    · rfl
  have hl1 : (bump t (2 * (kindP k).toNat) 1).length = 32 := by rw [bump_len]; exact ht
  have hone : 0 ≤ g (bump t (2 * (kindP k).toNat) 1) j ∧ g (bump t (2 * (kindP k).toNat) 1) j ≤ B + 1 := by
    rw [hb j hj]
    have := h j hj
    split <;> omega
  have hadd : addT t k e n o = if e ≠ 0 then bump (bump t (2 * (kindP k).toNat) 1) (2 * (kindP k).toNat + 1) 1 else if k = 5 then pickT (bump t (2 * (kindP k).toNat) 1) n else if k = 2 then bump (bump t (2 * (kindP k).toNat) 1) 29 1 else if k = 3 then bump (bump t (2 * (kindP k).toNat) 1) 30 o else bump t (2 * (kindP k).toNat) 1 := rfl
  rw [hadd]
  split
  · rw [bump_g (by omega)]
    split
    · rename_i h2
      rw [hb _ (by omega), if_neg (by omega)]
      have := h (2 * (kindP k).toNat + 1) (by omega)
      rw [wrap_id (by omega) (by omega)]; omega
    · exact hone
  · split
    · rw [pickT_g hl1 hj]; exact hone
    · split
      · rw [bump_g (by omega), if_neg (by omega)]; exact hone
      · split
        · rw [bump_g (by omega), if_neg (by omega)]; exact hone
        · exact hone
theorem ofT_g : ∀ (es : List EvD), es.length ≤ 1000 → ∀ j, j < 28 → 0 ≤ g (ofT es) j ∧ g (ofT es) j ≤ es.length := by
  have main : ∀ (es : List EvD) (n : Nat), n ≤ es.length → es.length ≤ 1000 → ∀ j, j < 28 → 0 ≤ g (ofT (es.take n)) j ∧ g (ofT (es.take n)) j ≤ n := fun es n => by
    induction n with
    | zero =>
      intro _ _ j hj
      have : g z32 j = 0 := by unfold g z32; rw [List.getD_eq_getElem?_getD, List.getElem?_replicate, if_pos (by omega)]; rfl
      rw [show ofT (es.take 0) = z32 from rfl, this]
      omega
    | succ n ih =>
      intro h1 h2 j hj
      have h3 : n < es.length := by omega
      rw [List.take_succ_eq_append_getElem h3, ofT_snoc]
      have := addT_g (k := es[n].kind) (e := es[n].err) (n := es[n].nums) (o := es[n].on) (ofT_len (es.take n)) hj n (by omega) (ih (by omega) h2)
      unfold addE
      omega
  intro es h j hj
  have := main es es.length (Nat.le_refl _) h j hj
  rwa [List.take_length] at this
set_option maxRecDepth 100000 in
set_option maxHeartbeats 1000000 in
theorem awake_spec (w : World) : Calls Try.prog i_coadjutorlaw37_awake #[] w (Ret fun v w' => v = .bool true ∧ Ch Non w w') := by
  refine coadjutorlaw37_awake.calls ?_
  unfold coadjutorlaw37_awake.vc
  intro w1 e1 w2 e2
  have hA := (Blk.new e1).alloc e2
  have hB := Blk.new e2
  have s1 : w.heap.size < w1.heap.size := (Blk.new e1).lt
  have hc2 : Ch Non w w2 := (Ch.alloc e1).andN (Ch.alloc e2)
  let ev1 : EvD := ⟨5, 0, 0, false, none, 0, 0, none, 0, 0, ByteArray.empty, 8, none, 0, [], none, 0, 0⟩
  let ev2 : EvD := ⟨5, 0, 0, false, none, 0, 0, none, 0, 0, ByteArray.empty, 0, some ⟨w.heap.size, 0, none⟩, 4, [7, 1, 0, 2], none, 0, 0⟩
  have hr : Rd w2 (some ⟨w1.heap.size, 0, none⟩) (([ev1, ev2] : List EvD).map evE).flatten (· = w1.heap.size) := hB.rd
  have hn : ∀ e ∈ ([ev1, ev2] : List EvD), Rd w2 e.no (e.nums.map iv) (· = w.heap.size) := fun e he => by
    simp only [List.mem_cons, List.not_mem_nil, or_false] at he
    rcases he with rfl | rfl
    · exact Rd.nil _ _ _
    · exact hA.rd
  refine step_call (Of_spec (es := [ev1, ev2]) hr (by simp) hn (fun i hi => by have := hB.lt; omega) 2) ?_
  rintro v w3 ⟨rfl, hc3⟩
  have hT : ofT [ev1, ev2] = [0, 0, 0, 0, 0, 0, 0, 0, 0, 0, 2, 1, 0, 0, 0, 0, 0, 0, 0, 0, 0, 0, 0, 0, 0, 0, 0, 0, 1, 0, 0, 2] := rfl
  rw [hT]
  have hV : ([0, 0, 0, 0, 0, 0, 0, 0, 0, 0, 2, 1, 0, 0, 0, 0, 0, 0, 0, 0, 0, 0, 0, 0, 0, 0, 0, 0, 1, 0, 0, 2] : List Int).length = 32 := rfl
  generalize hTT : ([0, 0, 0, 0, 0, 0, 0, 0, 0, 0, 2, 1, 0, 0, 0, 0, 0, 0, 0, 0, 0, 0, 0, 0, 0, 0, 0, 0, 1, 0, 0, 2] : List Int) = t at hV ⊢
  clear hr hn hB hA e1 e2 hT
  refine ⟨_, _, _, _, _, _, _, _, _, _, _, _, _, _, _, _, _, _, _, _, _, _, _, _, _, _, _, _, _, _, _, _, congrArg Value.agg (agg32 hV).symm, fun w4 e4 => ?_⟩
  have hZ := newz e4
  refine ⟨⟨okT hZ 0 (by decide), okT hZ 1 (by decide), okT hZ 2 (by decide), okT hZ 3 (by decide), okT hZ 4 (by decide), okT hZ 5 (by decide), okT hZ 6 (by decide), okT hZ 7 (by decide), okT hZ 8 (by decide), okT hZ 9 (by decide), okT hZ 10 (by decide), okT hZ 11 (by decide), okT hZ 12 (by decide), okT hZ 13 (by decide), okT hZ 14 (by decide), okT hZ 15 (by decide), okT hZ 16 (by decide), okT hZ 17 (by decide), okT hZ 18 (by decide), okT hZ 19 (by decide), okT hZ 20 (by decide), okT hZ 21 (by decide), okT hZ 22 (by decide), okT hZ 23 (by decide), okT hZ 24 (by decide), okT hZ 25 (by decide), okT hZ 26 (by decide), okT hZ 27 (by decide), okT hZ 28 (by decide), okT hZ 29 (by decide), okT hZ 30 (by decide), okT hZ 31 (by decide)⟩, fun w5 e5 => ?_⟩
  obtain ⟨hX, hcx⟩ := sets32 hZ rfl hV e5
  have s4 : w3.heap.size < w4.heap.size := hZ.lt
  have hc5 : Ch Non w w5 := ((hc2.andN hc3).andN (Ch.alloc e4)).trans hcx (fun i hi he => by have := (hc2.andN hc3).size; omega)
  have g10 : g t 10 = 2 := by subst hTT; rfl
  have g11 : g t 11 = 1 := by subst hTT; rfl
  have g28 : g t 28 = 1 := by subst hTT; rfl
  have g31 : g t 31 = 2 := by subst hTT; rfl
  have x10 := cT hX 10 (by omega)
  have x11 := cT hX 11 (by omega)
  have x28 := cT hX 28 (by omega)
  have x31 := cT hX 31 (by omega)
  rw [g10] at x10
  rw [g11] at x11
  rw [g28] at x28
  rw [g31] at x31
  refine ⟨⟨by omega, by omega⟩, _, _, ⟨x10, x11⟩, iteT rfl ⟨_, x28, iteT rfl ⟨_, x31, iteT rfl ⟨⟨by omega, by omega⟩, _, _, ⟨x10, x11⟩, ?_⟩⟩⟩⟩
  refine step_call (Share_spec w5 2 1) ?_
  rintro v w6 ⟨rfl, hc6⟩
  have hX6 := hX.keepN hc6
  have hs : shareV 2 1 = 50 := by decide
  rw [hs]
  refine ⟨_, rfl, iteT rfl ⟨_, _, _, _, _, _, _, _, _, _, _, _, _, _, _, _, _, _, _, _, _, _, _, _, _, _, _, _, _, _, _, _, ⟨cT hX6 0 (by rw [hV]; decide), cT hX6 1 (by rw [hV]; decide), cT hX6 2 (by rw [hV]; decide), cT hX6 3 (by rw [hV]; decide), cT hX6 4 (by rw [hV]; decide), cT hX6 5 (by rw [hV]; decide), cT hX6 6 (by rw [hV]; decide), cT hX6 7 (by rw [hV]; decide), cT hX6 8 (by rw [hV]; decide), cT hX6 9 (by rw [hV]; decide), cT hX6 10 (by rw [hV]; decide), cT hX6 11 (by rw [hV]; decide), cT hX6 12 (by rw [hV]; decide), cT hX6 13 (by rw [hV]; decide), cT hX6 14 (by rw [hV]; decide), cT hX6 15 (by rw [hV]; decide), cT hX6 16 (by rw [hV]; decide), cT hX6 17 (by rw [hV]; decide), cT hX6 18 (by rw [hV]; decide), cT hX6 19 (by rw [hV]; decide), cT hX6 20 (by rw [hV]; decide), cT hX6 21 (by rw [hV]; decide), cT hX6 22 (by rw [hV]; decide), cT hX6 23 (by rw [hV]; decide), cT hX6 24 (by rw [hV]; decide), cT hX6 25 (by rw [hV]; decide), cT hX6 26 (by rw [hV]; decide), cT hX6 27 (by rw [hV]; decide), cT hX6 28 (by rw [hV]; decide), cT hX6 29 (by rw [hV]; decide), cT hX6 30 (by rw [hV]; decide), cT hX6 31 (by rw [hV]; decide)⟩, ?_⟩⟩
  rw [agg32 hV]
  refine step_call (Total_spec w6 hV) ?_
  rintro v w7 ⟨rfl, hc7⟩
  have ht : totT t 14 = (2, 1) := by subst hTT; rfl
  rw [ht]
  exact ⟨_, _, rfl, rfl, (hc5.andN hc6).andN hc7⟩
theorem share_pos {a b : Int} (ha : a > 0) (hb : 0 ≤ b) : shareV a b = IntKind.i64.wrap (Int.tdiv (IntKind.i64.wrap (100 * b)) a) := by
  unfold shareV; rw [if_neg (by omega)]
theorem share_zero {a b : Int} (ha : ¬ a > 0) : shareV a b = 0 := by
  unfold shareV; rw [if_pos (.inl (by omega))]
set_option maxRecDepth 100000 in
set_option maxHeartbeats 4000000 in
theorem TallyExact_true (W : World) (o1 : Option Addr) (n1 c1 : Nat) (h1 : DatC Try.prog W t_S_ghost_Event [.slice o1 n1 c1]) (cs : List Value) (h2 : DatC Try.prog W 52 cs) :
    Calls Try.prog i_coadjutorlaw37_TallyExact #[.slice o1 n1 c1, .agg cs.toArray] W (Ret fun v w' => v = .bool true ∧ Ch Non W w') := by
  obtain ⟨o1', c1', es, hcs1, hlc, hm1, _, hQ, hr⟩ := h1.sliceOf (e := 64) (enc := evE) (Q := fun y => Rd W y.no (y.nums.map iv) (fun _ => True) ∧ y.nums.length ≤ 9223372036854775807) (by kernel_rfl) (fun x hl hd => ev_dat hl hd)
  injection hcs1 with hcs1
  injection hcs1 with q1 q2 q3
  subst q1; subst q2; subst q3
  obtain ⟨ck, ci, cn, cg, co1, cn1, cc1, co2, cn2, cc2, csb, rfl⟩ := cmd_dat h2
  refine coadjutorlaw37_TallyExact.calls _ _ _ _ _ _ _ _ _ _ _ _ _ _ ?_
  unfold coadjutorlaw37_TallyExact.vc
  intro w1 e1
  have hC1 := Blk.new e1
  have hc1 : Ch Non W w1 := Ch.alloc e1
  have sW : W.heap.size < w1.heap.size := hC1.lt
  refine step_call (awake_spec w1) ?_
  rintro v w2 ⟨rfl, hc2⟩
  have hcW2 := hc1.andN hc2
  have hro : ∀ {w'}, Ch Non W w' → Rd w' o1 (es.map evE).flatten (fun i => i < W.heap.size) := fun hc => (hr.mono (fun i hi _ => hi)).keepN hc
  have hrn : ∀ {w'}, Ch Non W w' → ∀ e ∈ es, Rd w' e.no (e.nums.map iv) (fun i => i < W.heap.size) := fun hc e he => ((hQ e he).1.mono (fun i hi _ => hi)).keepN hc
  refine ⟨_, rfl, iteF rfl ?_⟩
  refine step_call (great_spec (hro hcW2) (by unfold maxLen at hm1; omega) (hrn hcW2) (fun e he => (hQ e he).2) c1) ?_
  rintro v w3 ⟨rfl, rfl⟩
  refine ⟨_, rfl, fun _ => ⟨rfl, hcW2⟩, fun hgr => ?_⟩
  have hes : es.length ≤ 60 := by
    unfold greatB at hgr
    rw [Bool.or_eq_false_iff] at hgr
    have := of_decide_eq_false hgr.2
    omega
  have hC3 := hC1.keepN hc2
  refine step_call (Of_spec (hro hcW2) (by omega) (hrn hcW2) (fun i hi => by have := hcW2.size; omega) c1) ?_
  rintro v w4 ⟨rfl, hc4⟩
  have hV := ofT_len es
  have hcW4 := hcW2.andN hc4
  have hC4 := hC3.keepN hc4
  refine ⟨_, _, _, _, _, _, _, _, _, _, _, _, _, _, _, _, _, _, _, _, _, _, _, _, _, _, _, _, _, _, _, _, congrArg Value.agg (agg32 hV).symm, fun w5 e5 => ?_⟩
  have hZ := newz e5
  refine ⟨⟨okT hZ 0 (by decide), okT hZ 1 (by decide), okT hZ 2 (by decide), okT hZ 3 (by decide), okT hZ 4 (by decide), okT hZ 5 (by decide), okT hZ 6 (by decide), okT hZ 7 (by decide), okT hZ 8 (by decide), okT hZ 9 (by decide), okT hZ 10 (by decide), okT hZ 11 (by decide), okT hZ 12 (by decide), okT hZ 13 (by decide), okT hZ 14 (by decide), okT hZ 15 (by decide), okT hZ 16 (by decide), okT hZ 17 (by decide), okT hZ 18 (by decide), okT hZ 19 (by decide), okT hZ 20 (by decide), okT hZ 21 (by decide), okT hZ 22 (by decide), okT hZ 23 (by decide), okT hZ 24 (by decide), okT hZ 25 (by decide), okT hZ 26 (by decide), okT hZ 27 (by decide), okT hZ 28 (by decide), okT hZ 29 (by decide), okT hZ 30 (by decide), okT hZ 31 (by decide)⟩, fun w6 e6 => ?_⟩
  obtain ⟨hT6, hcx⟩ := sets32 hZ rfl hV e6
  have s5 : w4.heap.size < w5.heap.size := hZ.lt
  have hc46 : Ch Non w4 w6 := (Ch.alloc (F := Non) e5).trans hcx (fun i hi he => by omega)
  have hC6 := hC4.keepN hc46
  have hcW6 := hcW4.andN hc46
  clear e5 e6 hZ hcx
  refine fun w7 e7 => ?_
  have hZ := newz e7
  refine ⟨⟨okT hZ 0 (by decide), okT hZ 1 (by decide), okT hZ 2 (by decide), okT hZ 3 (by decide), okT hZ 4 (by decide), okT hZ 5 (by decide), okT hZ 6 (by decide), okT hZ 7 (by decide), okT hZ 8 (by decide), okT hZ 9 (by decide), okT hZ 10 (by decide), okT hZ 11 (by decide), okT hZ 12 (by decide), okT hZ 13 (by decide), okT hZ 14 (by decide), okT hZ 15 (by decide), okT hZ 16 (by decide), okT hZ 17 (by decide), okT hZ 18 (by decide), okT hZ 19 (by decide), okT hZ 20 (by decide), okT hZ 21 (by decide), okT hZ 22 (by decide), okT hZ 23 (by decide), okT hZ 24 (by decide), okT hZ 25 (by decide), okT hZ 26 (by decide), okT hZ 27 (by decide), okT hZ 28 (by decide), okT hZ 29 (by decide), okT hZ 30 (by decide), okT hZ 31 (by decide)⟩, fun w8 e8 => ?_⟩
  obtain ⟨hU8, hcx⟩ := sets32 (t := z32) hZ rfl rfl e8
  have s7 : w6.heap.size < w7.heap.size := hZ.lt
  have hc68 : Ch Non w6 w8 := (Ch.alloc (F := Non) e7).trans hcx (fun i hi he => by omega)
  have hT8 := hT6.keepN hc68
  have hC8 := hC6.keepN hc68
  have hcW8 := hcW6.andN hc68
  have htl : w4.heap.size < w6.heap.size := hT6.lt
  clear e7 e8 hZ hcx hT6 hC6 hC4 hC3 hC1
  have hcs : W.heap.size < w4.heap.size := by have := (hc2.andN hc4).size; omega
  generalize htb : w4.heap.size = tb at hT8 htl hcs ⊢
  generalize hub : w6.heap.size = ub at hU8 s7 htl ⊢
  refine ⟨fun i k w' => ∃ j : Nat, i = j ∧ j ≤ es.length ∧ k = es.length - j ∧ Blk w' ub ((ofT (es.take j)).map iv) 60 ∧ Ch (· = ub) w8 w', ⟨_, 0, rfl, Nat.zero_le _, rfl, hU8, Ch.refl _ _⟩, ?_⟩
  clear hU8
  rintro jk i k w9 ⟨j, rfl, hj, rfl, hU9, hc9⟩
  have hT9 := hT8.keep hc9 (by omega)
  have hC9 := hC8.keep hc9 (by omega)
  have hUl := ofT_len (es.take j)
  have hcW9 : Ch Non W w9 := hcW8.trans hc9 (fun i hi he => by omega)
  refine ⟨fun hlt => ?_, fun hge => ?_⟩
  · have hlt : j < es.length := by have := of_decide_eq_true hlt; omega
    obtain ⟨p, hp, _, _, hcell⟩ := (hro hcW9).elem (sz := 10) (enc := evE) (fun _ => rfl) (by omega) hlt
    have hpc : ∀ w', Ch Non w9 w' → w'.cell? (p.add (j * 10)) = some (.int .i64 es[j].kind) := fun w' hc => by
      obtain ⟨p', hp', _, _, hcell'⟩ := (hro (hcW9.andN hc)).elem (sz := 10) (enc := evE) (fun _ => rfl) (by omega) hlt
      rw [hp] at hp'
      have hpp : p = p' := Option.some.inj hp'
      subst hpp
      have := hcell' 0 _ rfl
      rwa [add_none] at this
    have hnj := hrn hcW9 _ (List.getElem_mem hlt)
    have hsn : ofT (es.take (j + 1)) = addE (ofT (es.take j)) es[j] := by rw [List.take_succ_eq_append_getElem hlt, ofT_snoc]
    generalize es[j] = e at hcell hpc hnj hsn
    subst hp
    have hjj : (j : Int).toNat = j := Int.toNat_natCast j
    rw [hjj]
    have h7 := hcell 7 _ rfl
    have h8 := hcell 8 _ rfl
    have h9 := hcell 9 _ rfl
    rw [add_add] at h7 h8 h9
    have h7 : w9.cell? ((p.add (j * 10)).add 7) = some (.int .i64 e.err) := by rw [add_add]; exact h7
    have h8 : w9.cell? (((p.add (j * 10)).add 7).add 1) = some (.slice e.no e.nums.length e.nc) := by rw [add_add, add_add]; exact h8
    have h9 : w9.cell? (((p.add (j * 10)).add 7).add 2) = some (.slice e.oo e.on e.oc) := by rw [add_add, add_add]; exact h9
    refine ⟨⟨by omega, by omega⟩, _, _, _, _, _, _, _, ⟨h7, h8, h9⟩, fun w10 e10 => ?_⟩
    have hA10 := Blk.new e10
    refine ⟨⟨hA10.ok 0 rfl, hA10.ok 1 rfl, hA10.ok 2 rfl⟩, fun w11 e11 => ?_⟩
    have e11' : w11 = w10.setCells w9.heap.size 0 [.int .i64 e.err, .slice e.no e.nums.length e.nc, .slice e.oo e.on e.oc] := e11
    have hA11 := hA10.all [.int .i64 e.err, .slice e.no e.nums.length e.nc, .slice e.oo e.on e.oc] rfl e11'
    have hA11 : Blk w11 w9.heap.size [.int .i64 e.err, .slice e.no e.nums.length e.nc, .slice e.oo e.on e.oc] 62 := hA11
    have hc911 : Ch Non w9 w11 := (Ch.alloc (F := Non) e10).trans (Ch.sets (F := (· = w9.heap.size)) e11' rfl) (fun i hi he => by omega)
    have hU11 := hU9.keepN hc911
    clear e10 e11 e11' hA10 hcell h7 h8 h9
    generalize w9.heap.size = ab at hA11 ⊢
    refine ⟨fun w' => Ch Non w11 w', fun w12 e12 => ⟨Ch.drew e12, _, _, _, _, _, _, _, _, _, _, _, _, _, _, _, _, _, _, _, _, _, _, _, _, _, _, _, _, _, _, _, _, ⟨fun w' hc => cT (hU11.keepN hc) 0 (by rw [hUl]; decide), fun w' hc => cT (hU11.keepN hc) 1 (by rw [hUl]; decide), fun w' hc => cT (hU11.keepN hc) 2 (by rw [hUl]; decide), fun w' hc => cT (hU11.keepN hc) 3 (by rw [hUl]; decide), fun w' hc => cT (hU11.keepN hc) 4 (by rw [hUl]; decide), fun w' hc => cT (hU11.keepN hc) 5 (by rw [hUl]; decide), fun w' hc => cT (hU11.keepN hc) 6 (by rw [hUl]; decide), fun w' hc => cT (hU11.keepN hc) 7 (by rw [hUl]; decide), fun w' hc => cT (hU11.keepN hc) 8 (by rw [hUl]; decide), fun w' hc => cT (hU11.keepN hc) 9 (by rw [hUl]; decide), fun w' hc => cT (hU11.keepN hc) 10 (by rw [hUl]; decide), fun w' hc => cT (hU11.keepN hc) 11 (by rw [hUl]; decide), fun w' hc => cT (hU11.keepN hc) 12 (by rw [hUl]; decide), fun w' hc => cT (hU11.keepN hc) 13 (by rw [hUl]; decide), fun w' hc => cT (hU11.keepN hc) 14 (by rw [hUl]; decide), fun w' hc => cT (hU11.keepN hc) 15 (by rw [hUl]; decide), fun w' hc => cT (hU11.keepN hc) 16 (by rw [hUl]; decide), fun w' hc => cT (hU11.keepN hc) 17 (by rw [hUl]; decide), fun w' hc => cT (hU11.keepN hc) 18 (by rw [hUl]; decide), fun w' hc => cT (hU11.keepN hc) 19 (by rw [hUl]; decide), fun w' hc => cT (hU11.keepN hc) 20 (by rw [hUl]; decide), fun w' hc => cT (hU11.keepN hc) 21 (by rw [hUl]; decide), fun w' hc => cT (hU11.keepN hc) 22 (by rw [hUl]; decide), fun w' hc => cT (hU11.keepN hc) 23 (by rw [hUl]; decide), fun w' hc => cT (hU11.keepN hc) 24 (by rw [hUl]; decide), fun w' hc => cT (hU11.keepN hc) 25 (by rw [hUl]; decide), fun w' hc => cT (hU11.keepN hc) 26 (by rw [hUl]; decide), fun w' hc => cT (hU11.keepN hc) 27 (by rw [hUl]; decide), fun w' hc => cT (hU11.keepN hc) 28 (by rw [hUl]; decide), fun w' hc => cT (hU11.keepN hc) 29 (by rw [hUl]; decide), fun w' hc => cT (hU11.keepN hc) 30 (by rw [hUl]; decide), fun w' hc => cT (hU11.keepN hc) 31 (by rw [hUl]; decide)⟩, ⟨by omega, by omega⟩, ?_⟩⟩
    have hc912 := hc911.andN (Ch.drew (F := Non) e12)
    refine ⟨_, fun w' hc => hpc w' (hc911.andN hc), _, fun w' hc => (hA11.keepN hc).cell 0 rfl, _, _, _, fun w' hc => (hA11.keepN hc).cell 1 rfl, _, _, _, fun w' hc => (hA11.keepN hc).cell 2 rfl, ?_⟩
    rw [agg32 hUl]
    refine step_call (RefAdd_spec hUl e.kind e.err (hnj.keepN hc912) (fun i hi => by have := hcW9.size; have := hc912.size; omega) e.nc e.oo e.on e.oc) ?_
    rintro v w18 ⟨rfl, hc18⟩
    have hc918 := hc912.andN hc18
    have hV' : (addT (ofT (es.take j)) e.kind e.err e.nums e.on).length = 32 := by rw [addT_len]; exact hUl
    have hU18 := hU9.keepN hc918
    refine ⟨_, _, _, _, _, _, _, _, _, _, _, _, _, _, _, _, _, _, _, _, _, _, _, _, _, _, _, _, _, _, _, _, congrArg Value.agg (agg32 hV').symm, (Ch.drew (F := Non) e12).andN hc18, ⟨okT hU18 0 (by rw [hUl]; decide), okT hU18 1 (by rw [hUl]; decide), okT hU18 2 (by rw [hUl]; decide), okT hU18 3 (by rw [hUl]; decide), okT hU18 4 (by rw [hUl]; decide), okT hU18 5 (by rw [hUl]; decide), okT hU18 6 (by rw [hUl]; decide), okT hU18 7 (by rw [hUl]; decide), okT hU18 8 (by rw [hUl]; decide), okT hU18 9 (by rw [hUl]; decide), okT hU18 10 (by rw [hUl]; decide), okT hU18 11 (by rw [hUl]; decide), okT hU18 12 (by rw [hUl]; decide), okT hU18 13 (by rw [hUl]; decide), okT hU18 14 (by rw [hUl]; decide), okT hU18 15 (by rw [hUl]; decide), okT hU18 16 (by rw [hUl]; decide), okT hU18 17 (by rw [hUl]; decide), okT hU18 18 (by rw [hUl]; decide), okT hU18 19 (by rw [hUl]; decide), okT hU18 20 (by rw [hUl]; decide), okT hU18 21 (by rw [hUl]; decide), okT hU18 22 (by rw [hUl]; decide), okT hU18 23 (by rw [hUl]; decide), okT hU18 24 (by rw [hUl]; decide), okT hU18 25 (by rw [hUl]; decide), okT hU18 26 (by rw [hUl]; decide), okT hU18 27 (by rw [hUl]; decide), okT hU18 28 (by rw [hUl]; decide), okT hU18 29 (by rw [hUl]; decide), okT hU18 30 (by rw [hUl]; decide), okT hU18 31 (by rw [hUl]; decide)⟩, fun w19 e19 => ?_⟩
    obtain ⟨hU19, hc19⟩ := sets32 hU18 hUl hV' e19
    refine ⟨es.length - (j + 1), by omega, j + 1, by rw [wrap_id (by omega) (by omega)]; rfl, hlt, rfl, ?_, (hc9.andN hc918).same hc19⟩
    rw [hsn]; exact hU19
  have hjn : j = es.length := by have := of_decide_eq_false hge; omega
  subst hjn
  rw [List.take_length] at hU9
  clear hge hT8 hC8 hUl
  have hbnd := ofT_g es (by omega)
  generalize ofT es = t at hU9 hT9 hV hbnd ⊢
  refine ⟨fun w' => Ch Non w9 w', fun w20 e20 => ⟨Ch.drew e20, _, _, _, _, _, _, _, _, _, _, _, _, _, _, _, _, _, _, _, _, _, _, _, _, _, _, _, _, _, _, _, _, ⟨fun w' hc => cT (hT9.keepN hc) 0 (by rw [hV]; decide), fun w' hc => cT (hT9.keepN hc) 1 (by rw [hV]; decide), fun w' hc => cT (hT9.keepN hc) 2 (by rw [hV]; decide), fun w' hc => cT (hT9.keepN hc) 3 (by rw [hV]; decide), fun w' hc => cT (hT9.keepN hc) 4 (by rw [hV]; decide), fun w' hc => cT (hT9.keepN hc) 5 (by rw [hV]; decide), fun w' hc => cT (hT9.keepN hc) 6 (by rw [hV]; decide), fun w' hc => cT (hT9.keepN hc) 7 (by rw [hV]; decide), fun w' hc => cT (hT9.keepN hc) 8 (by rw [hV]; decide), fun w' hc => cT (hT9.keepN hc) 9 (by rw [hV]; decide), fun w' hc => cT (hT9.keepN hc) 10 (by rw [hV]; decide), fun w' hc => cT (hT9.keepN hc) 11 (by rw [hV]; decide), fun w' hc => cT (hT9.keepN hc) 12 (by rw [hV]; decide), fun w' hc => cT (hT9.keepN hc) 13 (by rw [hV]; decide), fun w' hc => cT (hT9.keepN hc) 14 (by rw [hV]; decide), fun w' hc => cT (hT9.keepN hc) 15 (by rw [hV]; decide), fun w' hc => cT (hT9.keepN hc) 16 (by rw [hV]; decide), fun w' hc => cT (hT9.keepN hc) 17 (by rw [hV]; decide), fun w' hc => cT (hT9.keepN hc) 18 (by rw [hV]; decide), fun w' hc => cT (hT9.keepN hc) 19 (by rw [hV]; decide), fun w' hc => cT (hT9.keepN hc) 20 (by rw [hV]; decide), fun w' hc => cT (hT9.keepN hc) 21 (by rw [hV]; decide), fun w' hc => cT (hT9.keepN hc) 22 (by rw [hV]; decide), fun w' hc => cT (hT9.keepN hc) 23 (by rw [hV]; decide), fun w' hc => cT (hT9.keepN hc) 24 (by rw [hV]; decide), fun w' hc => cT (hT9.keepN hc) 25 (by rw [hV]; decide), fun w' hc => cT (hT9.keepN hc) 26 (by rw [hV]; decide), fun w' hc => cT (hT9.keepN hc) 27 (by rw [hV]; decide), fun w' hc => cT (hT9.keepN hc) 28 (by rw [hV]; decide), fun w' hc => cT (hT9.keepN hc) 29 (by rw [hV]; decide), fun w' hc => cT (hT9.keepN hc) 30 (by rw [hV]; decide), fun w' hc => cT (hT9.keepN hc) 31 (by rw [hV]; decide)⟩, _, _, _, _, _, _, _, _, _, _, _, _, _, _, _, _, _, _, _, _, _, _, _, _, _, _, _, _, _, _, _, _, ⟨fun w' hc => cT (hU9.keepN hc) 0 (by rw [hV]; decide), fun w' hc => cT (hU9.keepN hc) 1 (by rw [hV]; decide), fun w' hc => cT (hU9.keepN hc) 2 (by rw [hV]; decide), fun w' hc => cT (hU9.keepN hc) 3 (by rw [hV]; decide), fun w' hc => cT (hU9.keepN hc) 4 (by rw [hV]; decide), fun w' hc => cT (hU9.keepN hc) 5 (by rw [hV]; decide), fun w' hc => cT (hU9.keepN hc) 6 (by rw [hV]; decide), fun w' hc => cT (hU9.keepN hc) 7 (by rw [hV]; decide), fun w' hc => cT (hU9.keepN hc) 8 (by rw [hV]; decide), fun w' hc => cT (hU9.keepN hc) 9 (by rw [hV]; decide), fun w' hc => cT (hU9.keepN hc) 10 (by rw [hV]; decide), fun w' hc => cT (hU9.keepN hc) 11 (by rw [hV]; decide), fun w' hc => cT (hU9.keepN hc) 12 (by rw [hV]; decide), fun w' hc => cT (hU9.keepN hc) 13 (by rw [hV]; decide), fun w' hc => cT (hU9.keepN hc) 14 (by rw [hV]; decide), fun w' hc => cT (hU9.keepN hc) 15 (by rw [hV]; decide), fun w' hc => cT (hU9.keepN hc) 16 (by rw [hV]; decide), fun w' hc => cT (hU9.keepN hc) 17 (by rw [hV]; decide), fun w' hc => cT (hU9.keepN hc) 18 (by rw [hV]; decide), fun w' hc => cT (hU9.keepN hc) 19 (by rw [hV]; decide), fun w' hc => cT (hU9.keepN hc) 20 (by rw [hV]; decide), fun w' hc => cT (hU9.keepN hc) 21 (by rw [hV]; decide), fun w' hc => cT (hU9.keepN hc) 22 (by rw [hV]; decide), fun w' hc => cT (hU9.keepN hc) 23 (by rw [hV]; decide), fun w' hc => cT (hU9.keepN hc) 24 (by rw [hV]; decide), fun w' hc => cT (hU9.keepN hc) 25 (by rw [hV]; decide), fun w' hc => cT (hU9.keepN hc) 26 (by rw [hV]; decide), fun w' hc => cT (hU9.keepN hc) 27 (by rw [hV]; decide), fun w' hc => cT (hU9.keepN hc) 28 (by rw [hV]; decide), fun w' hc => cT (hU9.keepN hc) 29 (by rw [hV]; decide), fun w' hc => cT (hU9.keepN hc) 30 (by rw [hV]; decide), fun w' hc => cT (hU9.keepN hc) 31 (by rw [hV]; decide)⟩, ?_⟩⟩
  rw [agg32 hV]
  refine step_call (numsL_spec w20 hV) ?_
  rintro v w23 ⟨rfl, hc23⟩
  have hc923 := (Ch.drew (F := Non) e20).andN hc23
  refine ⟨_, _, _, _, _, _, _, _, _, _, _, _, _, _, _, _, _, _, _, _, _, _, _, _, _, _, _, _, _, _, _, _, congrArg Value.agg (agg32 hV).symm, hc923, iteF (by simp) (fun w24 e24 => ?_)⟩
  have hX24 := Blk.new e24
  have s24 : w23.heap.size < w24.heap.size := hX24.lt
  refine ⟨⟨hX24.ok 0 rfl, hX24.ok 1 rfl⟩, fun w25 e25 => ?_⟩
  have e25' : w25 = w24.setCells w23.heap.size 0 [.int .i64 (totT t 0).1, .int .i64 (totT t 0).2] := e25
  have hX25 := hX24.all [.int .i64 (totT t 0).1, .int .i64 (totT t 0).2] rfl e25'
  have hc25 : Ch Non w9 w25 := (hc923.andN (Ch.alloc e24)).trans (Ch.sets (F := (· = w23.heap.size)) e25' rfl) (fun i hi he => by have := hc923.size; omega)
  have hT25 := hT9.keepN hc25
  have hU25 := hU9.keepN hc25
  have hC25 := hC9.keepN hc25
  have hux : ub < w23.heap.size := by have := hU9.lt; have := hc923.size; omega
  have hcW25 := hcW9.andN hc25
  clear e24 e25 e25' hX24 hT9 hU9 hC9
  have hX25 : Blk w25 w23.heap.size [.int .i64 (totT t 0).1, .int .i64 (totT t 0).2] 55 := hX25
  generalize w23.heap.size = xb at hX25 hux ⊢
  refine ⟨fun i k w' => ∃ j : Nat, i = j ∧ j ≤ 14 ∧ k = 14 - j ∧ Blk w' xb [.int .i64 (totT t j).1, .int .i64 (totT t j).2] 55 ∧ Ch (· = xb) w25 w', ⟨_, 0, rfl, by omega, rfl, hX25, Ch.refl _ _⟩, ?_⟩
  clear hX25
  rintro jk i k w26 ⟨j, rfl, hj, rfl, hX26, hc26⟩
  have hT26 := hT25.keep hc26 (by omega)
  have hU26 := hU25.keep hc26 (by omega)
  have hC26 := hC25.keep hc26 (by omega)
  have hcW26 : Ch Non W w26 := hcW25.trans hc26 (fun i hi he => by omega)
  refine ⟨fun hlt => ?_, fun hge => ?_⟩
  · have hlt : j < 14 := by have := of_decide_eq_true hlt; omega
    have hjj : (j : Int).toNat = j := Int.toNat_natCast j
    have hw1 : IntKind.i64.wrap (2 * (j : Int)) = 2 * (j : Int) := wrap_id (by omega) (by omega)
    have hw2 : IntKind.i64.wrap (2 * (j : Int) + 1) = 2 * (j : Int) + 1 := wrap_id (by omega) (by omega)
    have hi1 : (2 * (j : Int)).toNat * 1 = 2 * j := by omega
    have hi2 : (2 * (j : Int) + 1).toNat * 1 = 2 * j + 1 := by omega
    have hi3 : j * 2 = 2 * j := by omega
    rw [hw1, hw2, hi1, hi2, hjj, hi3]
    rw [add_at, add_at, add_at, add_at, Nat.zero_add, Nat.zero_add]
    refine ⟨fun w' => Ch Non w26 w', fun w27 e27 => ⟨Ch.drew e27, _, fun w' hc => (hX26.keepN hc).cell 0 rfl, ⟨by omega, by omega⟩, _, fun w' hc => cT (hU26.keepN hc) _ (by omega), (hX26.drew e27).ok 0 rfl, fun w30 e30 => ?_⟩⟩
    have hX30 := (hX26.drew e27).set e30
    have hc30 : Ch (· = xb) w26 w30 := (Ch.drew (F := (· = xb)) e27).same (Ch.set (p := ⟨xb, 0, none⟩) e30 rfl)
    have hU30 := hU26.keep hc30 (by omega)
    refine ⟨fun w' => Ch Non w30 w', fun w31 e31 => ⟨Ch.drew e31, _, fun w' hc => (hX30.keepN hc).cell 1 rfl, ⟨by omega, by omega⟩, _, fun w' hc => cT (hU30.keepN hc) _ (by omega), (hX30.drew e31).ok 1 rfl, fun w34 e34 => ?_⟩⟩
    have hX34 := (hX30.drew e31).set e34
    have hc34 : Ch (· = xb) w26 w34 := (hc30.andN (Ch.drew e31)).same (Ch.set (p := ⟨xb, 1, none⟩) e34 rfl)
    have hU34 := hU26.keep hc34 (by omega)
    have hT34 := hT26.keep hc34 (by omega)
    have hX34 : Blk w34 xb [.int .i64 (totT t (j + 1)).1, .int .i64 (totT t (j + 1)).2] 55 := by rw [totT_succ]; exact hX34
    have nx : ∀ {w'}, Ch Non w34 w' → ∃ f : Nat, f < 14 - j ∧ ∃ j' : Nat, IntKind.i64.wrap ((j : Int) + 1) = j' ∧ j' ≤ 14 ∧ f = 14 - j' ∧ Blk w' xb [.int .i64 (totT t j').1, .int .i64 (totT t j').2] 55 ∧ Ch (· = xb) w25 w' := fun {w'} hc =>
      ⟨14 - (j + 1), by omega, j + 1, by rw [wrap_id (by omega) (by omega)]; rfl, hlt, rfl, hX34.keepN hc, (hc26.same hc34).andN hc⟩
    have hb := hbnd (2 * j + 1) (by omega)
    refine ⟨⟨by omega, by omega⟩, _, cT hU34 _ (by omega), fun hpos => ?_, fun hz => ?_⟩
    · have hpos : g t (2 * j) > 0 := of_decide_eq_true hpos
      refine ⟨fun w' => Ch Non w34 w', fun w35 e35 => ⟨Ch.drew e35, ⟨by omega, by omega⟩, _, fun w' hc => cT (hU34.keepN hc) _ (by omega), ⟨by omega, by omega⟩, _, fun w' hc => cT (hU34.keepN hc) _ (by omega), by omega, ⟨by omega, by omega⟩, ?_⟩⟩
      refine ⟨_, _, ⟨cT (hT34.drew e35) _ (by omega), cT (hT34.drew e35) _ (by omega)⟩, ?_⟩
      refine step_call (Share_spec w35 _ _) ?_
      rintro v w38 ⟨rfl, hc38⟩
      rw [share_pos hpos hb.1]
      exact ⟨_, rfl, iteF (by simp) (nx ((Ch.drew (F := Non) e35).andN hc38))⟩
    · have hz : ¬ g t (2 * j) > 0 := of_decide_eq_false hz
      refine ⟨⟨by omega, by omega⟩, _, _, ⟨cT hT34 _ (by omega), cT hT34 _ (by omega)⟩, ?_⟩
      refine step_call (Share_spec w34 _ _) ?_
      rintro v w39 ⟨rfl, hc39⟩
      rw [share_zero hz]
      exact ⟨_, rfl, iteF (by simp) (nx hc39)⟩
  have hj14 : j = 14 := by have := of_decide_eq_false hge; omega
  subst hj14
  refine ⟨fun w' => Ch Non w26 w', fun w40 e40 => ⟨Ch.drew e40, _, _, _, _, _, _, _, _, _, _, _, _, _, _, _, _, _, _, _, _, _, _, _, _, _, _, _, _, _, _, _, _, ⟨fun w' hc => cT (hT26.keepN hc) 0 (by rw [hV]; decide), fun w' hc => cT (hT26.keepN hc) 1 (by rw [hV]; decide), fun w' hc => cT (hT26.keepN hc) 2 (by rw [hV]; decide), fun w' hc => cT (hT26.keepN hc) 3 (by rw [hV]; decide), fun w' hc => cT (hT26.keepN hc) 4 (by rw [hV]; decide), fun w' hc => cT (hT26.keepN hc) 5 (by rw [hV]; decide), fun w' hc => cT (hT26.keepN hc) 6 (by rw [hV]; decide), fun w' hc => cT (hT26.keepN hc) 7 (by rw [hV]; decide), fun w' hc => cT (hT26.keepN hc) 8 (by rw [hV]; decide), fun w' hc => cT (hT26.keepN hc) 9 (by rw [hV]; decide), fun w' hc => cT (hT26.keepN hc) 10 (by rw [hV]; decide), fun w' hc => cT (hT26.keepN hc) 11 (by rw [hV]; decide), fun w' hc => cT (hT26.keepN hc) 12 (by rw [hV]; decide), fun w' hc => cT (hT26.keepN hc) 13 (by rw [hV]; decide), fun w' hc => cT (hT26.keepN hc) 14 (by rw [hV]; decide), fun w' hc => cT (hT26.keepN hc) 15 (by rw [hV]; decide), fun w' hc => cT (hT26.keepN hc) 16 (by rw [hV]; decide), fun w' hc => cT (hT26.keepN hc) 17 (by rw [hV]; decide), fun w' hc => cT (hT26.keepN hc) 18 (by rw [hV]; decide), fun w' hc => cT (hT26.keepN hc) 19 (by rw [hV]; decide), fun w' hc => cT (hT26.keepN hc) 20 (by rw [hV]; decide), fun w' hc => cT (hT26.keepN hc) 21 (by rw [hV]; decide), fun w' hc => cT (hT26.keepN hc) 22 (by rw [hV]; decide), fun w' hc => cT (hT26.keepN hc) 23 (by rw [hV]; decide), fun w' hc => cT (hT26.keepN hc) 24 (by rw [hV]; decide), fun w' hc => cT (hT26.keepN hc) 25 (by rw [hV]; decide), fun w' hc => cT (hT26.keepN hc) 26 (by rw [hV]; decide), fun w' hc => cT (hT26.keepN hc) 27 (by rw [hV]; decide), fun w' hc => cT (hT26.keepN hc) 28 (by rw [hV]; decide), fun w' hc => cT (hT26.keepN hc) 29 (by rw [hV]; decide), fun w' hc => cT (hT26.keepN hc) 30 (by rw [hV]; decide), fun w' hc => cT (hT26.keepN hc) 31 (by rw [hV]; decide)⟩, _, _, ⟨fun w' hc => (hX26.keepN hc).cell 0 rfl, fun w' hc => (hX26.keepN hc).cell 1 rfl⟩, ?_⟩⟩
  rw [agg32 hV]
  refine step_call (Total_spec w40 hV) ?_
  rintro v w43 ⟨rfl, hc43⟩
  have hc2643 := (Ch.drew (F := Non) e40).andN hc43
  refine ⟨_, _, rfl, hc2643, iteT (by simp) ⟨_, _, _, _, _, _, _, _, _, _, _, _, _, _, _, _, _, _, _, _, _, _, _, _, _, _, _, _, _, _, _, _, ⟨fun w' hc => cT (hT26.keepN hc) 0 (by rw [hV]; decide), fun w' hc => cT (hT26.keepN hc) 1 (by rw [hV]; decide), fun w' hc => cT (hT26.keepN hc) 2 (by rw [hV]; decide), fun w' hc => cT (hT26.keepN hc) 3 (by rw [hV]; decide), fun w' hc => cT (hT26.keepN hc) 4 (by rw [hV]; decide), fun w' hc => cT (hT26.keepN hc) 5 (by rw [hV]; decide), fun w' hc => cT (hT26.keepN hc) 6 (by rw [hV]; decide), fun w' hc => cT (hT26.keepN hc) 7 (by rw [hV]; decide), fun w' hc => cT (hT26.keepN hc) 8 (by rw [hV]; decide), fun w' hc => cT (hT26.keepN hc) 9 (by rw [hV]; decide), fun w' hc => cT (hT26.keepN hc) 10 (by rw [hV]; decide), fun w' hc => cT (hT26.keepN hc) 11 (by rw [hV]; decide), fun w' hc => cT (hT26.keepN hc) 12 (by rw [hV]; decide), fun w' hc => cT (hT26.keepN hc) 13 (by rw [hV]; decide), fun w' hc => cT (hT26.keepN hc) 14 (by rw [hV]; decide), fun w' hc => cT (hT26.keepN hc) 15 (by rw [hV]; decide), fun w' hc => cT (hT26.keepN hc) 16 (by rw [hV]; decide), fun w' hc => cT (hT26.keepN hc) 17 (by rw [hV]; decide), fun w' hc => cT (hT26.keepN hc) 18 (by rw [hV]; decide), fun w' hc => cT (hT26.keepN hc) 19 (by rw [hV]; decide), fun w' hc => cT (hT26.keepN hc) 20 (by rw [hV]; decide), fun w' hc => cT (hT26.keepN hc) 21 (by rw [hV]; decide), fun w' hc => cT (hT26.keepN hc) 22 (by rw [hV]; decide), fun w' hc => cT (hT26.keepN hc) 23 (by rw [hV]; decide), fun w' hc => cT (hT26.keepN hc) 24 (by rw [hV]; decide), fun w' hc => cT (hT26.keepN hc) 25 (by rw [hV]; decide), fun w' hc => cT (hT26.keepN hc) 26 (by rw [hV]; decide), fun w' hc => cT (hT26.keepN hc) 27 (by rw [hV]; decide), fun w' hc => cT (hT26.keepN hc) 28 (by rw [hV]; decide), fun w' hc => cT (hT26.keepN hc) 29 (by rw [hV]; decide), fun w' hc => cT (hT26.keepN hc) 30 (by rw [hV]; decide), fun w' hc => cT (hT26.keepN hc) 31 (by rw [hV]; decide)⟩, _, _, _, _, _, _, _, _, _, _, _, ⟨fun w' hc => (hC26.keepN hc).cell 0 rfl, fun w' hc => (hC26.keepN hc).cell 1 rfl, fun w' hc => (hC26.keepN hc).cell 2 rfl, fun w' hc => (hC26.keepN hc).cell 3 rfl, fun w' hc => (hC26.keepN hc).cell 4 rfl, fun w' hc => (hC26.keepN hc).cell 5 rfl, fun w' hc => (hC26.keepN hc).cell 6 rfl⟩, _, fun w' hc => (hC26.keepN hc).cell 0 rfl, ?_⟩⟩
  rw [agg32 hV]
  refine step_call (Kind_spec w43 hV _ _ _ _ _ _ _ _ _ _ _) ?_
  rintro v w47 ⟨rfl, hc47⟩
  have hc2647 := hc2643.andN hc47
  refine ⟨_, _, rfl, hc2647, ?_⟩
  refine step_call (RefKind_spec w47 _) ?_
  rintro v w48 ⟨rfl, hc48⟩
  have hc2648 := hc2647.andN hc48
  have hT48 := hT26.keepN hc2648
  obtain ⟨k0, k1⟩ := kindP_at ck
  have hi : (kindP ck).toNat * 2 = 2 * (kindP ck).toNat := by omega
  refine ⟨_, rfl, hc2648, ⟨k0, k1⟩, ?_⟩
  rw [hi, add_at, add_at, Nat.zero_add]
  refine ⟨_, _, ⟨cT hT48 _ (by omega), cT hT48 _ (by omega)⟩, hc2648, iteT (by simp) ?_⟩
  refine step_call (Share_spec w48 _ _) ?_
  rintro v w49 ⟨rfl, hc49⟩
  have hsv : shareV (-1) 4 = 0 := by decide
  rw [hsv]
  exact ⟨_, rfl, hc2648.andN hc49, rfl, hcW26.andN (hc2648.andN hc49)⟩
end Go.Proofs.Ytddgcdlljkooiaa.Tally
