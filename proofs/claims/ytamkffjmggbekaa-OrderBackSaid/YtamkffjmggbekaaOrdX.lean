/- OrderExact's contract: of every command and all bytes the Go function answers true and leaves what was there; the conditions stand in each theorem. -/
import Derived.Test.YtamkffjmggbekaaOrdL
import Derived.Test.YtamkffjmggbekaaVcOrdX
set_option linter.unusedVariables false
set_option linter.unusedSimpArgs false
namespace Go.Proofs.Ytamkffjmggbekaa.Ord
open Go Go.Proofs Go.Proofs.Ytamkffjmggbekaa.V Go.Proofs.Ytamkffjmggbekaa.Vc Go.Proofs.Ytamkffjmggbekaa.Pen Go.RowKit

set_option maxRecDepth 20000 in
theorem cm_dat {w : World} {x : List Value} (hl : x.length = Try.prog.cellsOf t_order_Command) (h : DatC Try.prog w t_order_Command x) : ∃ q : CmD × RwP, x = cmE q ∧ Rd w q.2.po (q.1.prompt.map (.int .i64)) (fun _ => True) ∧ Rd w q.2.qo (q.1.draws.map (.int .i64)) (fun _ => True) := by
  obtain ⟨_, hf⟩ := h.struct Try.underlying72
  have h2 : Try.prog.cellsOf t_order_Command = 7 := by kernel_rfl
  rw [h2] at hl
  match x, hl with
  | [a, b, c, d, e, f, g], _ =>
    have h0 : DatC Try.prog w t_int [a] := hf 0 _ rfl
    have h1 : DatC Try.prog w t_int [b] := hf 1 _ rfl
    have h2 : DatC Try.prog w t_int [c] := hf 2 _ rfl
    have h3 : DatC Try.prog w t_bool [d] := hf 3 _ rfl
    have h4 : DatC Try.prog w t_S_int [e] := hf 4 _ rfl
    have h5 : DatC Try.prog w t_S_int [f] := hf 5 _ rfl
    have h6 : DatC Try.prog w t_string [g] := hf 6 _ rfl
    obtain ⟨n0, e0, _⟩ := h0.int (k := .i64) (by kernel_rfl)
    obtain ⟨n1, e1, _⟩ := h1.int (k := .i64) (by kernel_rfl)
    obtain ⟨n2, e2, _⟩ := h2.int (k := .i64) (by kernel_rfl)
    obtain ⟨b3, e3⟩ := h3.bool (by kernel_rfl)
    obtain ⟨o4, c4, xs4, e4, _, _, _, _, hr4⟩ := h4.ints (k := .i64) (e := t_int) (by kernel_rfl) (by kernel_rfl)
    obtain ⟨o5, c5, xs5, e5, _, _, _, _, hr5⟩ := h5.ints (k := .i64) (e := t_int) (by kernel_rfl) (by kernel_rfl)
    obtain ⟨s6, e6, _⟩ := h6.string (by kernel_rfl)
    injection e0 with e0 _
    injection e1 with e1 _
    injection e2 with e2 _
    injection e3 with e3 _
    injection e4 with e4 _
    injection e5 with e5 _
    injection e6 with e6 _
    subst e0 e1 e2 e3 e4 e5 e6
    refine ⟨(⟨n0, n1, n2, b3, xs4, xs5, s6.data.toList⟩, ⟨o4, c4, o5, c5⟩), ?_, hr4, hr5⟩
    unfold cmE
    rw [str_of]
theorem cm_len {cs : List Value} {w : World} (h : DatC Try.prog w t_order_Command cs) : cs.length = Try.prog.cellsOf t_order_Command := by
  obtain ⟨h1, _⟩ := h.struct Try.underlying72
  exact h1
theorem not_great {w : World} {q : CmD × RwP} (h : greatC q.1 = false) (r1 : Rd w q.2.po (q.1.prompt.map (.int .i64)) (fun _ => True)) (r2 : Rd w q.2.qo (q.1.draws.map (.int .i64)) (fun _ => True)) : CmR w q (fun i => i < w.heap.size) := by
  unfold greatC at h
  rw [Bool.or_eq_false_iff, Bool.or_eq_false_iff] at h
  obtain ⟨h1, h2, h3⟩ := h
  have h1 := of_decide_eq_false h1
  have h2 := of_decide_eq_false h2
  have h3 := of_decide_eq_false h3
  exact ⟨r1.mono (fun i hi _ => hi), r2.mono (fun i hi _ => hi), by omega, by omega, by omega⟩
theorem flds_bad {k : Int} (h : badK k) : fldsK k = [] := by
  unfold badK at h
  unfold fldsK
  rw [if_neg (by omega), if_neg (by omega), if_neg (by omega), if_neg (by omega), if_neg (by omega), if_neg (by omega)]
theorem want_trim (c : CmD) : (fldsK c.kind).foldl (setC c) (cm0 (if badK c.kind then 0 else c.kind)) = trimC c := by
  rw [trimC_H]
  split
  · rename_i h; rw [flds_bad h]; rfl
  · rw [want_trimH]; rfl
theorem goods : goodC ⟨13, 0, 0, false, [], [], []⟩ = true ∧ goodC ⟨5, 0, -1, false, [], [], []⟩ = true ∧ goodC ⟨13, 0, 1, false, [], [], []⟩ = false ∧ goodC ⟨6, 0, 0, true, [], [], []⟩ = true := by decide
theorem parse61 : parseC [6, 1] = some ⟨6, 0, 0, true, [], [], []⟩ := by decide
theorem cmR0 (w : World) (k i n : Int) (g : Bool) (D : Nat → Prop) : CmR w (⟨k, i, n, g, [], [], []⟩, p0) D := ⟨Rd.nil _ _ _, Rd.nil _ _ _, Nat.zero_le _, Nat.zero_le _, Nat.zero_le _⟩
set_option maxHeartbeats 1000000 in
theorem Lawake_spec (w : World) : Calls Try.prog i_coadjutorlaw29_awake #[] w (Ret fun v w' => v = .bool true ∧ Ch Non w w') := by
  refine coadjutorlaw29_awake.calls ?_
  unfold coadjutorlaw29_awake.vc
  obtain ⟨g1, g2, g3, g4⟩ := goods
  have g3' : ¬ goodC ⟨13, 0, 1, false, [], [], []⟩ = true := by rw [g3]; decide
  refine step_call (Bytes_spec (q := (⟨13, 0, 0, false, [], [], []⟩, p0)) (D := Non) (cmR0 _ _ _ _ _ _) (fun i h => h.elim)) ?_
  rintro v w1 ⟨rfl, hc1⟩
  refine ⟨_, _, rfl, ?_⟩
  refine step_call (Bytes_spec (q := (⟨5, 0, -1, false, [], [], []⟩, p0)) (D := Non) (cmR0 _ _ _ _ _ _) (fun i h => h.elim)) ?_
  rintro v w2 ⟨rfl, hc2⟩
  refine ⟨_, _, rfl, ?_⟩
  refine step_call (Parse_spec w2 [6, 1]) ?_
  rintro v w3 ⟨p, rfl, hR3, hc3⟩
  unfold parseV
  rw [parse61] at hR3 ⊢
  refine ⟨_, _, _, _, _, _, _, _, _, _, _, _, rfl, fun w4 e4 => ?_⟩
  have hB4 := Blk.new e4
  refine ⟨⟨hB4.ok 0 rfl, hB4.ok 1 rfl, hB4.ok 2 rfl, hB4.ok 3 rfl, hB4.ok 4 rfl, hB4.ok 5 rfl, hB4.ok 6 rfl⟩, fun w5 e5 => ?_⟩
  obtain ⟨hB5, hc35⟩ := cmNew (⟨6, 0, 0, true, [], [], []⟩, p) e4 e5
  refine step_call (Bytes_spec (q := (⟨13, 0, 1, false, [], [], []⟩, p0)) (D := Non) (cmR0 _ _ _ _ _ _) (fun i h => h.elim)) ?_
  rintro v w6 ⟨rfl, hc6⟩
  refine ⟨_, _, rfl, ?_⟩
  have hB6 := hB5.keepN hc6
  refine ⟨_, _, _, _, _, _, _, _, _, _, _, ⟨hB6.cell 0 rfl, hB6.cell 1 rfl, hB6.cell 2 rfl, hB6.cell 3 rfl, hB6.cell 4 rfl, hB6.cell 5 rfl, hB6.cell 6 rfl⟩, fun w7 e7 => ?_⟩
  have hb7 : Blk w7 w6.heap.size (cmE ((⟨6, 0, 0, true, [], [], []⟩ : CmD), p)) t_order_Command := Blk.new e7
  have hc7 : Ch Non w6 w7 := Ch.alloc e7
  have hrd : Rd w7 (some ⟨w6.heap.size, 0, none⟩) (([((⟨6, 0, 0, true, [], [], []⟩ : CmD), p)] : List (CmD × RwP)).map cmE).flatten (· = w6.heap.size) := by simpa using hb7.rd
  have hc37 := (hc35.andN hc6).andN hc7
  refine step_call (All_spec (qs := [((⟨6, 0, 0, true, [], [], []⟩ : CmD), p)]) hrd (fun q hq => by rw [List.mem_singleton] at hq; subst hq; exact hR3.keepN hc37) (fun i hi => by have := hi.2; have := hc37.size; omega) (by simp) 1) ?_
  rintro v w8 ⟨rfl, hc8⟩
  have ha : allOk (List.map (fun x => x.1) [((⟨6, 0, 0, true, [], [], []⟩ : CmD), p)]) = true := by
    show allOk [(⟨6, 0, 0, true, [], [], []⟩ : CmD)] = true
    decide
  have hB8 := (hB6.keepN hc7).keepN hc8
  have hc08 := ((hc1.andN hc2).andN hc3).andN (hc37.andN hc8)
  refine ⟨_, _, rfl, ?_⟩
  rw [if_pos ha, if_pos ha, if_pos g1, if_pos g1, if_pos g2, if_pos g2, if_neg g3']
  refine iteT ((str_beq _ [13]).trans (decide_eq_true (by decide))) (iteT rfl (iteT ((str_beq _ [5, 255, 255, 255, 127]).trans (decide_eq_true (by decide))) (iteT rfl ⟨_, hB8.cell 3 rfl, iteT rfl (iteT rfl (iteT rfl (iteT ((str_beq _ [1, 0, 0, 0, 2, 0, 0, 0, 6, 1]).trans (decide_eq_true ?_)) (iteT rfl ?_))))⟩)))
  · show allB [(⟨6, 0, 0, true, [], [], []⟩ : CmD)] = [1, 0, 0, 0, 2, 0, 0, 0, 6, 1]
    decide
  · refine step_call (Name_spec w8 8) ?_
    rintro v w9 ⟨rfl, hc9⟩
    exact ⟨_, rfl, congrArg Value.bool ((str_beq _ [99, 104, 117, 110, 107]).trans (decide_eq_true (by decide))), hc08.andN hc9⟩
set_option maxRecDepth 100000 in
set_option maxHeartbeats 4000000 in
theorem OrderExact_true (W : World) (cs : List Value) (h0 : DatC Try.prog W t_order_Command cs) (s : ByteArray) (hs0 : s.size ≤ 140737488351232) :
    Calls Try.prog i_coadjutorlaw29_OrderExact #[.agg cs.toArray, .string s] W (Ret fun v w' => v = .bool true ∧ Ch Non W w') := by
  obtain ⟨q, rfl, hq1, hq2⟩ := cm_dat (cm_len h0) h0
  obtain ⟨l, rfl⟩ : ∃ l, s = str l := ⟨s.data.toList, (str_of s).symm⟩
  refine coadjutorlaw29_OrderExact.calls _ _ _ _ _ _ _ _ _ _ _ _ ?_
  unfold coadjutorlaw29_OrderExact.vc
  intro w1 e1
  have hA1 : Blk w1 W.heap.size (cmE q) t_order_Command := Blk.new e1
  have hc1 : Ch Non W w1 := Ch.alloc e1
  refine step_call (Lawake_spec w1) ?_
  rintro v w2 ⟨rfl, hc2⟩
  have hA2 := hA1.keepN hc2
  refine ⟨_, rfl, iteF rfl ⟨_, _, _, _, _, _, _, _, _, _, _, ⟨hA2.cell 0 rfl, hA2.cell 1 rfl, hA2.cell 2 rfl, hA2.cell 3 rfl, hA2.cell 4 rfl, hA2.cell 5 rfl, hA2.cell 6 rfl⟩, step_call (Lgreat_spec w2 q) ?_⟩⟩
  rintro v w3 ⟨rfl, hc3⟩
  have hA3 := hA2.keepN hc3
  have hc03 := (hc1.andN hc2).andN hc3
  refine ⟨_, rfl, fun _ => ⟨rfl, hc03⟩, fun hg => ⟨fun _ => ⟨rfl, hc03⟩, fun hsl => ?_⟩⟩
  have hQ := not_great hg hq1 hq2
  have hqt : q.1.data.length ≤ 1100 := by
    unfold greatC at hg
    rw [Bool.or_eq_false_iff, Bool.or_eq_false_iff] at hg
    have := of_decide_eq_false hg.2.2; omega
  have hll : l.length ≤ 2048 := by
    have := of_decide_eq_false hsl
    rw [str_size] at this; omega
  have hc0p : (cm0 (if badK q.1.kind then 0 else q.1.kind)).prompt = [] := rfl
  have hc0d : (cm0 (if badK q.1.kind then 0 else q.1.kind)).draws = [] := rfl
  have hc0t : (cm0 (if badK q.1.kind then 0 else q.1.kind)).data.length ≤ 1100 := Nat.zero_le _
  clear hg hsl hs0 h0 hq1 hq2 e1
  refine ⟨_, _, _, _, _, _, _, _, _, _, _, ⟨hA3.cell 0 rfl, hA3.cell 1 rfl, hA3.cell 2 rfl, hA3.cell 3 rfl, hA3.cell 4 rfl, hA3.cell 5 rfl, hA3.cell 6 rfl⟩, step_call (Lform_spec w3 q) ?_⟩
  rintro v w4 ⟨rfl, hc4⟩
  refine ⟨_, _, _, _, _, _, _, _, _, _, _, rfl, fun w5 e5 => ?_⟩
  have hU5 := Blk.new e5
  refine ⟨⟨hU5.ok 0 rfl, hU5.ok 1 rfl, hU5.ok 2 rfl, hU5.ok 3 rfl, hU5.ok 4 rfl, hU5.ok 5 rfl, hU5.ok 6 rfl⟩, fun w6 e6 => ?_⟩
  obtain ⟨hU6, hc46⟩ := cmNew q e5 e6
  have hc36 := hc4.andN hc46
  have hc06 := hc03.andN hc36
  have hA6 := hA3.keepN hc36
  clear hU5 e5 e6
  refine ⟨_, _, _, _, _, _, _, _, _, _, _, ⟨hU6.cell 0 rfl, hU6.cell 1 rfl, hU6.cell 2 rfl, hU6.cell 3 rfl, hU6.cell 4 rfl, hU6.cell 5 rfl, hU6.cell 6 rfl⟩, step_call (RGood_spec (hQ.keepN hc06)) ?_⟩
  rintro v w7 ⟨rfl, hc7⟩
  have hA7 := hA6.keepN hc7
  have hU7 := hU6.keepN hc7
  have hc07 := hc06.andN hc7
  refine ⟨_, rfl, _, _, _, _, _, _, _, _, _, _, _, ⟨hA7.cell 0 rfl, hA7.cell 1 rfl, hA7.cell 2 rfl, hA7.cell 3 rfl, hA7.cell 4 rfl, hA7.cell 5 rfl, hA7.cell 6 rfl⟩, step_call (Bytes_spec (hQ.keepN hc07) (fun i hi => by have := hc07.size; omega)) ?_⟩
  rintro v w8 ⟨rfl, hc8⟩
  have hA8 := hA7.keepN hc8
  have hU8 := hU7.keepN hc8
  have hc08 := hc07.andN hc8
  refine ⟨_, _, rfl, _, _, _, _, _, _, _, _, _, _, _, ⟨hA8.cell 0 rfl, hA8.cell 1 rfl, hA8.cell 2 rfl, hA8.cell 3 rfl, hA8.cell 4 rfl, hA8.cell 5 rfl, hA8.cell 6 rfl⟩, step_call (Copy_spec (hQ.keepN hc08)) ?_⟩
  rintro v w9 ⟨px, rfl, hX9, hc9⟩
  refine ⟨_, _, _, _, _, _, _, _, _, _, _, rfl, fun w10 e10 => ?_⟩
  have hB10 := Blk.new e10
  refine ⟨⟨hB10.ok 0 rfl, hB10.ok 1 rfl, hB10.ok 2 rfl, hB10.ok 3 rfl, hB10.ok 4 rfl, hB10.ok 5 rfl, hB10.ok 6 rfl⟩, fun w11 e11 => ?_⟩
  obtain ⟨hX11, hc911⟩ := cmNew (q.1, px) e10 e11
  have hc811 := hc9.andN hc911
  have hA11 := hA8.keepN hc811
  have hU11 := hU8.keepN hc811
  have hXR := hX9.keepN hc911
  have hc011 := hc08.andN hc811
  clear hB10 e10 e11 hA1 hA2 hA3 hA6 hA7 hA8 hU6 hU7 hU8 hX9 hc1 hc2 hc3 hc4 hc46 hc36 hc7 hc8 hc9 hc911 hc811 hc03 hc06 hc07 hc08
  refine ⟨fun w' => Ch Non w11 w', fun w12 e12 => ⟨Ch.drew e12, ?_⟩⟩
  have hc12 : Ch Non w11 w12 := Ch.drew e12
  refine ⟨_, _, _, _, _, _, _, _, _, _, _, ⟨fun w' hc => (hA11.keepN hc).cell 0 rfl, fun w' hc => (hA11.keepN hc).cell 1 rfl, fun w' hc => (hA11.keepN hc).cell 2 rfl, fun w' hc => (hA11.keepN hc).cell 3 rfl, fun w' hc => (hA11.keepN hc).cell 4 rfl, fun w' hc => (hA11.keepN hc).cell 5 rfl, fun w' hc => (hA11.keepN hc).cell 6 rfl⟩, step_call (Good_spec ((hQ.keepN hc011).keepN hc12)) ?_⟩
  rintro v w14 ⟨rfl, hc14⟩
  have hc1114 := hc12.andN hc14
  refine ⟨_, rfl, hc1114, iteF (by simp) ⟨_, fun w' hc => (hA11.keepN hc).cell 0 rfl, _, fun w' hc => (hA11.keepN hc).cell 0 rfl, step_call (Name_spec w14 _) ?_⟩⟩
  rintro v w17 ⟨rfl, hc17⟩
  have hc1117 := hc1114.andN hc17
  refine ⟨_, rfl, hc1117, step_call (RName_spec w17 _) ?_⟩
  rintro v w18 ⟨rfl, hc18⟩
  have hc1118 := hc1117.andN hc18
  have hU18 := hU11.keepN hc1118
  have hXR18 := hXR.keepN hc1118
  have hQ18 := (hQ.keepN hc011).keepN hc1118
  refine ⟨_, rfl, hc1118, iteF (by simp) ⟨_, _, _, _, _, _, _, _, _, _, _, ⟨fun w' hc => (hX11.keepN hc).cell 0 rfl, fun w' hc => (hX11.keepN hc).cell 1 rfl, fun w' hc => (hX11.keepN hc).cell 2 rfl, fun w' hc => (hX11.keepN hc).cell 3 rfl, fun w' hc => (hX11.keepN hc).cell 4 rfl, fun w' hc => (hX11.keepN hc).cell 5 rfl, fun w' hc => (hX11.keepN hc).cell 6 rfl⟩, _, _, _, _, _, _, _, _, _, _, _, ⟨hU18.cell 0 rfl, hU18.cell 1 rfl, hU18.cell 2 rfl, hU18.cell 3 rfl, hU18.cell 4 rfl, hU18.cell 5 rfl, hU18.cell 6 rfl⟩, hc1118, step_call (Lalike_spec hXR18 hQ18) ?_⟩⟩
  rintro v w20 ⟨rfl, hc20⟩
  have hc1120 := hc1118.andN hc20
  have hA20 := hA11.keepN hc1120
  refine ⟨_, rfl, hc1120, iteF (by simp) ⟨_, _, _, _, _, _, _, _, _, _, _, ⟨fun w' hc => (hX11.keepN hc).cell 0 rfl, fun w' hc => (hX11.keepN hc).cell 1 rfl, fun w' hc => (hX11.keepN hc).cell 2 rfl, fun w' hc => (hX11.keepN hc).cell 3 rfl, fun w' hc => (hX11.keepN hc).cell 4 rfl, fun w' hc => (hX11.keepN hc).cell 5 rfl, fun w' hc => (hX11.keepN hc).cell 6 rfl⟩, _, _, _, _, _, _, _, _, _, _, _, ⟨hA20.cell 0 rfl, hA20.cell 1 rfl, hA20.cell 2 rfl, hA20.cell 3 rfl, hA20.cell 4 rfl, hA20.cell 5 rfl, hA20.cell 6 rfl⟩, hc1120, step_call (Same_spec (hXR18.keepN hc20) (hQ18.keepN hc20)) ?_⟩⟩
  rintro v w22 ⟨rfl, hc22⟩
  have hc1122 := hc1120.andN hc22
  have hct0 := hc011.andN hc1122
  have hAx := hA11.keepN hc1122
  have hU22 := hU11.keepN hc1122
  refine ⟨_, rfl, hc1122, iteF (by simp) ⟨fun hg => ?_, fun hg => ?_⟩⟩
  · rw [if_pos hg, if_pos hg, hg]
    refine iteF rfl ⟨_, _, _, _, _, _, _, _, _, _, _, ⟨hU22.cell 0 rfl, hU22.cell 1 rfl, hU22.cell 2 rfl, hU22.cell 3 rfl, hU22.cell 4 rfl, hU22.cell 5 rfl, hU22.cell 6 rfl⟩, hc1122, step_call (RBytes_spec (hQ.keepN hct0) (goodC_iff.1 hg)) ?_⟩
    rintro v wt ⟨rfl, hc23⟩
    have hct := hct0.andN hc23
    have hAt := hAx.keepN hc23
    refine ⟨_, rfl, hc1122.andN hc23, iteF (by simp) (iteF rfl ?_)⟩
    clear hc23 hU22 hc1122 hc22 hc1120 hc20 hQ18 hXR18 hU18 hc1118 hc18 hc1117 hc17 hc1114 hc14 hc12 hXR hX11 hc011 hU11 hA11 hA20 e12
    clear hAx hct0
    refine ⟨_, _, _, _, _, _, _, _, _, _, _, ⟨hAt.cell 0 rfl, hAt.cell 1 rfl, hAt.cell 2 rfl, hAt.cell 3 rfl, hAt.cell 4 rfl, hAt.cell 5 rfl, hAt.cell 6 rfl⟩, step_call (Trim_spec (hQ.keepN hct)) ?_⟩
    rintro v wa ⟨pt, rfl, hTa, hca⟩
    have hAa := hAt.keepN hca
    refine ⟨_, _, _, _, _, _, _, _, _, _, _, rfl, fun wb eb => ?_⟩
    have hYb := Blk.new eb
    refine ⟨⟨hYb.ok 0 rfl, hYb.ok 1 rfl, hYb.ok 2 rfl, hYb.ok 3 rfl, hYb.ok 4 rfl, hYb.ok 5 rfl, hYb.ok 6 rfl⟩, fun wc ec => ?_⟩
    obtain ⟨hYc, hcac⟩ := cmNew (trimC q.1, pt) eb ec
    have hAc := hAa.keepN hcac
    refine ⟨_, hAc.cell 0 rfl, step_call (RHas_spec wc _) ?_⟩
    rintro v wd ⟨rfl, rfl⟩
    refine ⟨_, rfl, fun we ee => ?_⟩
    have hVe := Blk.new ee
    refine ⟨⟨hVe.ok 0 rfl, hVe.ok 1 rfl, hVe.ok 2 rfl, hVe.ok 3 rfl, hVe.ok 4 rfl, hVe.ok 5 rfl, hVe.ok 6 rfl⟩, fun wf ef => ?_⟩
    obtain ⟨hVf, hcdf⟩ := cmNew (cm0 0, p0) ee ef
    have hAf := hAc.keepN hcdf
    have hYf := hYc.keepN hcdf
    have hcf := ((hct.andN hca).andN hcac).andN hcdf
    have hTf := ((hTa.keepN hcac).keepN hcdf)
    have hYl := hYc.lt
    have hAl := hAt.lt
    have hsa := hca.size
    have hsac := hcac.size
    have hsd := hcdf.size
    have hyx : ∀ i, New wt wa i → i < wd.heap.size := fun i hi => by have := hi.2; omega
    generalize hvb : wd.heap.size = vb at hVf hYl hyx ⊢
    generalize hyb : wa.heap.size = yb at hYf hYl ⊢
    have hWv : W.heap.size ≤ vb := by have := hct.size; omega
    have hWA : W.heap.size < vb := by omega
    refine ⟨fun w' => Blk w' vb (cmE (cm0 (if badK q.1.kind then 0 else q.1.kind), p0)) t_coadjutorref29_Command ∧ Ch (· = vb) wf w', ⟨_, hAf.cell 0 rfl, step_call (RName_spec wf _) ?_⟩, ?_⟩
    · rintro v wg ⟨rfl, hcg⟩
      refine ⟨_, rfl, ?_⟩
      rw [emp_beq, nameL_emp]
      refine ⟨fun hb => ?_, fun hb => ?_⟩
      · have hb : ¬ badK q.1.kind := by simpa using hb
        have hVg := hVf.keepN hcg
        refine ⟨_, (hAf.keepN hcg).cell 0 rfl, hVg.ok 0 rfl, fun wh eh => ?_⟩
        rw [if_neg hb]
        exact ⟨hVg.set eh, hcg.any.same (Ch.set eh rfl)⟩
      · have hb : badK q.1.kind := by simpa using hb
        rw [if_pos hb]
        exact ⟨hVf.keepN hcg, hcg.any⟩
    rintro jk wi ⟨hVi, hcfi⟩
    have hs0 : (hasL q.1.kind).length = (fldsK q.1.kind).length := by unfold hasL; rw [List.length_map]
    have hl4 := fldsK_len q.1.kind
    have hwt := want_trim q.1
    generalize cm0 (if badK q.1.kind then 0 else q.1.kind) = c0 at hVi hwt hc0p hc0d hc0t
    have hvl := hVf.lt
    refine ⟨fun i f w' => ∃ j : Nat, i = j ∧ j ≤ (fldsK q.1.kind).length ∧ f = (fldsK q.1.kind).length - j ∧ Ch (· = vb) wf w' ∧ ∃ p, Blk w' vb (cmE (((fldsK q.1.kind).take j).foldl (setC q.1) c0, p)) t_coadjutorref29_Command ∧ (p.po = none ∧ (((fldsK q.1.kind).take j).foldl (setC q.1) c0).prompt = [] ∨ p.po = q.2.po ∧ (((fldsK q.1.kind).take j).foldl (setC q.1) c0).prompt = q.1.prompt) ∧ (p.qo = none ∧ (((fldsK q.1.kind).take j).foldl (setC q.1) c0).draws = [] ∨ p.qo = q.2.qo ∧ (((fldsK q.1.kind).take j).foldl (setC q.1) c0).draws = q.1.draws) ∧ (((fldsK q.1.kind).take j).foldl (setC q.1) c0).data.length ≤ 1100, ⟨_, 0, rfl, Nat.zero_le _, rfl, hcfi, p0, hVi, .inl ⟨rfl, hc0p⟩, .inl ⟨rfl, hc0d⟩, hc0t⟩, ?_⟩
    clear hVi hcfi
    rintro jk i f wj ⟨j, rfl, hj, rfl, hcj, p, hVj, hpp, hpq, hpt⟩
    have hAj := hAf.keep hcj (by omega)
    rw [str_size, hs0]
    refine ⟨fun hlt => ?_, fun hge => ?_⟩
    · have hlt : j < (fldsK q.1.kind).length := by have := of_decide_eq_true hlt; omega
      rw [flds_at hlt]
      have hsn : ((fldsK q.1.kind).take (j + 1)).foldl (setC q.1) c0 = setC q.1 (((fldsK q.1.kind).take j).foldl (setC q.1) c0) (fldsK q.1.kind)[j] := by
        rw [Pen.take_snoc _ j hlt, List.foldl_append]; rfl
      generalize (fldsK q.1.kind)[j] = fl at hsn ⊢
      generalize ((fldsK q.1.kind).take j).foldl (setC q.1) c0 = x at hVj hpp hpq hpt hsn
      refine ⟨fun w' => Ch (· = vb) wf w' ∧ ∃ p, Blk w' vb (cmE (setC q.1 x fl, p)) t_coadjutorref29_Command ∧ (p.po = none ∧ (setC q.1 x fl).prompt = [] ∨ p.po = q.2.po ∧ (setC q.1 x fl).prompt = q.1.prompt) ∧ (p.qo = none ∧ (setC q.1 x fl).draws = [] ∨ p.qo = q.2.qo ∧ (setC q.1 x fl).draws = q.1.draws) ∧ (setC q.1 x fl).data.length ≤ 1100, ⟨⟨by omega, by omega⟩, ?_⟩, fun jk w' hx => ⟨(fldsK q.1.kind).length - (j + 1), by omega, j + 1, by rw [wrap_id (by omega) (by omega)]; rfl, hlt, rfl, by rw [hsn]; exact hx⟩⟩
      cases fl
      · exact iteT rfl ⟨_, hAj.cell 1 rfl, hVj.ok 1 rfl, fun wk ek => ⟨hcj.same (Ch.set ek rfl), p, hVj.set ek, hpp, hpq, hpt⟩⟩
      · exact iteF rfl (iteT rfl ⟨_, hAj.cell 2 rfl, hVj.ok 2 rfl, fun wk ek => ⟨hcj.same (Ch.set ek rfl), p, hVj.set ek, hpp, hpq, hpt⟩⟩)
      · exact iteF rfl (iteF rfl (iteT rfl ⟨_, hAj.cell 3 rfl, hVj.ok 3 rfl, fun wk ek => ⟨hcj.same (Ch.set ek rfl), p, hVj.set ek, hpp, hpq, hpt⟩⟩))
      · exact iteF rfl (iteF rfl (iteF rfl (iteT rfl ⟨_, _, _, hAj.cell 4 rfl, hVj.ok 4 rfl, fun wk ek => ⟨hcj.same (Ch.set ek rfl), ⟨q.2.po, q.2.pc, p.qo, p.qc⟩, hVj.set ek, .inr ⟨rfl, rfl⟩, hpq, hpt⟩⟩)))
      · exact iteF rfl (iteF rfl (iteF rfl (iteF rfl (iteT rfl ⟨_, _, _, hAj.cell 5 rfl, hVj.ok 5 rfl, fun wk ek => ⟨hcj.same (Ch.set ek rfl), ⟨p.po, p.pc, q.2.qo, q.2.qc⟩, hVj.set ek, hpp, .inr ⟨rfl, rfl⟩, hpt⟩⟩))))
      · exact iteF rfl (iteF rfl (iteF rfl (iteF rfl (iteF rfl ⟨_, hAj.cell 6 rfl, hVj.ok 6 rfl, fun wk ek => ⟨hcj.same (Ch.set ek rfl), p, hVj.set ek, hpp, hpq, hqt⟩⟩))))
    have hjn : j = (fldsK q.1.kind).length := by have := of_decide_eq_false hge; omega
    subst hjn
    rw [List.take_length, hwt] at hVj hpp hpq hpt
    have hcWj : Ch Non W wj := hcf.trans hcj (fun i hi he => by omega)
    have hYj := hYf.keep hcj (by omega)
    have hQj := hQ.keepN hcWj
    have hTj := hTf.keep hcj (fun i _ hi he => by have := hyx i hi; omega)
    have hWantj : CmR wj (trimC q.1, p) (fun i => i < W.heap.size) := by
      obtain ⟨r1, r2, l1, l2, l3⟩ := hQj
      refine ⟨?_, ?_, ?_, ?_, by show (trimC q.1).data.length ≤ 100000; omega⟩
      · rcases hpp with ⟨h1, h2⟩ | ⟨h1, h2⟩
        · show Rd wj p.po ((trimC q.1).prompt.map (.int .i64)) _
          rw [h1, h2]; exact Rd.nil _ _ _
        · show Rd wj p.po ((trimC q.1).prompt.map (.int .i64)) _
          rw [h1, h2]; exact r1
      · rcases hpq with ⟨h1, h2⟩ | ⟨h1, h2⟩
        · show Rd wj p.qo ((trimC q.1).draws.map (.int .i64)) _
          rw [h1, h2]; exact Rd.nil _ _ _
        · show Rd wj p.qo ((trimC q.1).draws.map (.int .i64)) _
          rw [h1, h2]; exact r2
      · show (trimC q.1).prompt.length ≤ 1000
        rcases hpp with ⟨h1, h2⟩ | ⟨h1, h2⟩ <;> rw [h2]
        · exact Nat.zero_le _
        · exact l1
      · show (trimC q.1).draws.length ≤ 1000
        rcases hpq with ⟨h1, h2⟩ | ⟨h1, h2⟩ <;> rw [h2]
        · exact Nat.zero_le _
        · exact l2
    refine ⟨_, _, _, _, _, _, _, _, _, _, _, ⟨hYj.cell 0 rfl, hYj.cell 1 rfl, hYj.cell 2 rfl, hYj.cell 3 rfl, hYj.cell 4 rfl, hYj.cell 5 rfl, hYj.cell 6 rfl⟩, _, _, _, _, _, _, _, _, _, _, _, ⟨hVj.cell 0 rfl, hVj.cell 1 rfl, hVj.cell 2 rfl, hVj.cell 3 rfl, hVj.cell 4 rfl, hVj.cell 5 rfl, hVj.cell 6 rfl⟩, step_call (Lalike_spec hTj hWantj) ?_⟩
    rintro v wk ⟨rfl, hck⟩
    refine ⟨_, rfl, iteF (by simp) (step_call (Parse_spec wk l) ?_)⟩
    rintro v wl ⟨pz, rfl, hRl, hcl⟩
    unfold parseV
    refine ⟨_, _, _, _, _, _, _, _, _, _, _, _, rfl, fun wm em => ?_⟩
    have hBm := Blk.new em
    refine ⟨⟨hBm.ok 0 rfl, hBm.ok 1 rfl, hBm.ok 2 rfl, hBm.ok 3 rfl, hBm.ok 4 rfl, hBm.ok 5 rfl, hBm.ok 6 rfl⟩, fun wn en => ?_⟩
    obtain ⟨hZn, hcln⟩ := cmNew ((parseC l).getD (cm0 0), pz) em en
    refine step_call (RParse_spec wn l) ?_
    rintro v wo ⟨pw, rfl, hRo, hco⟩
    unfold parseRV
    refine ⟨_, _, _, _, _, _, _, _, _, _, _, _, rfl, fun wp ep => ?_⟩
    have hBp := Blk.new ep
    refine ⟨⟨hBp.ok 0 rfl, hBp.ok 1 rfl, hBp.ok 2 rfl, hBp.ok 3 rfl, hBp.ok 4 rfl, hBp.ok 5 rfl, hBp.ok 6 rfl⟩, fun wq eq => ?_⟩
    obtain ⟨hWq, hcoq⟩ := cmNew ((parseC l).getD (cm0 0), pw) ep eq
    have hcnq := hco.andN hcoq
    have hZq := hZn.keepN hcnq
    have hR1 := (hRl.keepN hcln).keepN hcnq
    have hR2 := hRo.keepN hcoq
    have hcq := (((hcWj.andN hck).andN hcl).andN hcln).andN hcnq
    have hal := Lalike_spec hR1 hR2
    generalize (parseC l).getD (cm0 0) = zz at hZq hWq hal
    rw [decide_eq_true rfl] at hal
    cases parseC l with
    | none =>
      refine iteT rfl (iteF rfl (iteT rfl ⟨_, _, _, _, _, _, _, _, _, _, _, ⟨hZq.cell 0 rfl, hZq.cell 1 rfl, hZq.cell 2 rfl, hZq.cell 3 rfl, hZq.cell 4 rfl, hZq.cell 5 rfl, hZq.cell 6 rfl⟩, _, _, _, _, _, _, _, _, _, _, _, ⟨hWq.cell 0 rfl, hWq.cell 1 rfl, hWq.cell 2 rfl, hWq.cell 3 rfl, hWq.cell 4 rfl, hWq.cell 5 rfl, hWq.cell 6 rfl⟩, step_call hal ?_⟩))
      rintro v wr ⟨rfl, hcr⟩
      exact ⟨_, rfl, rfl, hcq.andN hcr⟩
    | some c =>
      refine iteT rfl (iteT rfl ⟨_, _, _, _, _, _, _, _, _, _, _, ⟨hZq.cell 0 rfl, hZq.cell 1 rfl, hZq.cell 2 rfl, hZq.cell 3 rfl, hZq.cell 4 rfl, hZq.cell 5 rfl, hZq.cell 6 rfl⟩, _, _, _, _, _, _, _, _, _, _, _, ⟨hWq.cell 0 rfl, hWq.cell 1 rfl, hWq.cell 2 rfl, hWq.cell 3 rfl, hWq.cell 4 rfl, hWq.cell 5 rfl, hWq.cell 6 rfl⟩, step_call hal ?_⟩)
      rintro v wr ⟨rfl, hcr⟩
      exact ⟨_, rfl, rfl, hcq.andN hcr⟩
  · have hg' : ¬ goodC q.1 = true := by rw [hg]; decide
    rw [if_neg hg', if_neg hg', hg]
    refine iteT rfl (iteF rfl (iteF (by rw [emp_beq]; rfl) ?_))
    have hct := hct0
    have hAt := hAx
    generalize hwt0 : w22 = wt at hct hAt ⊢
    clear hwt0 hU22 hc1122 hc22 hc1120 hc20 hQ18 hXR18 hU18 hc1118 hc18 hc1117 hc17 hc1114 hc14 hc12 hXR hX11 hc011 hU11 hA11 hA20 e12
    clear hAx hct0
    refine ⟨_, _, _, _, _, _, _, _, _, _, _, ⟨hAt.cell 0 rfl, hAt.cell 1 rfl, hAt.cell 2 rfl, hAt.cell 3 rfl, hAt.cell 4 rfl, hAt.cell 5 rfl, hAt.cell 6 rfl⟩, step_call (Trim_spec (hQ.keepN hct)) ?_⟩
    rintro v wa ⟨pt, rfl, hTa, hca⟩
    have hAa := hAt.keepN hca
    refine ⟨_, _, _, _, _, _, _, _, _, _, _, rfl, fun wb eb => ?_⟩
    have hYb := Blk.new eb
    refine ⟨⟨hYb.ok 0 rfl, hYb.ok 1 rfl, hYb.ok 2 rfl, hYb.ok 3 rfl, hYb.ok 4 rfl, hYb.ok 5 rfl, hYb.ok 6 rfl⟩, fun wc ec => ?_⟩
    obtain ⟨hYc, hcac⟩ := cmNew (trimC q.1, pt) eb ec
    have hAc := hAa.keepN hcac
    refine ⟨_, hAc.cell 0 rfl, step_call (RHas_spec wc _) ?_⟩
    rintro v wd ⟨rfl, rfl⟩
    refine ⟨_, rfl, fun we ee => ?_⟩
    have hVe := Blk.new ee
    refine ⟨⟨hVe.ok 0 rfl, hVe.ok 1 rfl, hVe.ok 2 rfl, hVe.ok 3 rfl, hVe.ok 4 rfl, hVe.ok 5 rfl, hVe.ok 6 rfl⟩, fun wf ef => ?_⟩
    obtain ⟨hVf, hcdf⟩ := cmNew (cm0 0, p0) ee ef
    have hAf := hAc.keepN hcdf
    have hYf := hYc.keepN hcdf
    have hcf := ((hct.andN hca).andN hcac).andN hcdf
    have hTf := ((hTa.keepN hcac).keepN hcdf)
    have hYl := hYc.lt
    have hAl := hAt.lt
    have hsa := hca.size
    have hsac := hcac.size
    have hsd := hcdf.size
    have hyx : ∀ i, New wt wa i → i < wd.heap.size := fun i hi => by have := hi.2; omega
    generalize hvb : wd.heap.size = vb at hVf hYl hyx ⊢
    generalize hyb : wa.heap.size = yb at hYf hYl ⊢
    have hWv : W.heap.size ≤ vb := by have := hct.size; omega
    have hWA : W.heap.size < vb := by omega
    refine ⟨fun w' => Blk w' vb (cmE (cm0 (if badK q.1.kind then 0 else q.1.kind), p0)) t_coadjutorref29_Command ∧ Ch (· = vb) wf w', ⟨_, hAf.cell 0 rfl, step_call (RName_spec wf _) ?_⟩, ?_⟩
    · rintro v wg ⟨rfl, hcg⟩
      refine ⟨_, rfl, ?_⟩
      rw [emp_beq, nameL_emp]
      refine ⟨fun hb => ?_, fun hb => ?_⟩
      · have hb : ¬ badK q.1.kind := by simpa using hb
        have hVg := hVf.keepN hcg
        refine ⟨_, (hAf.keepN hcg).cell 0 rfl, hVg.ok 0 rfl, fun wh eh => ?_⟩
        rw [if_neg hb]
        exact ⟨hVg.set eh, hcg.any.same (Ch.set eh rfl)⟩
      · have hb : badK q.1.kind := by simpa using hb
        rw [if_pos hb]
        exact ⟨hVf.keepN hcg, hcg.any⟩
    rintro jk wi ⟨hVi, hcfi⟩
    have hs0 : (hasL q.1.kind).length = (fldsK q.1.kind).length := by unfold hasL; rw [List.length_map]
    have hl4 := fldsK_len q.1.kind
    have hwt := want_trim q.1
    generalize cm0 (if badK q.1.kind then 0 else q.1.kind) = c0 at hVi hwt hc0p hc0d hc0t
    have hvl := hVf.lt
    refine ⟨fun i f w' => ∃ j : Nat, i = j ∧ j ≤ (fldsK q.1.kind).length ∧ f = (fldsK q.1.kind).length - j ∧ Ch (· = vb) wf w' ∧ ∃ p, Blk w' vb (cmE (((fldsK q.1.kind).take j).foldl (setC q.1) c0, p)) t_coadjutorref29_Command ∧ (p.po = none ∧ (((fldsK q.1.kind).take j).foldl (setC q.1) c0).prompt = [] ∨ p.po = q.2.po ∧ (((fldsK q.1.kind).take j).foldl (setC q.1) c0).prompt = q.1.prompt) ∧ (p.qo = none ∧ (((fldsK q.1.kind).take j).foldl (setC q.1) c0).draws = [] ∨ p.qo = q.2.qo ∧ (((fldsK q.1.kind).take j).foldl (setC q.1) c0).draws = q.1.draws) ∧ (((fldsK q.1.kind).take j).foldl (setC q.1) c0).data.length ≤ 1100, ⟨_, 0, rfl, Nat.zero_le _, rfl, hcfi, p0, hVi, .inl ⟨rfl, hc0p⟩, .inl ⟨rfl, hc0d⟩, hc0t⟩, ?_⟩
    clear hVi hcfi
    rintro jk i f wj ⟨j, rfl, hj, rfl, hcj, p, hVj, hpp, hpq, hpt⟩
    have hAj := hAf.keep hcj (by omega)
    rw [str_size, hs0]
    refine ⟨fun hlt => ?_, fun hge => ?_⟩
    · have hlt : j < (fldsK q.1.kind).length := by have := of_decide_eq_true hlt; omega
      rw [flds_at hlt]
      have hsn : ((fldsK q.1.kind).take (j + 1)).foldl (setC q.1) c0 = setC q.1 (((fldsK q.1.kind).take j).foldl (setC q.1) c0) (fldsK q.1.kind)[j] := by
        rw [Pen.take_snoc _ j hlt, List.foldl_append]; rfl
      generalize (fldsK q.1.kind)[j] = fl at hsn ⊢
      generalize ((fldsK q.1.kind).take j).foldl (setC q.1) c0 = x at hVj hpp hpq hpt hsn
      refine ⟨fun w' => Ch (· = vb) wf w' ∧ ∃ p, Blk w' vb (cmE (setC q.1 x fl, p)) t_coadjutorref29_Command ∧ (p.po = none ∧ (setC q.1 x fl).prompt = [] ∨ p.po = q.2.po ∧ (setC q.1 x fl).prompt = q.1.prompt) ∧ (p.qo = none ∧ (setC q.1 x fl).draws = [] ∨ p.qo = q.2.qo ∧ (setC q.1 x fl).draws = q.1.draws) ∧ (setC q.1 x fl).data.length ≤ 1100, ⟨⟨by omega, by omega⟩, ?_⟩, fun jk w' hx => ⟨(fldsK q.1.kind).length - (j + 1), by omega, j + 1, by rw [wrap_id (by omega) (by omega)]; rfl, hlt, rfl, by rw [hsn]; exact hx⟩⟩
      cases fl
      · exact iteT rfl ⟨_, hAj.cell 1 rfl, hVj.ok 1 rfl, fun wk ek => ⟨hcj.same (Ch.set ek rfl), p, hVj.set ek, hpp, hpq, hpt⟩⟩
      · exact iteF rfl (iteT rfl ⟨_, hAj.cell 2 rfl, hVj.ok 2 rfl, fun wk ek => ⟨hcj.same (Ch.set ek rfl), p, hVj.set ek, hpp, hpq, hpt⟩⟩)
      · exact iteF rfl (iteF rfl (iteT rfl ⟨_, hAj.cell 3 rfl, hVj.ok 3 rfl, fun wk ek => ⟨hcj.same (Ch.set ek rfl), p, hVj.set ek, hpp, hpq, hpt⟩⟩))
      · exact iteF rfl (iteF rfl (iteF rfl (iteT rfl ⟨_, _, _, hAj.cell 4 rfl, hVj.ok 4 rfl, fun wk ek => ⟨hcj.same (Ch.set ek rfl), ⟨q.2.po, q.2.pc, p.qo, p.qc⟩, hVj.set ek, .inr ⟨rfl, rfl⟩, hpq, hpt⟩⟩)))
      · exact iteF rfl (iteF rfl (iteF rfl (iteF rfl (iteT rfl ⟨_, _, _, hAj.cell 5 rfl, hVj.ok 5 rfl, fun wk ek => ⟨hcj.same (Ch.set ek rfl), ⟨p.po, p.pc, q.2.qo, q.2.qc⟩, hVj.set ek, hpp, .inr ⟨rfl, rfl⟩, hpt⟩⟩))))
      · exact iteF rfl (iteF rfl (iteF rfl (iteF rfl (iteF rfl ⟨_, hAj.cell 6 rfl, hVj.ok 6 rfl, fun wk ek => ⟨hcj.same (Ch.set ek rfl), p, hVj.set ek, hpp, hpq, hqt⟩⟩))))
    have hjn : j = (fldsK q.1.kind).length := by have := of_decide_eq_false hge; omega
    subst hjn
    rw [List.take_length, hwt] at hVj hpp hpq hpt
    have hcWj : Ch Non W wj := hcf.trans hcj (fun i hi he => by omega)
    have hYj := hYf.keep hcj (by omega)
    have hQj := hQ.keepN hcWj
    have hTj := hTf.keep hcj (fun i _ hi he => by have := hyx i hi; omega)
    have hWantj : CmR wj (trimC q.1, p) (fun i => i < W.heap.size) := by
      obtain ⟨r1, r2, l1, l2, l3⟩ := hQj
      refine ⟨?_, ?_, ?_, ?_, by show (trimC q.1).data.length ≤ 100000; omega⟩
      · rcases hpp with ⟨h1, h2⟩ | ⟨h1, h2⟩
        · show Rd wj p.po ((trimC q.1).prompt.map (.int .i64)) _
          rw [h1, h2]; exact Rd.nil _ _ _
        · show Rd wj p.po ((trimC q.1).prompt.map (.int .i64)) _
          rw [h1, h2]; exact r1
      · rcases hpq with ⟨h1, h2⟩ | ⟨h1, h2⟩
        · show Rd wj p.qo ((trimC q.1).draws.map (.int .i64)) _
          rw [h1, h2]; exact Rd.nil _ _ _
        · show Rd wj p.qo ((trimC q.1).draws.map (.int .i64)) _
          rw [h1, h2]; exact r2
      · show (trimC q.1).prompt.length ≤ 1000
        rcases hpp with ⟨h1, h2⟩ | ⟨h1, h2⟩ <;> rw [h2]
        · exact Nat.zero_le _
        · exact l1
      · show (trimC q.1).draws.length ≤ 1000
        rcases hpq with ⟨h1, h2⟩ | ⟨h1, h2⟩ <;> rw [h2]
        · exact Nat.zero_le _
        · exact l2
    refine ⟨_, _, _, _, _, _, _, _, _, _, _, ⟨hYj.cell 0 rfl, hYj.cell 1 rfl, hYj.cell 2 rfl, hYj.cell 3 rfl, hYj.cell 4 rfl, hYj.cell 5 rfl, hYj.cell 6 rfl⟩, _, _, _, _, _, _, _, _, _, _, _, ⟨hVj.cell 0 rfl, hVj.cell 1 rfl, hVj.cell 2 rfl, hVj.cell 3 rfl, hVj.cell 4 rfl, hVj.cell 5 rfl, hVj.cell 6 rfl⟩, step_call (Lalike_spec hTj hWantj) ?_⟩
    rintro v wk ⟨rfl, hck⟩
    refine ⟨_, rfl, iteF (by simp) (step_call (Parse_spec wk l) ?_)⟩
    rintro v wl ⟨pz, rfl, hRl, hcl⟩
    unfold parseV
    refine ⟨_, _, _, _, _, _, _, _, _, _, _, _, rfl, fun wm em => ?_⟩
    have hBm := Blk.new em
    refine ⟨⟨hBm.ok 0 rfl, hBm.ok 1 rfl, hBm.ok 2 rfl, hBm.ok 3 rfl, hBm.ok 4 rfl, hBm.ok 5 rfl, hBm.ok 6 rfl⟩, fun wn en => ?_⟩
    obtain ⟨hZn, hcln⟩ := cmNew ((parseC l).getD (cm0 0), pz) em en
    refine step_call (RParse_spec wn l) ?_
    rintro v wo ⟨pw, rfl, hRo, hco⟩
    unfold parseRV
    refine ⟨_, _, _, _, _, _, _, _, _, _, _, _, rfl, fun wp ep => ?_⟩
    have hBp := Blk.new ep
    refine ⟨⟨hBp.ok 0 rfl, hBp.ok 1 rfl, hBp.ok 2 rfl, hBp.ok 3 rfl, hBp.ok 4 rfl, hBp.ok 5 rfl, hBp.ok 6 rfl⟩, fun wq eq => ?_⟩
    obtain ⟨hWq, hcoq⟩ := cmNew ((parseC l).getD (cm0 0), pw) ep eq
    have hcnq := hco.andN hcoq
    have hZq := hZn.keepN hcnq
    have hR1 := (hRl.keepN hcln).keepN hcnq
    have hR2 := hRo.keepN hcoq
    have hcq := (((hcWj.andN hck).andN hcl).andN hcln).andN hcnq
    have hal := Lalike_spec hR1 hR2
    generalize (parseC l).getD (cm0 0) = zz at hZq hWq hal
    rw [decide_eq_true rfl] at hal
    cases parseC l with
    | none =>
      refine iteT rfl (iteF rfl (iteT rfl ⟨_, _, _, _, _, _, _, _, _, _, _, ⟨hZq.cell 0 rfl, hZq.cell 1 rfl, hZq.cell 2 rfl, hZq.cell 3 rfl, hZq.cell 4 rfl, hZq.cell 5 rfl, hZq.cell 6 rfl⟩, _, _, _, _, _, _, _, _, _, _, _, ⟨hWq.cell 0 rfl, hWq.cell 1 rfl, hWq.cell 2 rfl, hWq.cell 3 rfl, hWq.cell 4 rfl, hWq.cell 5 rfl, hWq.cell 6 rfl⟩, step_call hal ?_⟩))
      rintro v wr ⟨rfl, hcr⟩
      exact ⟨_, rfl, rfl, hcq.andN hcr⟩
    | some c =>
      refine iteT rfl (iteT rfl ⟨_, _, _, _, _, _, _, _, _, _, _, ⟨hZq.cell 0 rfl, hZq.cell 1 rfl, hZq.cell 2 rfl, hZq.cell 3 rfl, hZq.cell 4 rfl, hZq.cell 5 rfl, hZq.cell 6 rfl⟩, _, _, _, _, _, _, _, _, _, _, _, ⟨hWq.cell 0 rfl, hWq.cell 1 rfl, hWq.cell 2 rfl, hWq.cell 3 rfl, hWq.cell 4 rfl, hWq.cell 5 rfl, hWq.cell 6 rfl⟩, step_call hal ?_⟩)
      rintro v wr ⟨rfl, hcr⟩
      exact ⟨_, rfl, rfl, hcq.andN hcr⟩
end Go.Proofs.Ytamkffjmggbekaa.Ord
