/- LensExact's contract: of all shapes, weights and numbers the Go function answers true and leaves what was there; the conditions stand in each theorem. -/
import Derived.Test.YtbadkcnemcnhfaaDoorLensI
set_option linter.unusedVariables false
set_option linter.unusedSimpArgs false
namespace Go.Proofs.YtbadkcnemcnhfaaDoor.Lens
open Go Go.Proofs Go.Proofs.YtbadkcnemcnhfaaDoor.V Go.Proofs.YtbadkcnemcnhfaaDoor.Vc Go.Proofs.YtbadkcnemcnhfaaDoor.Conf Go.Proofs.YtbadkcnemcnhfaaDoor.Brain Go.Proofs.YtbadkcnemcnhfaaDoor.Num Go.Proofs.YtbadkcnemcnhfaaDoor.RefM Go.RowKit

set_option maxRecDepth 100000 in
theorem nameG_spec (w : World) {p b : Nat} (hp : p < 12) {u : UInt8} (hu : Value.int .u8 (IntKind.u8.wrap (IntKind.i64.wrap (48 + Int.tmod (b : Int) 10))) = u8v u) (hd : Int.tdiv (b : Int) 10 = 0) (hap : ByteArray.mk #[u] ++ ByteArray.mk #[] = ByteArray.mk #[u]) (hne : ((ByteArray.mk #[u]).toList == (ByteArray.mk #[]).toList) = false) (hdig : Lib.decDigits b = [u]) : Calls Tryd.prog i_coadjutorlaw39_name #[.int .i64 p, .int .i64 b] w (Ret fun v w' => v = .string (nameS p b) ∧ Ch Non w w') := by
  refine coadjutorlaw39_name.calls _ _ ?_
  unfold coadjutorlaw39_name.vc
  intro w1 e1
  have hA := Blk.new e1
  refine ⟨⟨hA.ok 0 rfl, hA.ok 1 rfl, hA.ok 2 rfl, hA.ok 3 rfl, hA.ok 4 rfl, hA.ok 5 rfl, hA.ok 6 rfl, hA.ok 7 rfl, hA.ok 8 rfl, hA.ok 9 rfl, hA.ok 10 rfl, hA.ok 11 rfl⟩, fun w2 e2 => ?_⟩
  have e2' : w2 = w1.setCells w.heap.size 0 (wordsL.map .string) := e2
  have hA2 := hA.all (wordsL.map .string) rfl e2'
  have hc02 : Ch Non w w2 := (Ch.alloc (F := Non) e1).trans (Ch.sets (F := (· = w.heap.size)) e2' rfl) (fun i hi he => by omega)
  have hwl := words_len p hp
  have hcw : w2.cell? ((⟨w.heap.size, 0, none⟩ : Addr).add ((p : Int).toNat * 1)) = some (.string (wordsL.getD p ByteArray.empty)) := by
    rw [add_at, Int.toNat_natCast]
    refine hA2.cell _ ?_
    have hpw : p < wordsL.length := hp
    rw [show 0 + p * 1 = p by omega, List.getElem?_map, List.getD_eq_getElem?_getD, List.getElem?_eq_getElem hpw]
    rfl
  unfold nameS
  refine iteF (decide_eq_false (by omega)) (iteF (decide_eq_false (by omega)) (iteF (decide_eq_false (by omega)) ⟨⟨by omega, by omega⟩, _, hcw, dT fun h2 => ⟨by rw [if_pos (by omega)], hc02⟩, dF fun h2 => ⟨bT fun h11 => ⟨by rw [if_pos (by omega)], hc02⟩, bF fun h11 => ?_⟩⟩))
  rw [if_neg (by omega), hdig]
  have hsz : (ByteArray.mk #[u]).size = 1 := rfl
  have hsz0 : (ByteArray.mk #[]).size = 0 := rfl
  have conv : ∀ w3 w4 : World, w4 = w3.alloc (.cells #[.int .u8 (IntKind.u8.wrap (IntKind.i64.wrap (48 + Int.tmod (b : Int) 10)))] t_uint8 (0, 0)) → (convert (51) (9) (.slice (some ⟨w3.heap.size, 0, none⟩) 1 1)).run Tryd.prog w4 = .ok (.string (ByteArray.mk #[u])) w4 := fun w3 w4 e4 => by
    rw [hu] at e4
    have hB : Blk w4 w3.heap.size ([u].map u8v) t_uint8 := Blk.new e4
    exact conv_out (P := Tryd.prog) (src := 51) (dst := 9) (e := 5) (c := 1) hB.rd (by kernel_rfl) (by kernel_rfl) (by kernel_rfl)
  refine ⟨fun dg n k w' => Ch Non w2 w' ∧ ((dg = ByteArray.mk #[] ∧ n = b ∧ k = 1) ∨ (dg = ByteArray.mk #[u] ∧ n = 0 ∧ k = 0)), ⟨_, Ch.refl _ _, .inl ⟨rfl, rfl, rfl⟩⟩, ?_⟩
  rintro jk dg n k w3 ⟨hc3, ⟨rfl, rfl, rfl⟩ | ⟨rfl, rfl, rfl⟩⟩
  · refine ⟨fun _ => ⟨by omega, fun w4 e4 => ⟨_, w4, conv w3 w4 e4, by rw [hsz, hsz0]; omega, by omega, 0, by omega, hc3.andN (Ch.alloc e4), .inr ⟨hap, by rw [hd]; rfl, rfl⟩⟩⟩, fun _ => ⟨fun _ => ⟨by omega, fun w4 e4 => ⟨_, w4, conv w3 w4 e4, by rw [hsz, hsz0]; omega, by omega, 0, by omega, hc3.andN (Ch.alloc e4), .inr ⟨hap, by rw [hd]; rfl, rfl⟩⟩⟩, fun hf => by simp at hf⟩⟩
  · refine iteF rfl (iteF hne ⟨?_, ?_, rfl, hc02.andN hc3⟩)
    · show ((_ + 1 : Nat) : Int) ≤ _; omega
    · have h1 : (wordsL.getD p ByteArray.empty ++ ByteArray.mk #[32]).size = (wordsL.getD p ByteArray.empty).size + 1 := ByteArray.size_append
      rw [h1, hsz]; omega
theorem name_spec (w : World) {p b : Nat} (hp : p < 12) (hb : b ≤ 2) : Calls Tryd.prog i_coadjutorlaw39_name #[.int .i64 p, .int .i64 b] w (Ret fun v w' => v = .string (nameS p b) ∧ Ch Non w w') := by
  rcases (by omega : b = 0 ∨ b = 1 ∨ b = 2) with rfl | rfl | rfl
  · exact nameG_spec w hp (u := 48) (by kernel_rfl) (by kernel_rfl) (by kernel_rfl) (by kernel_rfl) (by kernel_rfl)
  · exact nameG_spec w hp (u := 49) (by kernel_rfl) (by kernel_rfl) (by kernel_rfl) (by kernel_rfl) (by kernel_rfl)
  · exact nameG_spec w hp (u := 50) (by kernel_rfl) (by kernel_rfl) (by kernel_rfl) (by kernel_rfl) (by kernel_rfl)
theorem dig_len {b : Nat} (hb : b ≤ 2) : (Lib.decDigits b).length ≤ 100 := by
  rcases (by omega : b = 0 ∨ b = 1 ∨ b = 2) with rfl | rfl | rfl <;> exact of_decide_eq_true (by kernel_rfl)
/-- The places of a walk over the blocks and parts. -/
def plBlk (n B : Nat) : List (Nat × Nat) := if B = 0 then [(0, 0), (1, 0)] else if B ≤ n then blockPl (B - 1) else [(11, 0)]
def incN (n B p : Nat) : Bool := decide ((B = 0 ∧ p ≤ 1) ∨ (1 ≤ B ∧ B ≤ n ∧ 2 ≤ p ∧ p ≤ 10) ∨ (B = n + 1 ∧ 11 ≤ p))
def restB (n : Nat) : Nat → List (Nat × Nat)
  | 0 => []
  | m + 1 => plBlk n (n + 1 - m) ++ restB n m
def fltB (n B p : Nat) : List (Nat × Nat) := (plBlk n B).filter (fun x => decide (p ≤ x.1))
set_option maxRecDepth 100000 in
theorem walk_all : ∀ n ∈ [1, 2, 3], restB n (n + 2) = placesL n := by decide
set_option maxRecDepth 100000 in
theorem walk_step : ∀ n ∈ [1, 2, 3], ∀ B ∈ List.range (n + 2), ∀ p ∈ List.range 12, fltB n B p = (if incN n B p then [(p, kOf B p)] else []) ++ fltB n B (p + 1) := by decide
set_option maxRecDepth 100000 in
theorem walk_ends : ∀ n ∈ [1, 2, 3], ∀ B ∈ List.range (n + 2), fltB n B 0 = plBlk n B ∧ fltB n B 12 = [] := by decide
theorem Of_law (w : World) (c : CfD) (wt : ByteArray) : Calls Tryd.prog i_brain_Of #[.agg (cfE c).toArray, .string wt] w (Ret fun v w' => Ch Non w w' ∧ ((∃ b, v = .tuple #[.pointer (some ⟨b, 0, none⟩), .int .i64 0] ∧ BrK w' b c wt) ∨ (∃ e : Int, v = .tuple #[.pointer none, .int .i64 e] ∧ e ≠ 0))) := by
  refine step_call (brOf_spec w c wt) ?_
  rintro v w' ⟨hc, h1, h2, h3⟩
  refine ⟨hc, ?_⟩
  by_cases ok : okC c
  · by_cases hs : (wt.size : Int) = allN c
    · obtain ⟨b, rfl, hb, hr⟩ := h1 ⟨ok, hs⟩
      exact .inl ⟨b, rfl, hr, ok, hs⟩
    · exact .inr ⟨5, h2 ⟨ok, hs⟩, by decide⟩
  · exact .inr ⟨1, h3 ok, by decide⟩
set_option maxRecDepth 100000 in
set_option maxHeartbeats 2000000 in
theorem LensExact_true (W : World) (cs : List Value) (h0 : DatC Tryd.prog W t_api_Config cs) (a : ByteArray) (hsa : a.size ≤ 140737488351232) (ds : List Value) (h1 : DatC Tryd.prog W t_api_Config ds) (b : ByteArray) (hsb : b.size ≤ 140737488351232) (num : Int) (hn0 : (Lit.int .i64 num).wf = true) (den : Int) (hd0 : (Lit.int .i64 den).wf = true) :
    Calls Tryd.prog i_coadjutorlaw39_LensExact #[.agg cs.toArray, .string a, .agg ds.toArray, .string b, .int .i64 num, .int .i64 den] W (Ret fun v w' => v = .bool true ∧ Ch Non W w') := by
  obtain ⟨c, rfl⟩ := conf_dat h0
  obtain ⟨d, rfl⟩ := conf_dat h1
  refine coadjutorlaw39_LensExact.calls _ _ _ _ _ _ _ _ _ _ _ _ _ _ _ _ ?_
  unfold coadjutorlaw39_LensExact.vc
  intro w1 e1 w2 e2
  have hC : Blk w2 W.heap.size (cfE c) t_api_Config := (Blk.new e1).keepN (Ch.alloc e2)
  have hD : Blk w2 w1.heap.size (cfE d) t_api_Config := Blk.new e2
  have hc02 : Ch Non W w2 := (Ch.alloc e1).andN (Ch.alloc e2)
  refine step_call (awake_spec w2) ?_
  rintro v w3 ⟨rfl, hc3⟩
  have hC3 := hC.keepN hc3
  have hD3 := hD.keepN hc3
  have hc03 := hc02.andN hc3
  refine ⟨_, rfl, iteF rfl ⟨fun _ => ⟨rfl, hc03⟩, dF fun g1 => ⟨fun _ => ⟨rfl, hc03⟩, dF fun g2 => ⟨_, _, _, _, _, _, ⟨hC3.cell 0 rfl, hC3.cell 1 rfl, hC3.cell 2 rfl, hC3.cell 3 rfl, hC3.cell 4 rfl, hC3.cell 5 rfl⟩, step_call (Of_law w3 c a) ?_⟩⟩⟩⟩
  rintro v w4 ⟨hc4, hy4⟩
  have hD4 := hD3.keepN hc4
  have hC4 := hC3.keepN hc4
  obtain ⟨x1, y1, hv4⟩ : ∃ (x : Option Addr) (y : Int), v = .tuple #[.pointer x, .int .i64 y] := by
    rcases hy4 with ⟨bx, rfl, _⟩ | ⟨e, rfl, _⟩ <;> exact ⟨_, _, rfl⟩
  refine ⟨x1, y1, hv4, _, _, _, _, _, _, ⟨hD4.cell 0 rfl, hD4.cell 1 rfl, hD4.cell 2 rfl, hD4.cell 3 rfl, hD4.cell 4 rfl, hD4.cell 5 rfl⟩, step_call (Of_law w4 d b) ?_⟩
  rintro v2 w5 ⟨hc5, hy5⟩
  have hc05 := (hc03.andN hc4).andN hc5
  obtain ⟨x2, y2, hv5⟩ : ∃ (x : Option Addr) (y : Int), v2 = .tuple #[.pointer x, .int .i64 y] := by
    rcases hy5 with ⟨bx, rfl, _⟩ | ⟨e, rfl, _⟩ <;> exact ⟨_, _, rfl⟩
  refine ⟨x2, y2, hv5, fun _ => ⟨rfl, hc05⟩, fun hz1 => ⟨fun _ => ⟨rfl, hc05⟩, fun hz2 => ?_⟩⟩
  have hz1 : y1 = 0 := by simpa using hz1
  have hz2 : y2 = 0 := by simpa using hz2
  subst hz1; subst hz2
  rcases hy4 with ⟨ab, hv4', hX⟩ | ⟨e, hv4', he⟩
  case inr =>
    rw [hv4] at hv4'
    injection hv4' with hh
    have := congrArg Array.toList hh
    simp at this
    exact absurd this.2.symm he
  rcases hy5 with ⟨bb, hv5', hY⟩ | ⟨e, hv5', he⟩
  case inr =>
    rw [hv5] at hv5'
    injection hv5' with hh
    have := congrArg Array.toList hh
    simp at this
    exact absurd this.2.symm he
  rw [hv4] at hv4'
  injection hv4' with hh
  have hh := congrArg Array.toList hh
  simp only [List.cons.injEq, Value.pointer.injEq, and_true] at hh
  subst hh
  rw [hv5] at hv5'
  injection hv5' with hh
  have hh := congrArg Array.toList hh
  simp only [List.cons.injEq, Value.pointer.injEq, and_true] at hh
  subst hh
  clear hv4 hv5
  have hX5 := hX.keepN hc5
  have hC5 := hC4.keepN hc5
  have hD5 := hD4.keepN hc5
  refine step_call (Changes_spec hX5 hY) ?_
  rintro v w6 ⟨hc6, m1, m2⟩
  obtain ⟨lo, ln, lc, ly, hv6⟩ : ∃ (o : Option Addr) (n cp : Nat) (y : Int), v = .tuple #[.slice o n cp, .int .i64 y] := by
    by_cases h : c = d
    · obtain ⟨o, cp, rfl, _⟩ := m2 h; exact ⟨_, _, _, _, rfl⟩
    · exact ⟨_, _, _, _, m1 h⟩
  refine ⟨lo, ln, lc, ly, hv6, step_call (Distance_spec (hX5.keepN hc6) (hY.keepN hc6)) ?_⟩
  rintro vd w7 ⟨hc7, p1, p2⟩
  obtain ⟨dn, dy, hv7⟩ : ∃ (n y : Int), vd = .tuple #[.int .i64 n, .int .i64 y] := by
    by_cases h : c = d
    · exact ⟨_, _, p2 h⟩
    · exact ⟨_, _, p1 h⟩
  have hc57 := hc6.andN hc7
  refine ⟨dn, dy, hv7, step_call (Blend_spec (hX5.keepN hc57) (hY.keepN hc57) num den) ?_⟩
  rintro vb w8 ⟨hc8, q1, q2⟩
  have hc58 := hc57.andN hc8
  have hC8 := hC5.keepN hc58
  have hD8 := hD5.keepN hc58
  have hc08 := hc05.andN hc58
  by_cases hcd : c = d
  case neg =>
    have hsc : sameC c d = false := by rw [← Bool.not_eq_true, sameC_iff]; exact hcd
    have r1 := m1 hcd
    have r2 := p1 hcd
    rw [hv6] at r1
    rw [hv7] at r2
    injection r1 with r1
    have r1 := congrArg Array.toList r1
    simp only [List.cons.injEq, Value.slice.injEq, Value.int.injEq, and_true, true_and] at r1
    obtain ⟨⟨rfl, rfl, rfl⟩, rfl⟩ := r1
    injection r2 with r2
    have r2 := congrArg Array.toList r2
    simp only [List.cons.injEq, Value.int.injEq, and_true, true_and] at r2
    obtain ⟨rfl, rfl⟩ := r2
    rw [q1 (fun k => hcd k.1)]
    refine ⟨_, _, rfl, _, _, _, _, _, _, ⟨hC8.cell 0 rfl, hC8.cell 1 rfl, hC8.cell 2 rfl, hC8.cell 3 rfl, hC8.cell 4 rfl, hC8.cell 5 rfl⟩, _, _, _, _, _, _, ⟨hD8.cell 0 rfl, hD8.cell 1 rfl, hD8.cell 2 rfl, hD8.cell 3 rfl, hD8.cell 4 rfl, hD8.cell 5 rfl⟩, iteT (by show (!sameC c d) = true; rw [hsc]; rfl) (iteT rfl (iteT rfl (iteT rfl (iteT rfl (iteT rfl ⟨rfl, hc08⟩)))))⟩
  subst hcd
  obtain ⟨o, cp, hl6, hr6⟩ := m2 rfl
  rw [hv6] at hl6
  injection hl6 with hl6
  have hl6 := congrArg Array.toList hl6
  simp only [List.cons.injEq, Value.slice.injEq, Value.int.injEq, and_true, true_and] at hl6
  obtain ⟨⟨rfl, rfl, rfl⟩, rfl⟩ := hl6
  have r2 := p2 rfl
  rw [hv7] at r2
  injection r2 with r2
  have r2 := congrArg Array.toList r2
  simp only [List.cons.injEq, Value.int.injEq, and_true, true_and] at r2
  obtain ⟨rfl, rfl⟩ := r2
  obtain ⟨bz, by2, hv8, hB1, hB2⟩ : ∃ (x : Option Addr) (y : Int), vb = .tuple #[.pointer x, .int .i64 y] ∧ (¬ okND num den → x = none ∧ y = 1) ∧ (okND num den → ∃ z, x = some ⟨z, 0, none⟩ ∧ y = 0 ∧ BrK w8 z c ⟨(blendL num den (Vecs.numsB a) (Vecs.numsB b)).toArray⟩) := by
    by_cases hk : okND num den
    · obtain ⟨z, rfl, hz⟩ := q2 rfl hk
      exact ⟨_, _, rfl, fun k => absurd hk k, fun _ => ⟨z, rfl, rfl, hz⟩⟩
    · exact ⟨_, _, q1 (fun k => hk k.2), fun _ => ⟨rfl, rfl⟩, fun k => absurd k hk⟩
  subst hv8
  have ok := hX.ok
  have hza := hX.sz
  have hzb := hY.sz
  have hbk := ok.2.2.2.1
  have hall := ok.2.2.2.2.2.2.2
  have hr8 := (hr6.keepN hc7).keepN hc8
  refine ⟨bz, by2, rfl, _, _, _, _, _, _, ⟨hC8.cell 0 rfl, hC8.cell 1 rfl, hC8.cell 2 rfl, hC8.cell 3 rfl, hC8.cell 4 rfl, hC8.cell 5 rfl⟩, _, _, _, _, _, _, ⟨hD8.cell 0 rfl, hD8.cell 1 rfl, hD8.cell 2 rfl, hD8.cell 3 rfl, hD8.cell 4 rfl, hD8.cell 5 rfl⟩, iteF (by show (!sameC c c) = false; rw [sameC_iff.2 rfl]; rfl) ⟨_, _, _, _, _, _, ⟨hC8.cell 0 rfl, hC8.cell 1 rfl, hC8.cell 2 rfl, hC8.cell 3 rfl, hC8.cell 4 rfl, hC8.cell 5 rfl⟩, fun w9 e9 => ?_⟩⟩
  have hQ := Blk.new e9
  refine ⟨⟨hQ.ok 0 rfl, hQ.ok 1 rfl, hQ.ok 2 rfl, hQ.ok 3 rfl, hQ.ok 4 rfl, hQ.ok 5 rfl, hQ.ok 6 rfl⟩, fun w10 e10 => ?_⟩
  have e10' : w10 = w9.setCells w8.heap.size 0 (cfE c ++ [Value.string a]) := e10
  have hU10 := hQ.all (cfE c ++ [Value.string a]) rfl e10'
  have hc810 : Ch Non w8 w10 := (Ch.alloc (F := Non) e9).trans (Ch.sets (F := (· = w8.heap.size)) e10' rfl) (fun i hi he => by omega)
  clear hQ e10' e10
  have hD10 := hD8.keepN hc810
  refine ⟨_, _, _, _, _, _, ⟨hD10.cell 0 rfl, hD10.cell 1 rfl, hD10.cell 2 rfl, hD10.cell 3 rfl, hD10.cell 4 rfl, hD10.cell 5 rfl⟩, fun w11 e11 => ?_⟩
  have hQ := Blk.new e11
  refine ⟨⟨hQ.ok 0 rfl, hQ.ok 1 rfl, hQ.ok 2 rfl, hQ.ok 3 rfl, hQ.ok 4 rfl, hQ.ok 5 rfl, hQ.ok 6 rfl⟩, fun w12 e12 => ?_⟩
  have e12' : w12 = w11.setCells w10.heap.size 0 (cfE c ++ [Value.string b]) := e12
  have hV12 := hQ.all (cfE c ++ [Value.string b]) rfl e12'
  have hc1012 : Ch Non w10 w12 := (Ch.alloc (F := Non) e11).trans (Ch.sets (F := (· = w10.heap.size)) e12' rfl) (fun i hi he => by omega)
  clear hQ e12' e12
  have hU12 := hU10.keepN hc1012
  have hc812 := hc810.andN hc1012
  have hc012 := hc08.andN hc812
  have hC12 := hC8.keepN hc812
  have hr12 := hr8.keepN hc812
  have hX12 := (hX5.keepN hc58).keepN hc812
  obtain ⟨n, hn⟩ : ∃ n : Nat, c.blocks.toNat = n := ⟨_, rfl⟩
  have hnb : c.blocks = (n : Int) := by omega
  have hn3 : n ∈ [1, 2, 3] := by
    rcases (by omega : n = 1 ∨ n = 2 ∨ n = 3) with rfl | rfl | rfl <;> simp
  have hpo := places_ok ok
  rw [hn] at hpo
  have hchL : chL c a b = chOf c a b (placesL n) := by unfold chL; rw [hn]
  rw [hchL] at hr12 ⊢
  refine ⟨fun k blk vk w' => ∃ (B : Nat) (done : List (Nat × Nat)), blk = (B : Int) - 1 ∧ B ≤ n + 2 ∧ vk = n + 2 - B ∧ k = ((chOf c a b done).length : Int) ∧ done ++ restB n (n + 2 - B) = placesL n ∧ Ch Non w12 w', ⟨_, 0, [], rfl, by omega, rfl, rfl, walk_all n hn3, Ch.refl _ _⟩, ?_⟩
  rintro jk k blk vk w13 ⟨B, done, rfl, hB, rfl, rfl, hdone, hc13⟩
  refine ⟨_, (hC12.keepN hc13).cell 3 rfl, dT fun hle => ?_, dF fun hgt => ?_⟩
  · have hB1' : B ∈ List.range (n + 2) := List.mem_range.2 (by omega)
    have hends := walk_ends n hn3 B hB1'
    have hsplit : restB n (n + 2 - B) = fltB n B 0 ++ restB n (n + 1 - B) := by
      rw [show n + 2 - B = (n + 1 - B) + 1 by have := List.mem_range.1 hB1'; omega, restB, hends.1]
      rw [show n + 1 - (n + 1 - B) = B by have := List.mem_range.1 hB1'; omega]
    rw [hsplit] at hdone
    refine ⟨fun k p vk w' => ∃ (P : Nat) (done : List (Nat × Nat)), p = P ∧ P ≤ 12 ∧ vk = 12 - P ∧ k = ((chOf c a b done).length : Int) ∧ done ++ (fltB n B P ++ restB n (n + 1 - B)) = placesL n ∧ Ch Non w12 w', ⟨_, 0, done, rfl, by omega, rfl, rfl, hdone, hc13⟩, ?_⟩
    clear hdone hsplit
    rintro jk k p vk w14 ⟨P, done, rfl, hP, rfl, rfl, hdone, hc14⟩
    have hC14 := hC12.keepN hc14
    have hx : w14.cell? ⟨W.heap.size, 3, none⟩ = some (.int .i64 c.blocks) := hC14.cell 3 rfl
    refine ⟨dT fun hlt => ?_, dF fun hge => ?_⟩
    · have hP12 : P ∈ List.range 12 := List.mem_range.2 (by omega)
      have hstep := walk_step n hn3 B hB1' P hP12
      refine ⟨fun k w' => ∃ done : List (Nat × Nat), k = ((chOf c a b done).length : Int) ∧ done ++ (fltB n B (P + 1) ++ restB n (n + 1 - B)) = placesL n ∧ Ch Non w12 w', ⟨fun w' => w' = w14 ∧ incN n B P = true, ?_, ?_⟩, ?_⟩
      · have sk : ¬ ((B = 0 ∧ P ≤ 1) ∨ (1 ≤ B ∧ (B : Int) ≤ c.blocks ∧ 2 ≤ P ∧ P ≤ 10) ∨ ((B : Int) = c.blocks + 1 ∧ 11 ≤ P)) → ∃ done' : List (Nat × Nat), ((chOf c a b done).length : Int) = ((chOf c a b done').length : Int) ∧ done' ++ (fltB n B (P + 1) ++ restB n (n + 1 - B)) = placesL n ∧ Ch Non w12 w14 := fun h => by
          have hi : incN n B P = false := by unfold incN; exact decide_eq_false (fun k => h (by omega))
          rw [hi] at hstep
          rw [hstep] at hdone
          exact ⟨done, rfl, by simpa using hdone, hc14⟩
        have tk : ((B = 0 ∧ P ≤ 1) ∨ (1 ≤ B ∧ (B : Int) ≤ c.blocks ∧ 2 ≤ P ∧ P ≤ 10) ∨ ((B : Int) = c.blocks + 1 ∧ 11 ≤ P)) → w14 = w14 ∧ incN n B P = true := fun h => ⟨rfl, by unfold incN; exact decide_eq_true (by omega)⟩
        clear hstep hdone hr12 hB1 hB2
        refine ⟨dT fun hb => ⟨dT fun hp => ?_, dF fun hp => ⟨_, hx, bT fun he => ⟨dT fun h1 => ?_, dF fun h1 => ⟨dT fun h2 => ⟨_, hx, dT fun h3 => ⟨dT fun h4 => ?_, dF fun h4 => ⟨dT fun h5 => ?_, dF fun h5 => ?_⟩⟩, dF fun h3 => ?_⟩, dF fun h2 => ?_⟩⟩, bF fun he => ⟨dT fun h2 => ⟨_, hx, dT fun h3 => ⟨dT fun h4 => ?_, dF fun h4 => ⟨dT fun h5 => ?_, dF fun h5 => ?_⟩⟩, dF fun h3 => ?_⟩, dF fun h2 => ?_⟩⟩⟩, dF fun hb => ⟨_, hx, bT fun he => ⟨dT fun h1 => ?_, dF fun h1 => ⟨dT fun h2 => ⟨_, hx, dT fun h3 => ⟨dT fun h4 => ?_, dF fun h4 => ⟨dT fun h5 => ?_, dF fun h5 => ?_⟩⟩, dF fun h3 => ?_⟩, dF fun h2 => ?_⟩⟩, bF fun he => ⟨dT fun h2 => ⟨_, hx, dT fun h3 => ⟨dT fun h4 => ?_, dF fun h4 => ⟨dT fun h5 => ?_, dF fun h5 => ?_⟩⟩, dF fun h3 => ?_⟩, dF fun h2 => ?_⟩⟩⟩
        all_goals first | exact sk (by omega) | exact tk (by omega)
      · rintro jk w15 ⟨rfl, hinc⟩
        rw [hinc, if_pos rfl] at hstep
        rw [hstep] at hdone
        have hmem : (P, kOf B P) ∈ placesL n := by rw [← hdone]; simp
        have hok : okPB c P (kOf B P) := hpo _ hmem
        have hBn := List.mem_range.1 hB1'
        have hinc' := of_decide_eq_true (show decide _ = true from hinc)
        refine ⟨fun k w' => w' = w15 ∧ k = (kOf B P : Int), ⟨dT fun h => ⟨rfl, ?_⟩, dF fun h => ⟨bT fun h' => ⟨rfl, ?_⟩, bF fun h' => ⟨rfl, ?_⟩⟩⟩, ?_⟩
        · unfold kOf; rw [if_pos (by omega)]; rfl
        · unfold kOf; rw [if_pos (by omega)]; rfl
        · unfold kOf; rw [if_neg (by omega)]; omega
        rintro jk q w16 ⟨rfl, rfl⟩
        have hk2 : kOf B P ≤ 2 := by unfold kOf; split <;> omega
        generalize kOf B P = q at hmem hok hdone hk2
        refine ⟨_, _, _, _, _, _, ⟨hC14.cell 0 rfl, hC14.cell 1 rfl, hC14.cell 2 rfl, hC14.cell 3 rfl, hC14.cell 4 rfl, hC14.cell 5 rfl⟩, step_call (rRange_spec w16 ok hok) ?_⟩
        rintro v w17 ⟨rfl, hc17⟩
        have hc1217 := hc14.andN hc17
        have hU17 := hU12.keepN hc1217
        have hV17 := hV12.keepN hc1217
        have hfl := from_le ok.small hok
        obtain ⟨F, hF⟩ := Int.eq_ofNat_of_zero_le hfl.1
        obtain ⟨N', hN'⟩ := Int.eq_ofNat_of_zero_le hfl.2.1
        have hta : tabP c a P q = segOf (Vecs.numsB a) ((F : Int), (N' : Int)) := by rw [← hF, ← hN']; exact tab_seg ok hza (x := (P, q)) hok
        have htb : tabP c b P q = segOf (Vecs.numsB b) ((F : Int), (N' : Int)) := by rw [← hF, ← hN']; exact tab_seg ok hzb (x := (P, q)) hok
        rw [hF, hN']
        refine ⟨_, _, _, rfl, _, _, _, _, _, _, _, ⟨hU17.cell 0 rfl, hU17.cell 1 rfl, hU17.cell 2 rfl, hU17.cell 3 rfl, hU17.cell 4 rfl, hU17.cell 5 rfl, hU17.cell 6 rfl⟩, _, _, _, _, _, _, _, ⟨hV17.cell 0 rfl, hV17.cell 1 rfl, hV17.cell 2 rfl, hV17.cell 3 rfl, hV17.cell 4 rfl, hV17.cell 5 rfl, hV17.cell 6 rfl⟩, step_call (rPart_spec (c := c) (d := c) w17 (f := F) (n := N') (by omega) (by omega) (by omega)) ?_⟩
        rintro v w18 ⟨rfl, hc18⟩
        rw [← hta, ← htb]
        have hc1218 := hc1217.andN hc18
        have hsn := chOf_snoc c a b done (P, q)
        have hcat : chAt c a b (P, q) = (P, q, countD (tabP c a P q) (tabP c b P q), mostD (tabP c a P q) (tabP c b P q)) := rfl
        have hcd0 := (countD_le (tabP c a P q) (tabP c b P q)).1
        have hres : (done ++ [(P, q)]) ++ (fltB n B (P + 1) ++ restB n (n + 1 - B)) = placesL n := by rw [← hdone]; simp
        refine ⟨_, _, rfl, bT fun hz => ?_, bF fun hnz => ?_⟩
        · have hi : isCh (chAt c a b (P, q)) = false := by rw [hcat]; unfold isCh; exact decide_eq_false (by dsimp only; omega)
          rw [hi, if_neg (by simp), List.append_nil] at hsn
          exact ⟨done ++ [(P, q)], by rw [hsn], hres, hc1218⟩
        · have hi : isCh (chAt c a b (P, q)) = true := by rw [hcat]; unfold isCh; exact decide_eq_true (by dsimp only; omega)
          rw [hi, if_pos rfl] at hsn
          have hLs : chOf c a b (placesL n) = chOf c a b done ++ (chAt c a b (P, q) :: chOf c a b (fltB n B (P + 1) ++ restB n (n + 1 - B))) := by
            rw [← hres]
            unfold chOf at hsn ⊢
            rw [List.map_append, List.filter_append, hsn]
            simp
          have hLl : (chOf c a b (placesL n)).length ≤ 100 := by
            have h := chOf_len c a b (placesL n)
            have hpl : (placesL n).length ≤ 100 := by unfold placesL; rw [List.length_append, placesTo_len]; simp; omega
            omega
          have hlt3 : (chOf c a b done).length < (chOf c a b (placesL n)).length := by rw [hLs, List.length_append, List.length_cons]; omega
          have hel : (chOf c a b (placesL n))[(chOf c a b done).length] = chAt c a b (P, q) := by
            have : (chOf c a b (placesL n))[(chOf c a b done).length]? = some (chAt c a b (P, q)) := by rw [hLs]; simp
            rw [List.getElem?_eq_getElem hlt3] at this
            injection this
          obtain ⟨ad, had, _, _, hcell⟩ := Rd.elem (sz := 4) (enc := chE) (hr12.keepN hc1218) (fun _ => rfl) (by omega) hlt3
          subst had
          rw [hel, hcat] at hcell
          have c0 := hcell 0 _ rfl
          rw [add_none] at c0
          have c1 := hcell 1 _ rfl
          have c2 := hcell 2 _ rfl
          have c3 := hcell 3 _ rfl
          refine iteF (decide_eq_false (by omega)) ⟨⟨by omega, by omega⟩, _, _, _, _, ⟨c0, c1, c2, c3⟩, iteF (by simp) ⟨⟨by omega, by omega⟩, _, _, ⟨c0, c1⟩, step_call (Name_spec w18 (p := P) (b := q) (by omega) (by omega) (dig_len hk2)) ?_⟩⟩
          rintro v w19 ⟨rfl, hc19⟩
          refine ⟨_, rfl, step_call (name_spec w19 (p := P) (b := q) (by omega) hk2) ?_⟩
          rintro v w20 ⟨rfl, hc20⟩
          exact ⟨_, rfl, iteF (by simp) ⟨done ++ [(P, q)], by rw [hsn, List.length_append, wrap_id (by omega) (by omega)]; rfl, hres, (hc1218.andN hc19).andN hc20⟩⟩
      · rintro jk k2 w21 ⟨done2, rfl, hd2, hc21⟩
        exact ⟨12 - (P + 1), by omega, P + 1, done2, by rw [wrap_id (by omega) (by omega)]; rfl, by omega, rfl, rfl, hd2, hc21⟩
    · have hPe : P = 12 := by omega
      subst hPe
      rw [hends.2, List.nil_append] at hdone
      exact ⟨n + 2 - (B + 1), by omega, B + 1, done, by rw [wrap_id (by omega) (by omega)]; omega, by omega, rfl, rfl, by rw [show n + 2 - (B + 1) = n + 1 - B by omega]; exact hdone, hc14⟩
  · have hBe : B = n + 2 := by omega
    subst hBe
    have hdn : done = placesL n := by
      rw [show n + 2 - (n + 2) = 0 by omega] at hdone
      simpa [restB] using hdone
    subst hdn
    have hU13 := hU12.keepN hc13
    have hV13 := hV12.keepN hc13
    refine iteF rfl (iteF (by simp) (iteF rfl ⟨_, _, _, _, _, _, _, ⟨hU13.cell 0 rfl, hU13.cell 1 rfl, hU13.cell 2 rfl, hU13.cell 3 rfl, hU13.cell 4 rfl, hU13.cell 5 rfl, hU13.cell 6 rfl⟩, _, _, _, _, _, _, _, ⟨hV13.cell 0 rfl, hV13.cell 1 rfl, hV13.cell 2 rfl, hV13.cell 3 rfl, hV13.cell 4 rfl, hV13.cell 5 rfl, hV13.cell 6 rfl⟩, step_call (rDistance_spec (c := c) (d := c) w13 (by omega) (by omega)) ?_⟩))
    rintro v w22 ⟨rfl, hc22⟩
    have hc1222 := hc13.andN hc22
    have hc022 := hc012.andN hc1222
    have no : ¬ (1 ≤ den ∧ den ≤ 1000 ∧ 0 ≤ num ∧ num ≤ den) → ((bz.isNone = true → (Value.bool (by2 == (1 : Int)) = .bool true ∧ Ch Non W w22)) ∧ (bz.isNone = false → (Value.bool false = .bool true ∧ Ch Non W w22))) := fun h => by
      obtain ⟨rfl, rfl⟩ := hB1 h
      exact ⟨fun _ => ⟨rfl, hc022⟩, fun hf => by simp at hf⟩
    refine ⟨_, rfl, iteF (by simp) ⟨dT fun z1 => no (by omega), dF fun z1 => ⟨dT fun z2 => no (by omega), dF fun z2 => ⟨dT fun z3 => no (by omega), dF fun z3 => ⟨dT fun z4 => no (by omega), dF fun z4 => ?_⟩⟩⟩⟩⟩
    have hk : okND num den := ⟨by omega, by omega, by omega, by omega⟩
    obtain ⟨z, rfl, rfl, hZ⟩ := hB2 hk
    have hU22 := hU13.keepN hc22
    have hV22 := hV13.keepN hc22
    have hZ22 := (hZ.keepN hc812).keepN hc1222
    refine ⟨fun w' => Ch Non w22 w', fun w23 e23 => ⟨Ch.drew e23, iteT rfl ⟨_, _, _, _, _, _, _, ⟨fun w' k => (hU22.keepN k).cell 0 rfl, fun w' k => (hU22.keepN k).cell 1 rfl, fun w' k => (hU22.keepN k).cell 2 rfl, fun w' k => (hU22.keepN k).cell 3 rfl, fun w' k => (hU22.keepN k).cell 4 rfl, fun w' k => (hU22.keepN k).cell 5 rfl, fun w' k => (hU22.keepN k).cell 6 rfl⟩, _, _, _, _, _, _, _, ⟨fun w' k => (hV22.keepN k).cell 0 rfl, fun w' k => (hV22.keepN k).cell 1 rfl, fun w' k => (hV22.keepN k).cell 2 rfl, fun w' k => (hV22.keepN k).cell 3 rfl, fun w' k => (hV22.keepN k).cell 4 rfl, fun w' k => (hV22.keepN k).cell 5 rfl, fun w' k => (hV22.keepN k).cell 6 rfl⟩, step_call (Weights_spec (hZ22.keepN (Ch.drew e23)).r) ?_⟩⟩⟩
    rintro v w26 ⟨rfl, rfl⟩
    have hd23 : Ch Non w22 w26 := Ch.drew e23
    refine ⟨_, rfl, hd23, step_call (rBlend_spec (c := c) (d := c) w26 (by omega) (by omega) hk) ?_⟩
    rintro v w27 ⟨rfl, hc27⟩
    exact ⟨_, rfl, hd23.andN hc27, by simp, hc022.andN (hd23.andN hc27)⟩
end Go.Proofs.YtbadkcnemcnhfaaDoor.Lens
