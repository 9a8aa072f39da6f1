/- LensAgrees's contract: of all weights, prompts and places the Go function answers true and leaves what was there; the conditions stand in each theorem. -/
import Derived.Test.YtbadkcnemcnhfaaGreatDoorLensN
import Derived.Test.YtbadkcnemcnhfaaGreatDoorLensJ
set_option linter.unusedVariables false
set_option linter.unusedSimpArgs false
namespace Go.Proofs.YtbadkcnemcnhfaaGreatDoor.Lens
open Go Go.Proofs Go.Proofs.YtbadkcnemcnhfaaGreatDoor.V Go.Proofs.YtbadkcnemcnhfaaGreatDoor.Vc Go.Proofs.YtbadkcnemcnhfaaGreatDoor.Conf Go.Proofs.YtbadkcnemcnhfaaGreatDoor.Brain Go.Proofs.YtbadkcnemcnhfaaGreatDoor.Num Go.Proofs.YtbadkcnemcnhfaaGreatDoor.Stp Go.Proofs.YtbadkcnemcnhfaaGreatDoor.Gen Go.Proofs.YtbadkcnemcnhfaaGreatDoor.RefM Go.RowKit

theorem Of_lawA (w : World) (c : CfD) (wt : ByteArray) : Calls Tryz.prog i_brain_Of #[.agg (cfE c).toArray, .string wt] w (Ret fun v w' => Ch Non w w' ∧ ((∃ b, v = .tuple #[.pointer (some ⟨b, 0, none⟩), .int .i64 0] ∧ BrK w' b c wt) ∨ (∃ e : Int, v = .tuple #[.pointer none, .int .i64 e] ∧ e ≠ 0))) := by
  refine step_call (brOf_spec w c wt) ?_
  rintro v w' ⟨hc, h1, h2, h3⟩
  refine ⟨hc, ?_⟩
  by_cases ok : okC c
  · by_cases hs : (wt.size : Int) = allN c
    · obtain ⟨b, rfl, hb, hr⟩ := h1 ⟨ok, hs⟩
      exact .inl ⟨b, rfl, hr, ok, hs⟩
    · exact .inr ⟨5, h2 ⟨ok, hs⟩, by decide⟩
  · exact .inr ⟨1, h3 ok, by decide⟩
set_option maxRecDepth 100000 in
theorem place_dat {W : World} {cs : List Value} (h : DatC Tryz.prog W t_lens_Place cs) : ∃ p b : Int, cs = [.int .i64 p, .int .i64 b] ∧ b ≤ 9223372036854775807 := by
  obtain ⟨hl, hf⟩ := h.struct Tryz.underlying24
  have h2 : Tryz.prog.cellsOf t_lens_Place = 2 := by kernel_rfl
  rw [h2] at hl
  match cs, hl with
  | [x0, x1], _ =>
    have h0 : DatC Tryz.prog W t_int [x0] := hf 0 _ rfl
    have h1 : DatC Tryz.prog W t_int [x1] := hf 1 _ rfl
    obtain ⟨a, e0, _⟩ := h0.int (k := .i64) (by kernel_rfl)
    obtain ⟨b, e1, hb⟩ := h1.int (k := .i64) (by kernel_rfl)
    injection e0 with e0 _
    injection e1 with e1 _
    subst e0; subst e1
    exact ⟨a, b, rfl, (wf_i64 hb).2⟩
theorem rows_dat {W : World} {o : Option Addr} {n cp : Nat} (h : DatC Tryz.prog W t_S_S_int [.slice o n cp]) : ∃ xss : List (List Int), n = xss.length ∧ RV W (.slice o xss.length cp) xss (fun _ => True) := by
  obtain ⟨o1', c1', zs, hcs, hm1, hm2, hm3, hzs, hz⟩ := h.intRows (e := t_S_int) (g := t_int) (k := .i64) (by kernel_rfl) (by kernel_rfl) (by kernel_rfl)
  injection hcs with hcs
  injection hcs with q1 q2 q3
  subst q1; subst q2; subst q3
  refine ⟨zs.map (·.2.2), by simp, o, cp, _, rfl, by simpa using hm1, hm2, hz, ?_⟩
  refine All2.of (by simp) fun i h1 h2 => ?_
  have hi : i < zs.length := by simpa using h1
  rw [List.getElem_map, List.getElem_map]
  obtain ⟨r1, r2, _, _, r5⟩ := hzs _ (List.getElem_mem hi)
  exact ⟨_, _, rfl, r1, r2, r5⟩
set_option maxRecDepth 100000 in
set_option maxHeartbeats 1000000 in
theorem LensAgrees_true (W : World) (a : ByteArray) (hsa : a.size ≤ 140737488351232) (b : ByteArray) (hsb : b.size ≤ 140737488351232) (most : Int) (hm0 : (Lit.int .i64 most).wf = true) (o : Option Addr) (n cp : Nat) (h1 : DatC Tryz.prog W t_S_S_int [.slice o n cp]) (cs : List Value) (h2 : DatC Tryz.prog W t_lens_Place cs) (ht : TabOk W) :
    Calls Tryz.prog i_coadjutorlaw39_LensAgrees #[.string a, .string b, .int .i64 most, .slice o n cp, .agg cs.toArray] W (Ret fun v w' => v = .bool true ∧ Ch Non W w') := by
  obtain ⟨p, q, rfl, hq⟩ := place_dat h2
  obtain ⟨pss, rfl, hpss⟩ := rows_dat h1
  refine coadjutorlaw39_LensAgrees.calls _ _ _ _ _ _ _ _ ?_
  unfold coadjutorlaw39_LensAgrees.vc
  intro w1 e1
  have hP : Blk w1 W.heap.size [.int .i64 p, .int .i64 q] t_lens_Place := Blk.new e1
  have hc01 : Ch Non W w1 := Ch.alloc e1
  refine step_call (awake_spec w1) ?_
  rintro v w2 ⟨rfl, hc2⟩
  have hP2 := hP.keepN hc2
  have hc02 := hc01.andN hc2
  refine ⟨_, rfl, iteF rfl ⟨fun _ => ⟨rfl, hc02⟩, dF fun g1 => ⟨fun _ => ⟨rfl, hc02⟩, dF fun g2 => ⟨fun _ => ⟨rfl, hc02⟩, dF fun g3 => step_call (shape_spec w2) ?_⟩⟩⟩⟩
  rintro v w3 ⟨rfl, hc3⟩
  refine ⟨_, _, _, _, _, _, rfl, step_call (Of_lawA w3 c39 a) ?_⟩
  rintro v w4 ⟨hc4, hy4⟩
  have hc04 := (hc02.andN hc3).andN hc4
  obtain ⟨x1, y1, hv4⟩ : ∃ (x : Option Addr) (y : Int), v = .tuple #[.pointer x, .int .i64 y] := by
    rcases hy4 with ⟨bx, rfl, _⟩ | ⟨e, rfl, _⟩ <;> exact ⟨_, _, rfl⟩
  refine ⟨x1, y1, hv4, step_call (shape_spec w4) ?_⟩
  rintro v5 w5 ⟨rfl, hc5⟩
  refine ⟨_, _, _, _, _, _, rfl, step_call (Of_lawA w5 c39 b) ?_⟩
  rintro v6 w6 ⟨hc6, hy6⟩
  have hc46 := hc5.andN hc6
  have hc06 := hc04.andN hc46
  have hP6 := ((hP2.keepN hc3).keepN hc4).keepN hc46
  obtain ⟨x2, y2, hv6⟩ : ∃ (x : Option Addr) (y : Int), v6 = .tuple #[.pointer x, .int .i64 y] := by
    rcases hy6 with ⟨bx, rfl, _⟩ | ⟨e, rfl, _⟩ <;> exact ⟨_, _, rfl⟩
  refine ⟨x2, y2, hv6, fun w' => Ch Non w6 w', fun w7 e7 => ⟨Ch.drew e7, _, _, ⟨fun w' k => (hP6.keepN k).cell 0 rfl, fun w' k => (hP6.keepN k).cell 1 rfl⟩, _, fun w' k => (hP6.keepN k).cell 0 rfl, _, fun w' k => (hP6.keepN k).cell 1 rfl, ?_⟩⟩
  have hc67 : Ch Non w6 w7 := Ch.drew e7
  refine step_call (pName_spec w7 p q hq (tab_keep (tab_keep ht hc06) hc67)) ?_
  rintro v w11 ⟨rfl, hc11⟩
  have hc611 := hc67.andN hc11
  refine ⟨_, rfl, hc611, step_call (rName_spec w11 p q hq) ?_⟩
  rintro v w12 ⟨rfl, hc12⟩
  have hc612 := hc611.andN hc12
  have hc012 := hc06.andN hc612
  refine ⟨_, rfl, hc612, iteF (by simp) ⟨fun hne => step_call (Agree_no w12 x2 most _ _ _) ?_, fun hz1 => ⟨fun hne => step_call (Agree_no w12 x2 most _ _ _) ?_, fun hz2 => ?_⟩⟩⟩
  · rintro v w13 ⟨rfl, rfl⟩
    exact ⟨_, _, rfl, rfl, hc012⟩
  · rintro v w13 ⟨rfl, rfl⟩
    exact ⟨_, _, rfl, rfl, hc012⟩
  have hz1 : y1 = 0 := by simpa using hz1
  have hz2 : y2 = 0 := by simpa using hz2
  subst hz1; subst hz2
  rcases hy4 with ⟨ab, hv4', hX⟩ | ⟨e, hv4', he⟩
  case inr =>
    rw [hv4] at hv4'
    injection hv4' with hh
    have := congrArg Array.toList hh
    simp at this
    exact absurd this.2.symm he
  rcases hy6 with ⟨bb, hv6', hY⟩ | ⟨e, hv6', he⟩
  case inr =>
    rw [hv6] at hv6'
    injection hv6' with hh
    have := congrArg Array.toList hh
    simp at this
    exact absurd this.2.symm he
  rw [hv4] at hv4'
  injection hv4' with hh
  have hh := congrArg Array.toList hh
  simp only [List.cons.injEq, Value.pointer.injEq, and_true] at hh
  subst hh
  rw [hv6] at hv6'
  injection hv6' with hh
  have hh := congrArg Array.toList hh
  simp only [List.cons.injEq, Value.pointer.injEq, and_true] at hh
  subst hh
  clear hv4 hv6
  have hX12 := (hX.keepN hc46).keepN hc612
  have hY12 := hY.keepN hc612
  have mX : Md c39 a := ⟨hX.ok, hX.sz⟩
  have mY : Md c39 b := ⟨hY.ok, hY.sz⟩
  refine step_call (shape_spec w12) ?_
  rintro v w15 ⟨rfl, hc15⟩
  refine ⟨_, _, _, _, _, _, rfl, fun w16 e16 => ?_⟩
  have hQ := Blk.new e16
  refine ⟨⟨hQ.ok 0 rfl, hQ.ok 1 rfl, hQ.ok 2 rfl, hQ.ok 3 rfl, hQ.ok 4 rfl, hQ.ok 5 rfl, hQ.ok 6 rfl⟩, fun w17 e17 => ?_⟩
  have e17' : w17 = w16.setCells w15.heap.size 0 (cfE c39 ++ [Value.string a]) := e17
  have hU17 := hQ.all (cfE c39 ++ [Value.string a]) rfl e17'
  have hc1517 : Ch Non w15 w17 := (Ch.alloc (F := Non) e16).trans (Ch.sets (F := (· = w15.heap.size)) e17' rfl) (fun i hi he => by omega)
  clear hQ e17' e17
  refine step_call (shape_spec w17) ?_
  rintro v w18 ⟨rfl, hc18⟩
  refine ⟨_, _, _, _, _, _, rfl, fun w19 e19 => ?_⟩
  have hQ := Blk.new e19
  refine ⟨⟨hQ.ok 0 rfl, hQ.ok 1 rfl, hQ.ok 2 rfl, hQ.ok 3 rfl, hQ.ok 4 rfl, hQ.ok 5 rfl, hQ.ok 6 rfl⟩, fun w20 e20 => ?_⟩
  have e20' : w20 = w19.setCells w18.heap.size 0 (cfE c39 ++ [Value.string b]) := e20
  have hV20 := hQ.all (cfE c39 ++ [Value.string b]) rfl e20'
  have hc1820 : Ch Non w18 w20 := (Ch.alloc (F := Non) e19).trans (Ch.sets (F := (· = w18.heap.size)) e20' rfl) (fun i hi he => by omega)
  clear hQ e20' e20
  have hU20 := (hU17.keepN hc18).keepN hc1820
  have hc1220 := ((hc15.andN hc1517).andN hc18).andN hc1820
  have hc020 := hc012.andN hc1220
  have hX20 := hX12.keepN hc1220
  have hY20 := hY12.keepN hc1220
  have hp20 := hpss.keepN hc020
  have hpl : pss.length ≤ 6 := by omega
  refine ⟨fun n i k w' => Ch Non w20 w' ∧ ∃ j : Nat, i = j ∧ j ≤ pss.length ∧ k = pss.length - j ∧ (∀ ts ∈ pss.take j, ts.length ≤ 6) ∧ n = (((pss.take j).filter (agreeB c39 a c39 b most)).length : Int), ⟨_, Ch.refl _ _, 0, rfl, Nat.zero_le _, rfl, by simp, rfl⟩, ?_⟩
  rintro jk n i kk w21 ⟨hc21, j, rfl, hj, rfl, hall, rfl⟩
  have hfl : ((pss.take j).filter (agreeB c39 a c39 b most)).length ≤ j := Nat.le_trans (List.length_filter_le _ _) (by rw [List.length_take]; omega)
  refine ⟨dT fun hlt => ?_, dF fun hge => ?_⟩
  · have hlt : j < pss.length := by omega
    obtain ⟨ad, o', c', rfl, _, hiv, hcell⟩ := RefS.RV.get hp20 hlt
    have hsn : (pss.take (j + 1)).filter (agreeB c39 a c39 b most) = (pss.take j).filter (agreeB c39 a c39 b most) ++ (if agreeB c39 a c39 b most pss[j] then [pss[j]] else []) := by
      rw [List.take_succ_eq_append_getElem hlt, List.filter_append, List.filter_cons, List.filter_nil]
    have htk : pss.take (j + 1) = pss.take j ++ [pss[j]] := List.take_succ_eq_append_getElem hlt
    generalize pss[j] = ts at hiv hcell hsn htk
    refine ⟨⟨by omega, by omega⟩, _, _, _, hcell Non w21 hc21 (fun _ _ _ => id), fun _ => ⟨rfl, hc020.andN hc21⟩, dF fun hts => ?_⟩
    have hts : ts.length ≤ 6 := by omega
    have hall' : ∀ x ∈ pss.take (j + 1), x.length ≤ 6 := fun x hx => by
      rw [htk] at hx
      rcases List.mem_append.1 hx with h | h
      · exact hall x h
      · rw [List.mem_singleton.1 h]; exact hts
    have yes : agreeB c39 a c39 b most ts = true → ∀ w', Ch Non w20 w' → ∃ vk_1 : Nat, vk_1 < pss.length - j ∧ Ch Non w20 w' ∧ ∃ j' : Nat, IntKind.i64.wrap ((j : Int) + 1) = j' ∧ j' ≤ pss.length ∧ vk_1 = pss.length - j' ∧ (∀ x ∈ pss.take j', x.length ≤ 6) ∧ IntKind.i64.wrap (((((pss.take j).filter (agreeB c39 a c39 b most)).length : Nat) : Int) + 1) = (((pss.take j').filter (agreeB c39 a c39 b most)).length : Int) := fun hy w' hc => ⟨pss.length - (j + 1), by omega, hc, j + 1, by rw [wrap_id (by omega) (by omega)]; rfl, hlt, rfl, hall', by rw [hsn, hy, if_pos rfl, List.length_append, wrap_id (by omega) (by omega)]; rfl⟩
    have no : agreeB c39 a c39 b most ts = false → ∀ w', Ch Non w20 w' → ∃ vk_1 : Nat, vk_1 < pss.length - j ∧ Ch Non w20 w' ∧ ∃ j' : Nat, IntKind.i64.wrap ((j : Int) + 1) = j' ∧ j' ≤ pss.length ∧ vk_1 = pss.length - j' ∧ (∀ x ∈ pss.take j', x.length ≤ 6) ∧ ((((pss.take j).filter (agreeB c39 a c39 b most)).length : Nat) : Int) = (((pss.take j').filter (agreeB c39 a c39 b most)).length : Int) := fun hy w' hc => ⟨pss.length - (j + 1), by omega, hc, j + 1, by rw [wrap_id (by omega) (by omega)]; rfl, hlt, rfl, hall', by rw [hsn, hy, if_neg (by simp), List.append_nil]⟩
    have hU21 := hU20.keepN hc21
    have hV21 := hV20.keepN hc21
    refine ⟨fun w' => Ch Non w21 w', fun w22 e22 => ⟨Ch.drew e22, _, _, _, _, _, _, _, ⟨fun w' k => (hU21.keepN k).cell 0 rfl, fun w' k => (hU21.keepN k).cell 1 rfl, fun w' k => (hU21.keepN k).cell 2 rfl, fun w' k => (hU21.keepN k).cell 3 rfl, fun w' k => (hU21.keepN k).cell 4 rfl, fun w' k => (hU21.keepN k).cell 5 rfl, fun w' k => (hU21.keepN k).cell 6 rfl⟩, ⟨by omega, by omega⟩, _, _, _, fun w' k => hcell Non w' (hc21.andN k) (fun _ _ _ => id), ?_⟩⟩
    have hd22 : Ch Non w21 w22 := Ch.drew e22
    refine step_call (rGen_spec mX (hiv.keepN (hc21.andN hd22)) (IV.nil w22 Non) (by omega) (by simp) most true) ?_
    rintro v w25 hR25
    have hc25 := hR25.ch
    obtain ⟨u25, rfl, hu25⟩ := hR25.say
    have hu25' := hu25
    obtain ⟨o25, c25, rfl, _⟩ := hu25
    have hc2125 := hd22.andN hc25
    have hV25 := hV21.keepN hc2125
    have hc2025 := hc21.andN hc2125
    refine ⟨_, _, _, _, rfl, hc2125, fun w' => Ch Non w25 w', fun w26 e26 => ⟨Ch.drew e26, _, _, _, _, _, _, _, ⟨fun w' k => (hV25.keepN k).cell 0 rfl, fun w' k => (hV25.keepN k).cell 1 rfl, fun w' k => (hV25.keepN k).cell 2 rfl, fun w' k => (hV25.keepN k).cell 3 rfl, fun w' k => (hV25.keepN k).cell 4 rfl, fun w' k => (hV25.keepN k).cell 5 rfl, fun w' k => (hV25.keepN k).cell 6 rfl⟩, ⟨by omega, by omega⟩, _, _, _, fun w' k => hcell Non w' (hc2025.andN k) (fun _ _ _ => id), ?_⟩⟩
    have hd26 : Ch Non w25 w26 := Ch.drew e26
    refine step_call (rGen_spec mY (hiv.keepN (hc2025.andN hd26)) (IV.nil w26 Non) (by omega) (by simp) most true) ?_
    rintro v w29 hR29
    have hc29 := hR29.ch
    obtain ⟨u29, rfl, hu29⟩ := hR29.say
    have hu29' := hu29
    obtain ⟨o29, c29, rfl, _⟩ := hu29
    have hc2529 := hd26.andN hc29
    have hc2029 := hc2025.andN hc2529
    have tk : tkB true ([] : List Int) = bestT := rfl
    rw [tk] at hu25' hu29'
    refine ⟨_, _, _, _, rfl, hc2529, bT fun k1 => ⟨bT fun k2 => ?_, bF fun k2 => no (by unfold agreeB; rw [decide_eq_false k2]; simp) _ hc2029⟩, bF fun k1 => no (by unfold agreeB; rw [decide_eq_false k1]; rfl) _ hc2029⟩
    rw [tk, if_pos k1, if_pos k2]
    rw [if_pos k1] at hu25'
    rw [if_pos k2] at hu29'
    refine step_call (IntsT.ints39_spec (hu25'.keepN hc2529) hu29') ?_
    rintro v w30 ⟨rfl, hc30⟩
    have hc2030 := hc2029.andN hc30
    exact ⟨_, rfl, dT fun he => yes (by unfold agreeB; rw [decide_eq_true k1, decide_eq_true he]; rfl) _ hc2030, dF fun he => no (by unfold agreeB; rw [decide_eq_true k1, decide_eq_false he]; rfl) _ hc2030⟩
  · have hje : j = pss.length := by omega
    subst hje
    rw [List.take_length] at hall ⊢
    refine step_call (Agree_spec (hX20.keepN hc21) (hY20.keepN hc21) most (hp20.keepN hc21) (by omega) (fun ts h => by have := hall ts h; omega)) ?_
    rintro v w31 ⟨rfl, hc31⟩
    refine ⟨_, _, rfl, step_call (Changes_no w31 _) ?_⟩
    rintro v w32 ⟨rfl, rfl⟩
    refine ⟨_, _, _, _, rfl, step_call (Distance_on w32 ab) ?_⟩
    rintro v w33 ⟨rfl, rfl⟩
    refine ⟨_, _, rfl, step_call (Blend_nn w33 0 1) ?_⟩
    rintro v w34 ⟨rfl, rfl⟩
    exact ⟨_, _, rfl, iteT (by simp) (iteT rfl (iteT rfl (iteT rfl ⟨rfl, (hc020.andN hc21).andN hc31⟩)))⟩
end Go.Proofs.YtbadkcnemcnhfaaGreatDoor.Lens
