/- LensBetween's contract: of all shapes, weights and numbers the Go function answers true and leaves what was there; the conditions stand in each theorem. -/
import Derived.Test.YtbadkcnemcnhfaaGreatDoorLensJ
set_option linter.unusedVariables false
set_option linter.unusedSimpArgs false
namespace Go.Proofs.YtbadkcnemcnhfaaGreatDoor.Lens
open Go Go.Proofs Go.Proofs.YtbadkcnemcnhfaaGreatDoor.V Go.Proofs.YtbadkcnemcnhfaaGreatDoor.Vc Go.Proofs.YtbadkcnemcnhfaaGreatDoor.Conf Go.Proofs.YtbadkcnemcnhfaaGreatDoor.Brain Go.Proofs.YtbadkcnemcnhfaaGreatDoor.Num Go.Proofs.YtbadkcnemcnhfaaGreatDoor.Stp Go.Proofs.YtbadkcnemcnhfaaGreatDoor.Gen Go.Proofs.YtbadkcnemcnhfaaGreatDoor.RefM Go.RowKit

theorem Of_lawB (w : World) (c : CfD) (wt : ByteArray) : Calls Tryz.prog i_brain_Of #[.agg (cfE c).toArray, .string wt] w (Ret fun v w' => Ch Non w w' ∧ ((∃ b, v = .tuple #[.pointer (some ⟨b, 0, none⟩), .int .i64 0] ∧ BrK w' b c wt) ∨ (∃ e : Int, v = .tuple #[.pointer none, .int .i64 e] ∧ e ≠ 0))) := by
  refine step_call (brOf_spec w c wt) ?_
  rintro v w' ⟨hc, h1, h2, h3⟩
  refine ⟨hc, ?_⟩
  by_cases ok : okC c
  · by_cases hs : (wt.size : Int) = allN c
    · obtain ⟨b, rfl, hb, hr⟩ := h1 ⟨ok, hs⟩
      exact .inl ⟨b, rfl, hr, ok, hs⟩
    · exact .inr ⟨5, h2 ⟨ok, hs⟩, by decide⟩
  · exact .inr ⟨1, h3 ok, by decide⟩
theorem u64_ge' (z : Int) : 0 ≤ IntKind.u64.wrap z ∧ IntKind.u64.wrap z < 18446744073709551616 := by
  have : IntKind.u64.wrap z = z % 18446744073709551616 := by simp [IntKind.wrap, IntKind.bits, IntKind.signed]
  rw [this]; omega
theorem u64_id' {z : Int} (h : 0 ≤ z ∧ z < 18446744073709551616) : IntKind.u64.wrap z = z := by
  have : IntKind.u64.wrap z = z % 18446744073709551616 := by simp [IntKind.wrap, IntKind.bits, IntKind.signed]
  rw [this]; omega
theorem agree_self {c : CfD} {wt : ByteArray} (ok : okC c) (h : 2 ≤ c.context) : [[0], [1]].filter (agreeB c wt c wt 1) = [[0], [1]] := by
  have key : ∀ t : Int, t = 0 ∨ t = 1 → agreeB c wt c wt 1 [t] = true := fun t ht => by
    have hk : checkP c 1 [t] = 0 := by
      have hv := ok.1
      unfold checkP
      rw [if_neg (by simp), if_neg (by simp; omega), if_neg (by simp; omega)]
    unfold agreeB
    rw [hk]; simp
  rw [List.filter_eq_self]
  intro x hx
  rcases List.mem_cons.1 hx with rfl | hx
  · exact key 0 (.inl rfl)
  · rcases List.mem_cons.1 hx with rfl | hx
    · exact key 1 (.inr rfl)
    · cases hx
set_option maxRecDepth 100000 in
theorem LensBetween_true (W : World) (cs : List Value) (h0 : DatC Tryz.prog W t_api_Config cs) (a : ByteArray) (hsa : a.size ≤ 140737488351232) (b : ByteArray) (hsb : b.size ≤ 140737488351232) (num : Int) (hn0 : (Lit.int .i64 num).wf = true) (den : Int) (hd0 : (Lit.int .i64 den).wf = true) :
    Calls Tryz.prog i_coadjutorlaw39_LensBetween #[.agg cs.toArray, .string a, .string b, .int .i64 num, .int .i64 den] W (Ret fun v w' => v = .bool true ∧ Ch Non W w') := by
  obtain ⟨c, rfl⟩ := conf_dat h0
  refine coadjutorlaw39_LensBetween.calls _ _ _ _ _ _ _ _ _ _ ?_
  unfold coadjutorlaw39_LensBetween.vc
  intro w1 e1
  have hC : Blk w1 W.heap.size (cfE c) t_api_Config := Blk.new e1
  have hc01 : Ch Non W w1 := Ch.alloc e1
  refine step_call (awake_spec w1) ?_
  rintro v w2 ⟨rfl, hc2⟩
  have hC2 := hC.keepN hc2
  have hc02 := hc01.andN hc2
  refine ⟨_, rfl, iteF rfl ⟨fun _ => ⟨rfl, hc02⟩, dF fun g1 => ⟨_, _, _, _, _, _, ⟨hC2.cell 0 rfl, hC2.cell 1 rfl, hC2.cell 2 rfl, hC2.cell 3 rfl, hC2.cell 4 rfl, hC2.cell 5 rfl⟩, step_call (Of_lawB w2 c a) ?_⟩⟩⟩
  rintro v w3 ⟨hc3, hy3⟩
  have hC3 := hC2.keepN hc3
  have hc03 := hc02.andN hc3
  rcases hy3 with ⟨ab, rfl, hX⟩ | ⟨e, rfl, he⟩
  case inr =>
    refine ⟨_, _, rfl, _, _, _, _, _, _, ⟨hC3.cell 0 rfl, hC3.cell 1 rfl, hC3.cell 2 rfl, hC3.cell 3 rfl, hC3.cell 4 rfl, hC3.cell 5 rfl⟩, step_call (Of_lawB w3 c b) ?_⟩
    rintro v w4 ⟨hc4, hy4⟩
    have hne : (e != (0 : Int)) = true := by simpa using he
    rcases hy4 with ⟨bb, rfl, hY⟩ | ⟨e', rfl, he'⟩
    · exact ⟨_, _, rfl, iteT hne ⟨rfl, hc03.andN hc4⟩⟩
    · exact ⟨_, _, rfl, iteT hne ⟨rfl, hc03.andN hc4⟩⟩
  refine ⟨_, _, rfl, _, _, _, _, _, _, ⟨hC3.cell 0 rfl, hC3.cell 1 rfl, hC3.cell 2 rfl, hC3.cell 3 rfl, hC3.cell 4 rfl, hC3.cell 5 rfl⟩, step_call (Of_lawB w3 c b) ?_⟩
  rintro v w4 ⟨hc4, hy4⟩
  have hC4 := hC3.keepN hc4
  have hc04 := hc03.andN hc4
  have hX4 := hX.keepN hc4
  rcases hy4 with ⟨bb, rfl, hY⟩ | ⟨e, rfl, he⟩
  case inr => exact ⟨_, _, rfl, iteF rfl (iteT (by simpa using he) ⟨rfl, hc04⟩)⟩
  have ok := hX.ok
  have hza := hX.sz
  have hzb := hY.sz
  -- the numbers
  have hu := u64_ge' den
  have hv := u64_ge' num
  generalize IntKind.u64.wrap den = ud at hu
  generalize IntKind.u64.wrap num = un at hv
  have m1 := Int.tmod_nonneg (a := ud) 1000 hu.1
  have m2 := Int.tmod_lt_of_pos ud (show (0 : Int) < 1000 by omega)
  generalize Int.tmod ud 1000 = md at m1 m2
  rw [wrap_id (x := md) (by omega) (by omega), wrap_id (x := 1 + md) (by omega) (by omega), wrap_id (x := 1 + md + 1) (by omega) (by omega), u64_id' (z := 1 + md + 1) (by omega)]
  have m3 := Int.tmod_nonneg (a := un) (1 + md + 1) hv.1
  have m4 := Int.tmod_lt_of_pos un (show (0 : Int) < 1 + md + 1 by omega)
  generalize Int.tmod un (1 + md + 1) = mn at m3 m4
  rw [wrap_id (x := mn) (by omega) (by omega)]
  have hk : okND mn (1 + md) := ⟨by omega, by omega, by omega, by omega⟩
  refine ⟨_, _, rfl, iteF rfl (iteF rfl ⟨by omega, by omega, step_call (Blend_spec hX4 hY mn (1 + md)) ?_⟩)⟩
  rintro v w5 ⟨hc5, _, q2⟩
  obtain ⟨zb, rfl, hZ⟩ := q2 rfl hk
  have hX5 := hX4.keepN hc5
  have hY5 := hY.keepN hc5
  refine ⟨_, _, rfl, iteF rfl (step_call (Distance_spec hX5 hZ) ?_)⟩
  rintro v w6 ⟨hc6, _, p1⟩
  rw [p1 rfl]
  refine ⟨_, _, rfl, step_call (Distance_spec (hZ.keepN hc6) (hY5.keepN hc6)) ?_⟩
  rintro v w7 ⟨hc7, _, p2⟩
  rw [p2 rfl]
  have hc57 := hc6.andN hc7
  refine ⟨_, _, rfl, step_call (Distance_spec (hX5.keepN hc57) (hY5.keepN hc57)) ?_⟩
  rintro v w8 ⟨hc8, _, p3⟩
  rw [p3 rfl]
  have hc58 := hc57.andN hc8
  have hX8 := hX5.keepN hc58
  refine ⟨_, _, rfl, step_call (Changes_spec hX8 hX8) ?_⟩
  rintro v w9 ⟨hc9, _, p4⟩
  obtain ⟨o, cp, rfl, _⟩ := p4 rfl
  have hX9 := hX8.keepN hc9
  have hc09 := ((hc04.andN hc5).andN hc58).andN hc9
  refine ⟨_, _, _, _, rfl, fun w10 e10 w11 e11 w12 e12 => ?_⟩
  have hP := Blk.new e10
  have hQ := Blk.new e11
  have hR := Blk.new e12
  have hc910 : Ch Non w9 w10 := Ch.alloc e10
  have hc1011 : Ch Non w10 w11 := Ch.alloc e11
  have hc1112 : Ch Non w11 w12 := Ch.alloc e12
  have hP12 := (hP.keepN hc1011).keepN hc1112
  have hQ12 := hQ.keepN hc1112
  have hc912 := (hc910.andN hc1011).andN hc1112
  have hrv : RV w12 (.slice (some ⟨w11.heap.size, 0, none⟩) 2 2) [[0], [1]] (fun _ => True) := by
    refine ⟨_, _, [.slice (some ⟨w9.heap.size, 0, none⟩) 1 1, .slice (some ⟨w10.heap.size, 0, none⟩) 1 1], rfl, Nat.le_refl _, by decide, hR.rd.mono (fun _ _ _ => trivial), ?_⟩
    exact .cons ⟨_, _, rfl, Nat.le_refl _, by decide, Rd.mono (hP12.rd) (fun _ _ _ => trivial)⟩ (.cons ⟨_, _, rfl, Nat.le_refl _, by decide, Rd.mono (hQ12.rd) (fun _ _ _ => trivial)⟩ .nil)
  refine step_call (Agree_spec (hX9.keepN hc912) (hX9.keepN hc912) 1 hrv (by simp) (fun ts hts => ?_)) ?_
  · rcases List.mem_cons.1 hts with rfl | hts
    · simp
    · rcases List.mem_cons.1 hts with rfl | hts
      · simp
      · cases hts
  rintro v w13 ⟨rfl, hc13⟩
  have hC13 := (((hC4.keepN hc5).keepN hc58).keepN hc9).keepN (hc912.andN hc13)
  have hc013 := hc09.andN (hc912.andN hc13)
  have hsum := blend_sum hk (Vecs.numsB a) (Vecs.numsB b) (by rw [Vecs.numsB_len, Vecs.numsB_len]; omega) (numsB_8 a) (numsB_8 b)
  have hzz : Vecs.numsB ⟨(blendL mn (1 + md) (Vecs.numsB a) (Vecs.numsB b)).toArray⟩ = (blendL mn (1 + md) (Vecs.numsB a) (Vecs.numsB b)).map fun u => IntKind.i8.wrap (u.toNat : Int) := by unfold Vecs.numsB; simp
  rw [hzz, hsum]
  have hsl := sumD_le (Vecs.numsB a) (Vecs.numsB b) (numsB_8 a) (numsB_8 b)
  have hsz := size_le hX
  rw [Vecs.numsB_len] at hsl
  refine ⟨_, _, rfl, iteT rfl (iteT rfl (iteT rfl (iteT (by rw [wrap_id (by omega) (by omega)]; simp) (iteT rfl (iteT (by rw [chL_self]; rfl) (iteT rfl ⟨fun _ => ⟨rfl, hc013⟩, fun hne => ⟨_, hC13.cell 5 rfl, ?_, hc013⟩⟩))))))⟩
  by_cases hx : 2 ≤ c.context
  · rw [agree_self ok hx] at hne
    simp at hne
  · rw [decide_eq_true (by omega)]
end Go.Proofs.YtbadkcnemcnhfaaGreatDoor.Lens
