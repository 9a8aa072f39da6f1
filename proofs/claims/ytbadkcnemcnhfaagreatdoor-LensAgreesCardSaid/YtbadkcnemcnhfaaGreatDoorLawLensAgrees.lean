/- The Go function LensAgrees, called with whatever arguments that can be read as data, returns true, and its arguments read as before. -/
import Derived.Test.YtbadkcnemcnhfaaGreatDoorCards
import Derived.Test.YtbadkcnemcnhfaaGreatDoorTie
import Derived.LaidMore
import Derived.Lay
import Derived.SevenTiedAt
import Derived.Stop.Joined
import Derived.Test.YtbadkcnemcnhfaaGreatDoorRows
import Derived.Test.YtbadkcnemcnhfaaGreatDoorLensA
import Derived.WalkKit
import Derived.ProofKit
import Derived.OpenShut
import Derived.ShutString
import Derived.ChangeOld
import Derived.Below
import Derived.SizedLaws
namespace Go.Proofs.YtbadkcnemcnhfaaGreatDoor.LawLensAgrees
open Go.ChangeShapes Go.WideShapes Go.ChangeAt Go.RowKit Go.Proofs.YtbadkcnemcnhfaaGreatDoor.V
open Go.ChangeMaps (open_string shut_string)
set_option linter.unusedVariables false
theorem own : ownKnob Tryz.prog.godebug = none := by kernel_rfl
theorem laidOut : laidOutB Tryz.prog = true := by kernel_rfl
set_option maxRecDepth 100000 in
theorem lifted (os : Os) (started : os.Started) (H : Type) (enc : TypeId × Value → H) :
    ReturnsInHanded {} Tryz.checked os 3 .any (fun w args => (Rows.lensAgreesSpec.pre enc Tryz.prog Tryz.f3 Rows.lensAgreesRow.domain false w args ∧ laidMetH Tryz.prog Rows.lensAgreesRow.laid w) ∧ sizedMet enc Tryz.prog Tryz.f3 (OpenSpec.ofChange Rows.lensAgreesSpec) false w args) (Rows.lensAgreesSpec.post enc Tryz.prog Tryz.f3 false true false false) := by
  refine returnsInHanded_of_change_and (C := Tryz.checked) (X := (fun w _ => laidMetH Tryz.prog Rows.lensAgreesRow.laid w)) (fun _ _ _ hh h => h.of_heap hh) own started (by kernel_rfl) Tryz.func3
    (ChangeSpec.witness_shaped (enc := enc) (C := Tryz.checked) (os := os) (X := (fun w _ => laidMetH Tryz.prog Rows.lensAgreesRow.laid w)) false (World.laidAll Tryz.prog os Rows.lensAgreesRow.laid) #[.string ByteArray.empty, .string ByteArray.empty, .int .i64 0, .slice none 0 0, .agg #[.int .i64 0, .int .i64 0]] 8 (World.laidAll_os _ _ _)
      (World.shaped_of_ZipB (by kernel_rfl) (by kernel_rfl)) (by kernel_rfl) (by kernel_rfl) (by kernel_rfl)
      (by rw [MakeChecks.laidMetH_plain _ _ _ (by kernel_rfl)]; exact laidMet_laidAll _ (by kernel_rfl) (by kernel_rfl))) ?_
  intro W base args ds gs before hval0 hW hcnd hsz0 hL _
  have hsz : (DataW.weightsEach Tryz.prog (Tryz.f3.params.toList ++ Rows.lensAgreesSpec.plain.varTypes Tryz.prog) (ds ++ gs)).all (· ≤ reachBytes) = true := hsz0
  have hval : ∀ (j : Nat) t v, Tryz.f3.params[j]? = some t → args[j]? = some v → Value.okWide Tryz.prog W .any base t v := hval0
  have hW' := hW
  obtain ⟨p, q, hA0, hV, rfl, hfz, hnd⟩ := hW
  have hA : DataW.TrodAll enc Tryz.prog W 0 (fun _ => true) true Tryz.f3.params.toList args.toList ds p := hA0
  rw [Tryz.params3] at hA hval hsz
  obtain ⟨v0, vs0, d0, ds0, p0, q0, hargs, rfl, rfl, h0, r0⟩ := trodAll_cons hA
  obtain ⟨v1, vs1, d1, ds1, p1, q1, rfl, rfl, rfl, h1, r1⟩ := trodAll_cons r0
  obtain ⟨v2, vs2, d2, ds2, p2, q2, rfl, rfl, rfl, h2, r2⟩ := trodAll_cons r1
  obtain ⟨v3, vs3, d3, ds3, p3, q3, rfl, rfl, rfl, h3, r3⟩ := trodAll_cons r2
  obtain ⟨v4, vs4, d4, ds4, p4, q4, rfl, rfl, rfl, h4, r4⟩ := trodAll_cons r3
  obtain ⟨rfl, rfl, rfl⟩ := trodAll_nil r4
  obtain rfl : args = #[v0, v1, v2, v3, v4] := by cases args; simp_all
  obtain ⟨rfl, rfl⟩ := trodVars_none hV
  have k0 := h0
  have lt0 : ∀ x ∈ p0, x.block < W.heap.size := by obtain ⟨m, hm⟩ := k0; exact DataW.trod_lt m _ _ _ hm
  have dw0 := weightsEach_at _ _ 0 9 d0 rfl rfl hsz
  have dc0 : DatC Tryz.prog W 9 v0.cells.toList := by obtain ⟨m, hm⟩ := k0; exact ⟨H, enc, m, d0, p0, hm, dw0⟩
  obtain ⟨x0, rfl⟩ := okWide_string Tryz.underlying9 (hval 0 9 v0 rfl rfl)
  have sz0 : x0.size ≤ 140737488351232 := by obtain ⟨s, hs, hz⟩ := dc0.string Tryz.underlying9; simp [Value.cells] at hs; subst hs; exact hz
  have k1 := h1
  have lt1 : ∀ x ∈ p1, x.block < W.heap.size := by obtain ⟨m, hm⟩ := k1; exact DataW.trod_lt m _ _ _ hm
  have dw1 := weightsEach_at _ _ 1 9 d1 rfl rfl hsz
  have dc1 : DatC Tryz.prog W 9 v1.cells.toList := by obtain ⟨m, hm⟩ := k1; exact ⟨H, enc, m, d1, p1, hm, dw1⟩
  obtain ⟨x1, rfl⟩ := okWide_string Tryz.underlying9 (hval 1 9 v1 rfl rfl)
  have sz1 : x1.size ≤ 140737488351232 := by obtain ⟨s, hs, hz⟩ := dc1.string Tryz.underlying9; simp [Value.cells] at hs; subst hs; exact hz
  have k2 := h2
  have lt2 : ∀ x ∈ p2, x.block < W.heap.size := by obtain ⟨m, hm⟩ := k2; exact DataW.trod_lt m _ _ _ hm
  have dw2 := weightsEach_at _ _ 2 3 d2 rfl rfl hsz
  have dc2 : DatC Tryz.prog W 3 v2.cells.toList := by obtain ⟨m, hm⟩ := k2; exact ⟨H, enc, m, d2, p2, hm, dw2⟩
  obtain ⟨x2, rfl⟩ := okWide_int Tryz.underlying3 (hval 2 3 v2 rfl rfl)
  have wf2 : (Lit.int .i64 x2).wf = true := by obtain ⟨n, hn, hw⟩ := dc2.int Tryz.underlying3; simp [Value.cells] at hn; subst hn; exact hw
  have k3 := h3
  have lt3 : ∀ x ∈ p3, x.block < W.heap.size := by obtain ⟨m, hm⟩ := k3; exact DataW.trod_lt m _ _ _ hm
  have dw3 := weightsEach_at _ _ 3 22 d3 rfl rfl hsz
  have dc3 : DatC Tryz.prog W 22 v3.cells.toList := by obtain ⟨m, hm⟩ := k3; exact ⟨H, enc, m, d3, p3, hm, dw3⟩
  obtain ⟨a3, n3, c3, rfl⟩ := okWide_slice Tryz.underlying22 (hval 3 22 v3 rfl rfl)
  have k4 := h4
  have lt4 : ∀ x ∈ p4, x.block < W.heap.size := by obtain ⟨m, hm⟩ := k4; exact DataW.trod_lt m _ _ _ hm
  have dw4 := weightsEach_at _ _ 4 24 d4 rfl rfl hsz
  have dc4 : DatC Tryz.prog W 24 v4.cells.toList := by obtain ⟨m, hm⟩ := k4; exact ⟨H, enc, m, d4, p4, hm, dw4⟩
  obtain ⟨cs4, rfl, _, _⟩ := (show ∃ cs, v4 = .agg cs ∧ cs.size = Tryz.prog.cellsOf 24 ∧ Row.okWide Tryz.prog W .any base 24 cs from by have hv := hval 4 24 v4 rfl rfl; simp only [Value.okWide, Tryz.underlying24] at hv; exact hv)
  clear hA0 hval0 hsz0 hsz
  have hL0 : laidMetH Tryz.prog Rows.lensAgreesRow.laid W := hL
  rw [MakeChecks.laidMetH_plain _ _ _ (by kernel_rfl), show Rows.lensAgreesRow.laid = [("math/bits.deBruijn32tab", Rows.laid_math_bits_deBruijn32tab), ("math/bits.deBruijn64tab", Rows.laid_math_bits_deBruijn64tab), ("internal/strconv.uint64pow10", Lib.tabData .u64 Lib.pow10Tab)] from by kernel_rfl] at hL0
  have hTab : Lib.TabIs Tryz.prog W "internal/strconv.uint64pow10" .u64 Lib.pow10Tab := Lib.tabIs_of_head (g := 0) (t := 155) (e := 130) (n := 20) (by kernel_rfl) (by kernel_rfl) (by kernel_rfl) (by kernel_rfl) (by kernel_rfl) (by kernel_rfl) hL0.tail.tail
  refine (Lens.LensAgrees_true W x0 sz0 x1 sz1 x2 wf2 a3 n3 c3 dc3 cs4.toList dc4 hTab).mono fun e W' he => ?_
  cases e with
  | panicked c => exact he.elim
  | outgrown => exact he.elim
  | returned v =>
    obtain ⟨hv, hch⟩ := he
    subst hv
    have bel : Below W.heap.size W W' := hch.below (Nat.le_refl _) (fun _ _ h => h)
    exact ⟨_, rfl, _, _, _, [], _, [], hW', trodAll_mk1 (shut_bool Tryz.underlying4 _), (trodAll_cons_mk (Below.trod laidOut (by kernel_rfl) (of_decide_eq_true (by kernel_rfl)) k0 bel lt0) (trodAll_cons_mk (Below.trod laidOut (by kernel_rfl) (of_decide_eq_true (by kernel_rfl)) k1 bel lt1) (trodAll_cons_mk (Below.trod laidOut (by kernel_rfl) (of_decide_eq_true (by kernel_rfl)) k2 bel lt2) (trodAll_cons_mk (Below.trod laidOut (by kernel_rfl) (of_decide_eq_true (by kernel_rfl)) k3 bel lt3) (trodAll_cons_mk (Below.trod laidOut (by kernel_rfl) (of_decide_eq_true (by kernel_rfl)) k4 bel lt4) trodAll_mk0))))), rfl, bel.frame _, fun h => by cases h⟩
theorem over : Rows.lensAgreesRow.holds Tryz.pinned (OpenSpec.ofChange Rows.lensAgreesSpec) :=
  OpenClaim.holds_of_wide 3 Tryz.f3 rfl rfl rfl rfl rfl rfl rfl ⟨rfl, rfl, rfl, rfl, rfl⟩ rfl rfl rfl rfl rfl (by kernel_rfl) Tryz.func3 (by kernel_rfl)
    (of_decide_eq_true (by kernel_rfl)) (by unfold Func.isWrapper; first | (rw [if_pos (by decide +kernel)]; kernel_rfl) | (rw [if_neg (by decide +kernel)]; exact ⟨rfl, rfl⟩))
    (fun os started H enc _ => lifted os started H enc)
theorem proved : Rows.LensAgreesSaid := over
theorem card : Rows.LensAgreesCardSaid :=
  Claim7.holds_tied_plain_at .later [] [.data, .data, .data] true (true, "2f28e4f3f50b6e0a9eeb2879545533e6792d10ad45c3f9574625ed7f50dfb080") false over (fun _ h => by cases h) (by kernel_rfl) (fun _ h => by cases h) lensAgrees_row_tie rfl ⟨rfl, rfl⟩ (by kernel_rfl) rfl
    (fun f fn hf hfn => by
      obtain rfl : f = 3 := Option.some.inj ((show Tryz.prog.funcNamed "coadjutor/coadjutorlaw39.LensAgrees" = some 3 by kernel_rfl).symm.trans hf) |>.symm
      obtain rfl : fn = Tryz.f3 := (Option.some.inj (Tryz.func3.symm.trans hfn)).symm
      exact ⟨by kernel_rfl, fun j t ht => by
        rw [Tryz.params3] at ht
        have hm : t ∈ [9, 9, 3, 22, 24] := by simpa using Array.mem_of_getElem? ht
        have hall : ([9, 9, 3, 22, 24].all fun u => !Tryz.prog.wantsStandIn u) = true := by kernel_rfl
        exact (show Tryz.prog.wantsStandIn t = false by simpa using List.all_eq_true.1 hall t hm)⟩)
    (by kernel_rfl)
end Go.Proofs.YtbadkcnemcnhfaaGreatDoor.LawLensAgrees
namespace Go.Proofs.YtbadkcnemcnhfaaGreatDoor
/-- The statement, under a short name, for the claim. -/
theorem lensAgrees_holds : Rows.LensAgreesCardSaid := LawLensAgrees.card
end Go.Proofs.YtbadkcnemcnhfaaGreatDoor
#print axioms Go.Proofs.YtbadkcnemcnhfaaGreatDoor.lensAgrees_holds
