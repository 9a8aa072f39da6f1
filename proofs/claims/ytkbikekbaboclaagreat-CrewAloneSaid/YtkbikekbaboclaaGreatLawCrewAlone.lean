/- The Go function CrewAlone, called with whatever arguments that can be read as data, returns true, and its arguments read as before. -/
import Derived.Test.YtkbikekbaboclaaGreatRows
import Derived.Test.YtkbikekbaboclaaGreatCrewX
import Derived.WalkKit
import Derived.ProofKit
import Derived.OpenShut
import Derived.ShutString
import Derived.ChangeOld
import Derived.Below
import Derived.SizedLaws
namespace Go.Proofs.YtkbikekbaboclaaGreat.LawCrewAlone
open Go.ChangeShapes Go.WideShapes Go.ChangeAt Go.RowKit Go.Proofs.YtkbikekbaboclaaGreat.V
open Go.ChangeMaps (open_string shut_string)
set_option linter.unusedVariables false
theorem own : ownKnob Tryz.prog.godebug = none := by kernel_rfl
theorem laidOut : laidOutB Tryz.prog = true := by kernel_rfl
set_option maxRecDepth 100000 in
theorem lifted (os : Os) (started : os.Started) (H : Type) (enc : TypeId × Value → H) :
    ReturnsInHanded {} Tryz.checked os 4 .any (Rows.crewAloneSpec.pre6 enc Tryz.prog Tryz.f4 Rows.crewAloneRow.domain false) (Rows.crewAloneSpec.post enc Tryz.prog Tryz.f4 false true false false) := by
  refine returnsInHanded_of_change_sized (C := Tryz.checked) own started (by kernel_rfl) Tryz.func4
    (ChangeSpec.witness6 (enc := enc) (C := Tryz.checked) false ⟨#[], #[.string ByteArray.empty, .agg #[.int .i64 0, .int .i64 0, .slice none 0 0, .int .i64 0, .slice none 0 0]], []⟩ 8 (by kernel_rfl) (by kernel_rfl) (by kernel_rfl) (by kernel_rfl)) ?_
  intro W base args ds gs before hval0 hW hcnd hsz0 _
  have hsz : (DataW.weightsEach Tryz.prog (Tryz.f4.params.toList ++ Rows.crewAloneSpec.plain.varTypes Tryz.prog) (ds ++ gs)).all (· ≤ reachBytes) = true := hsz0
  have hval : ∀ (j : Nat) t v, Tryz.f4.params[j]? = some t → args[j]? = some v → Value.okWide Tryz.prog W .any base t v := hval0
  have hW' := hW
  obtain ⟨p, q, hA0, hV, rfl, hfz, hnd⟩ := hW
  have hA : DataW.TrodAll enc Tryz.prog W 0 (fun _ => true) true Tryz.f4.params.toList args.toList ds p := hA0
  rw [Tryz.params4] at hA hval hsz
  obtain ⟨v0, vs0, d0, ds0, p0, q0, hargs, rfl, rfl, h0, r0⟩ := trodAll_cons hA
  obtain ⟨v1, vs1, d1, ds1, p1, q1, rfl, rfl, rfl, h1, r1⟩ := trodAll_cons r0
  obtain ⟨rfl, rfl, rfl⟩ := trodAll_nil r1
  obtain rfl : args = #[v0, v1] := by cases args; simp_all
  obtain ⟨rfl, rfl⟩ := trodVars_none hV
  have k0 := h0
  have lt0 : ∀ x ∈ p0, x.block < W.heap.size := by obtain ⟨m, hm⟩ := k0; exact DataW.trod_lt m _ _ _ hm
  have dw0 := weightsEach_at _ _ 0 9 d0 rfl rfl hsz
  have dc0 : DatC Tryz.prog W 9 v0.cells.toList := by obtain ⟨m, hm⟩ := k0; exact ⟨H, enc, m, d0, p0, hm, dw0⟩
  obtain ⟨x0, rfl⟩ := okWide_string Tryz.underlying9 (hval 0 9 v0 rfl rfl)
  have sz0 : x0.size ≤ 140737488351232 := by obtain ⟨s, hs, hz⟩ := dc0.string Tryz.underlying9; simp [Value.cells] at hs; subst hs; exact hz
  have k1 := h1
  have lt1 : ∀ x ∈ p1, x.block < W.heap.size := by obtain ⟨m, hm⟩ := k1; exact DataW.trod_lt m _ _ _ hm
  have dw1 := weightsEach_at _ _ 1 37 d1 rfl rfl hsz
  have dc1 : DatC Tryz.prog W 37 v1.cells.toList := by obtain ⟨m, hm⟩ := k1; exact ⟨H, enc, m, d1, p1, hm, dw1⟩
  obtain ⟨cs1, rfl, _, _⟩ := (show ∃ cs, v1 = .agg cs ∧ cs.size = Tryz.prog.cellsOf 37 ∧ Row.okWide Tryz.prog W .any base 37 cs from by have hv := hval 1 37 v1 rfl rfl; simp only [Value.okWide, Tryz.underlying37] at hv; exact hv)
  clear hA0 hval0 hsz0 hsz
  refine (Crew.CrewAlone_true W x0 sz0 cs1.toList dc1).mono fun e W' he => ?_
  cases e with
  | panicked c => exact he.elim
  | outgrown => exact he.elim
  | returned v =>
    obtain ⟨hv, hch⟩ := he
    subst hv
    have bel : Below W.heap.size W W' := hch.below (Nat.le_refl _) (fun _ _ h => h)
    exact ⟨_, rfl, _, _, _, [], _, [], hW', trodAll_mk1 (shut_bool Tryz.underlying4 _), (trodAll_cons_mk (Below.trod laidOut (by kernel_rfl) (of_decide_eq_true (by kernel_rfl)) k0 bel lt0) (trodAll_cons_mk (Below.trod laidOut (by kernel_rfl) (of_decide_eq_true (by kernel_rfl)) k1 bel lt1) trodAll_mk0)), rfl, bel.frame _, fun h => by cases h⟩
theorem over : Rows.crewAloneRow.holds Tryz.pinned (OpenSpec.ofChange Rows.crewAloneSpec) :=
  OpenClaim.holds_of_wide 4 Tryz.f4 rfl rfl rfl rfl rfl rfl rfl ⟨rfl, rfl, rfl, rfl, rfl⟩ rfl rfl rfl rfl rfl (by kernel_rfl) Tryz.func4 (by kernel_rfl)
    (of_decide_eq_true (by kernel_rfl)) (by unfold Func.isWrapper; first | (rw [if_pos (by decide +kernel)]; kernel_rfl) | (rw [if_neg (by decide +kernel)]; exact ⟨rfl, rfl⟩))
    (fun os started H enc _ => lifted os started H enc)
theorem proved : Rows.CrewAloneSaid := over
end Go.Proofs.YtkbikekbaboclaaGreat.LawCrewAlone
namespace Go.Proofs.YtkbikekbaboclaaGreat
/-- The statement, under a short name, for the claim. -/
theorem crewAlone_holds : Rows.CrewAloneSaid := LawCrewAlone.proved
end Go.Proofs.YtkbikekbaboclaaGreat
#print axioms Go.Proofs.YtkbikekbaboclaaGreat.crewAlone_holds
