/- The Go function ZoneApart, called with whatever arguments that can be read as data, returns true, and its arguments read as before. -/
import Derived.Test.YtpefegcdcojokaaRows
import Derived.Test.YtpefegcdcojokaaZoneL
import Derived.WalkKit
import Derived.ProofKit
import Derived.OpenShut
import Derived.ShutString
import Derived.ChangeOld
import Derived.Below
import Derived.SizedLaws
namespace Go.Proofs.Ytpefegcdcojokaa.LawZoneApart
open Go.ChangeShapes Go.WideShapes Go.ChangeAt Go.RowKit Go.Proofs.Ytpefegcdcojokaa.V
open Go.ChangeMaps (open_string shut_string)
set_option linter.unusedVariables false
theorem own : ownKnob Try.prog.godebug = none := by kernel_rfl
theorem laidOut : laidOutB Try.prog = true := by kernel_rfl
set_option maxRecDepth 100000 in
theorem lifted (os : Os) (started : os.Started) (H : Type) (enc : TypeId × Value → H) :
    ReturnsInHanded {} Try.checked os 7 .any (Rows.zoneApartSpec.pre6 enc Try.prog Try.f7 Rows.zoneApartRow.domain false) (Rows.zoneApartSpec.post enc Try.prog Try.f7 false true false false) := by
  refine returnsInHanded_of_change_sized (C := Try.checked) own started (by kernel_rfl) Try.func7
    (ChangeSpec.witness6 (enc := enc) (C := Try.checked) false ⟨#[], #[.slice none 0 0, .int .u8 0], []⟩ 8 (by kernel_rfl) (by kernel_rfl) (by kernel_rfl) (by kernel_rfl)) ?_
  intro W base args ds gs before hval0 hW hcnd hsz0 _
  have hsz : (DataW.weightsEach Try.prog (Try.f7.params.toList ++ Rows.zoneApartSpec.plain.varTypes Try.prog) (ds ++ gs)).all (· ≤ reachBytes) = true := hsz0
  have hval : ∀ (j : Nat) t v, Try.f7.params[j]? = some t → args[j]? = some v → Value.okWide Try.prog W .any base t v := hval0
  have hW' := hW
  obtain ⟨p, q, hA0, hV, rfl, hfz, hnd⟩ := hW
  have hA : DataW.TrodAll enc Try.prog W 0 (fun _ => true) true Try.f7.params.toList args.toList ds p := hA0
  rw [Try.params7] at hA hval hsz
  obtain ⟨v0, vs0, d0, ds0, p0, q0, hargs, rfl, rfl, h0, r0⟩ := trodAll_cons hA
  obtain ⟨v1, vs1, d1, ds1, p1, q1, rfl, rfl, rfl, h1, r1⟩ := trodAll_cons r0
  obtain ⟨rfl, rfl, rfl⟩ := trodAll_nil r1
  obtain rfl : args = #[v0, v1] := by cases args; simp_all
  obtain ⟨rfl, rfl⟩ := trodVars_none hV
  have k0 := h0
  have lt0 : ∀ x ∈ p0, x.block < W.heap.size := by obtain ⟨m, hm⟩ := k0; exact DataW.trod_lt m _ _ _ hm
  have dw0 := weightsEach_at _ _ 0 22 d0 rfl rfl hsz
  have dc0 : DatC Try.prog W 22 v0.cells.toList := by obtain ⟨m, hm⟩ := k0; exact ⟨H, enc, m, d0, p0, hm, dw0⟩
  obtain ⟨a0, n0, c0, rfl⟩ := okWide_slice Try.underlying22 (hval 0 22 v0 rfl rfl)
  have k1 := h1
  have lt1 : ∀ x ∈ p1, x.block < W.heap.size := by obtain ⟨m, hm⟩ := k1; exact DataW.trod_lt m _ _ _ hm
  have dw1 := weightsEach_at _ _ 1 5 d1 rfl rfl hsz
  have dc1 : DatC Try.prog W 5 v1.cells.toList := by obtain ⟨m, hm⟩ := k1; exact ⟨H, enc, m, d1, p1, hm, dw1⟩
  obtain ⟨x1, rfl⟩ := okWide_int Try.underlying5 (hval 1 5 v1 rfl rfl)
  have wf1 : (Lit.int .u8 x1).wf = true := by obtain ⟨n, hn, hw⟩ := dc1.int Try.underlying5; simp [Value.cells] at hn; subst hn; exact hw
  clear hA0 hval0 hsz0 hsz
  refine (Zone.ZoneApart_true W a0 n0 c0 dc0 x1 wf1).mono fun e W' he => ?_
  cases e with
  | panicked c => exact he.elim
  | outgrown => exact he.elim
  | returned v =>
    obtain ⟨hv, hch⟩ := he
    subst hv
    have bel : Below W.heap.size W W' := hch.below (Nat.le_refl _) (fun _ _ h => h)
    exact ⟨_, rfl, _, _, _, [], _, [], hW', trodAll_mk1 (shut_bool Try.underlying4 _), (trodAll_cons_mk (Below.trod laidOut (by kernel_rfl) (of_decide_eq_true (by kernel_rfl)) k0 bel lt0) (trodAll_cons_mk (Below.trod laidOut (by kernel_rfl) (of_decide_eq_true (by kernel_rfl)) k1 bel lt1) trodAll_mk0)), rfl, bel.frame _, fun h => by cases h⟩
theorem over : Rows.zoneApartRow.holds Try.pinned (OpenSpec.ofChange Rows.zoneApartSpec) :=
  OpenClaim.holds_of_wide 7 Try.f7 rfl rfl rfl rfl rfl rfl rfl ⟨rfl, rfl, rfl, rfl, rfl⟩ rfl rfl rfl rfl rfl (by kernel_rfl) Try.func7 (by kernel_rfl)
    (of_decide_eq_true (by kernel_rfl)) (by unfold Func.isWrapper; first | (rw [if_pos (by decide +kernel)]; kernel_rfl) | (rw [if_neg (by decide +kernel)]; exact ⟨rfl, rfl⟩))
    (fun os started H enc _ => lifted os started H enc)
theorem proved : Rows.ZoneApartSaid := over
end Go.Proofs.Ytpefegcdcojokaa.LawZoneApart
namespace Go.Proofs.Ytpefegcdcojokaa
/-- The statement, under a short name, for the claim. -/
theorem zoneApart_holds : Rows.ZoneApartSaid := LawZoneApart.proved
end Go.Proofs.Ytpefegcdcojokaa
#print axioms Go.Proofs.Ytpefegcdcojokaa.zoneApart_holds
