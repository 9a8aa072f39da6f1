/- For every shape of a model that is read as data: its numbers; the conditions stand in each theorem. -/
import Derived.Test.YtbadkcnemcnhfaaGreatDoorPkB
set_option linter.unusedVariables false
set_option linter.unusedSimpArgs false
namespace Go.Proofs.YtbadkcnemcnhfaaGreatDoor.Conf
open Go Go.Proofs Go.Proofs.YtbadkcnemcnhfaaGreatDoor.V Go.Proofs.YtbadkcnemcnhfaaGreatDoor.Vc Go.RowKit

set_option maxRecDepth 100000 in
theorem conf_dat {W : World} {cs : List Value} (h : DatC Tryz.prog W t_api_Config cs) : ∃ c : CfD, cs = cfE c := by
  obtain ⟨hl, hf⟩ := h.struct Tryz.underlying31
  have h2 : Tryz.prog.cellsOf t_api_Config = 6 := by kernel_rfl
  rw [h2] at hl
  match cs, hl with
  | [x0, x1, x2, x3, x4, x5], _ =>
    have h0 : DatC Tryz.prog W t_int [x0] := hf 0 _ rfl
    have h1 : DatC Tryz.prog W t_int [x1] := hf 1 _ rfl
    have h2 : DatC Tryz.prog W t_int [x2] := hf 2 _ rfl
    have h3 : DatC Tryz.prog W t_int [x3] := hf 3 _ rfl
    have h4 : DatC Tryz.prog W t_int [x4] := hf 4 _ rfl
    have h5 : DatC Tryz.prog W t_int [x5] := hf 5 _ rfl
    obtain ⟨a, e0, _⟩ := h0.int (k := .i64) (by kernel_rfl)
    obtain ⟨b, e1, _⟩ := h1.int (k := .i64) (by kernel_rfl)
    obtain ⟨c, e2, _⟩ := h2.int (k := .i64) (by kernel_rfl)
    obtain ⟨d, e3, _⟩ := h3.int (k := .i64) (by kernel_rfl)
    obtain ⟨e, e4, _⟩ := h4.int (k := .i64) (by kernel_rfl)
    obtain ⟨f, e5, _⟩ := h5.int (k := .i64) (by kernel_rfl)
    injection e0 with e0 _
    injection e1 with e1 _
    injection e2 with e2 _
    injection e3 with e3 _
    injection e4 with e4 _
    injection e5 with e5 _
    subst e0; subst e1; subst e2; subst e3; subst e4; subst e5
    exact ⟨⟨a, b, c, d, e, f⟩, rfl⟩
end Go.Proofs.YtbadkcnemcnhfaaGreatDoor.Conf
