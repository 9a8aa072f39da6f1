/- For every world of the model: what an array of bytes that is read as data has in its cells; the conditions stand in each theorem. -/
import Derived.Test.YtddgcdlljkooiaaDat
import Derived.Test.YtddgcdlljkooiaaStr
import Derived.OpenShut
set_option linter.unusedVariables false
set_option linter.unusedSimpArgs false
namespace Go.Proofs.Ytddgcdlljkooiaa.V
open Go Go.Proofs Go.RowKit

section
variable {P : Program} {w : World} {t e : TypeId} {cs : List Value} {n : Nat}
theorem DatC.array (h : DatC P w t cs) (hu : P.underlying t = some (.array n e)) :
    cs.length = P.cellsOf t ∧ ∀ i, i < n → DatC P w e ((cs.drop (i * P.cellsOf e)).take (P.cellsOf e)) := by
  obtain ⟨H, enc, fuel, d, p, h, hs⟩ := h
  obtain ⟨xs, m, _, hx, hl, hxl, hf⟩ := DataW.trod_array hu h
  obtain ⟨rfl, rfl⟩ := Prod.mk.inj hx
  refine ⟨hl, fun i hi => ?_⟩
  have h1 := hf i hi
  rw [List.getElem?_eq_getElem (by omega)] at h1
  refine ⟨H, enc, m, _, _, h1, ?_⟩
  rw [DataW.weights, hu] at hs
  exact weightsAll_mem (List.mem_map.2 ⟨_, List.getElem_mem _, rfl⟩) hs
theorem DatC.bytes (h : DatC P w t cs) (hu : P.underlying t = some (.array n e)) (he : P.underlying e = some (.int .u8)) (hc : P.cellsOf t = n) (h1 : P.cellsOf e = 1) :
    ∃ d : List UInt8, d.length = n ∧ cs = d.map u8v := by
  obtain ⟨hl, hi⟩ := h.array hu
  rw [hc] at hl
  refine ⟨cs.map (fun v => match v with | .int _ x => UInt8.ofNat x.toNat | _ => 0), by rw [List.length_map, hl], ?_⟩
  rw [List.map_map]
  refine List.ext_getElem (by rw [List.length_map]) fun i h2 h3 => ?_
  have := hi i (by omega)
  rw [h1, Nat.mul_one, List.drop_eq_getElem_cons h2] at this
  obtain ⟨x, e1, hw⟩ := this.int he
  simp only [List.take_succ_cons, List.take_zero, List.cons.injEq, and_true] at e1
  have hw2 : 0 ≤ x ∧ x ≤ 255 := by
    simp only [Lit.wf, Bool.and_eq_true, decide_eq_true_eq] at hw
    exact hw
  rw [List.getElem_map, e1]
  simp only [Function.comp, u8v]
  rw [UInt8.toNat_ofNat']
  congr 1
  omega
end
end Go.Proofs.Ytddgcdlljkooiaa.V
