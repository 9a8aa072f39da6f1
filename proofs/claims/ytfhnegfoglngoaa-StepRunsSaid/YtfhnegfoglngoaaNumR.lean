/- For all whole numbers: what the document's Clamp, Sat, Shift and Mul answer. -/
import Derived.Test.YtfhnegfoglngoaaNumM
set_option linter.unusedVariables false
set_option linter.unusedSimpArgs false
namespace Go.Proofs.Ytfhnegfoglngoaa.Num
open Go Go.Proofs Go.Proofs.Ytfhnegfoglngoaa.V Go.Proofs.Ytfhnegfoglngoaa.Vc

theorem rClamp_spec (w : World) (x low high : Int) : Calls Try.prog i_coadjutorref01_Clamp #[.int .i64 x, .int .i64 low, .int .i64 high] w (Ret fun v w' => v = .int .i64 (clamp x low high) ∧ w' = w) := by
  refine coadjutorref01_Clamp.calls _ _ _ ?_
  unfold coadjutorref01_Clamp.vc clamp
  refine ⟨fun h => ?_, fun h => ⟨fun h2 => ?_, fun h2 => ?_⟩⟩
  · rw [if_pos (by simpa using h)]; exact ⟨rfl, rfl⟩
  · rw [if_neg (by simpa using h), if_pos (by simpa using h2)]; exact ⟨rfl, rfl⟩
  · rw [if_neg (by simpa using h), if_neg (by simpa using h2)]; exact ⟨rfl, rfl⟩
end Go.Proofs.Ytfhnegfoglngoaa.Num
