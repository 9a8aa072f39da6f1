/- For all whole numbers: what layer 1's Clamp and Sat answer. -/
import Derived.Test.YtfhnegfoglngoaaArith
import Derived.Test.YtfhnegfoglngoaaVcNum
set_option linter.unusedVariables false
set_option linter.unusedSimpArgs false
namespace Go.Proofs.Ytfhnegfoglngoaa.Num
open Go Go.Proofs Go.Proofs.Ytfhnegfoglngoaa.V Go.Proofs.Ytfhnegfoglngoaa.Vc

theorem Clamp_spec (w : World) (x low high : Int) : Calls Try.prog i_num_Clamp #[.int .i64 x, .int .i64 low, .int .i64 high] w (Ret fun v w' => v = .int .i64 (clamp x low high) ∧ w' = w) := by
  refine num_Clamp.calls _ _ _ ?_
  unfold num_Clamp.vc clamp
  refine ⟨fun h => ?_, fun h => ⟨fun h2 => ?_, fun h2 => ?_⟩⟩
  · rw [if_pos (by simpa using h)]; exact ⟨rfl, rfl⟩
  · rw [if_neg (by simpa using h), if_pos (by simpa using h2)]; exact ⟨rfl, rfl⟩
  · rw [if_neg (by simpa using h), if_neg (by simpa using h2)]; exact ⟨rfl, rfl⟩
theorem Sat_spec (w : World) (x : Int) : Calls Try.prog i_num_Sat #[.int .i64 x] w (Ret fun v w' => v = .int .i64 (sat x) ∧ w' = w) := by
  refine num_Sat.calls _ ?_
  unfold num_Sat.vc
  refine step_call (Clamp_spec w _ _ _) ?_
  rintro v w ⟨rfl, rfl⟩
  exact ⟨_, rfl, rfl, rfl⟩
end Go.Proofs.Ytfhnegfoglngoaa.Num
