/- For all rows of whole numbers: what layer 1's Mean answers. -/
import Derived.Test.YtfhnegfoglngoaaNumS
import Derived.Test.YtfhnegfoglngoaaNumD
set_option linter.unusedVariables false
set_option linter.unusedSimpArgs false
namespace Go.Proofs.Ytfhnegfoglngoaa.Num
open Go Go.Proofs Go.Proofs.Ytfhnegfoglngoaa.V Go.Proofs.Ytfhnegfoglngoaa.Vc

theorem Mean_spec {w : World} {o : Option Addr} {c : Nat} {xs : List Int} {F : Nat → Prop} (hr : Rd w o (xs.map (.int .i64)) F) (hx : xs.length ≤ 1000000000000) :
    Calls Try.prog i_num_Mean #[.slice o xs.length c] w (Ret fun v w' => v = .int .i64 (div (sumC xs) xs.length) ∧ w' = w) := by
  refine num_Mean.calls _ _ _ ?_
  unfold num_Mean.vc
  refine step_call (Sum_spec hr hx) ?_
  rintro v w1 ⟨rfl, rfl⟩
  have := sumC_le xs
  refine ⟨_, rfl, ?_⟩
  refine step_call (Div_spec _ ⟨by omega, by omega⟩ _) ?_
  rintro v w2 ⟨rfl, rfl⟩
  exact ⟨_, rfl, rfl, rfl⟩
end Go.Proofs.Ytfhnegfoglngoaa.Num
