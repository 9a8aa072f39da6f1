import Derived.Test.YtkbikekbaboclaaGreatPkE
import Derived.Test.YtkbikekbaboclaaGreatGenC
import Derived.Test.YtkbikekbaboclaaGreatPkB
set_option linter.unusedVariables false
set_option linter.unusedSimpArgs false
namespace Go.Proofs.YtkbikekbaboclaaGreat.Crew
open Go Go.Proofs V Vc Step Pages Prefix Brain Conf Stp Go.RowKit
open Ward (AskD AskP askE AskR)
theorem ask_ok {cf : CfD} {k : Nat} {a : AskD} (h1 : 1 ≤ a.ver ∧ a.ver ≤ 2147483647) (h2 : 1 ≤ a.id ∧ a.id ≤ 2147483647) (h3 : a.draws.length ≤ 32) (h4 : Gen.checkP cf a.most a.prompt = 0) (h5 : Ward.needN a ≤ k) : askOk cf k a = true := by
 unfold askOk
 rw [Bool.and_eq_true]
 refine ⟨decide_eq_true h1, ?_⟩
 unfold Ward.subV
 rw [if_neg (by omega), if_neg (by unfold Ward.findQ; simp), checkV_eq, if_neg (by omega), if_neg (by omega), if_neg (by simp)]
 rfl
end Go.Proofs.YtkbikekbaboclaaGreat.Crew
