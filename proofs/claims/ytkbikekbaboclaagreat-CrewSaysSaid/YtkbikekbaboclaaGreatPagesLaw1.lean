import Derived.Test.YtkbikekbaboclaaGreatPkP
import Derived.Test.YtkbikekbaboclaaGreatVcPagesL
set_option linter.unusedVariables false
set_option linter.unusedSimpArgs false
namespace Go.Proofs.YtkbikekbaboclaaGreat.Pages
open Go Go.Proofs V Vc Step Go.RowKit
theorem New0_spec (w : World) (n : Int) (h : n < 1 ∨ 64 < n) : Calls Tryz.prog i_pages_New #[.int .i64 n] w (Ret fun v w' => v = .pointer none ∧ w' = w) := by
 refine pages_New.calls _ ?_
 unfold pages_New.vc
 exact ⟨fun _ => ⟨rfl, rfl⟩, fun h1 => ⟨fun _ => ⟨rfl, rfl⟩, fun h2 => by have := of_decide_eq_false h1; have := of_decide_eq_false h2; omega⟩⟩
structure Pool (W w : World) (pb : Nat) (ps : List PageD) (F : Nat → Prop) : Prop where
 r : PoolR w pb ps F
 f : Foot W w F
 c : Ch Non W w
section
variable {W w w' : World} {pb : Nat} {ps ps' : List PageD} {F : Nat → Prop}
theorem Pool.keepN (h : Pool W w pb ps F) (hc : Ch Non w w') : Pool W w' pb ps F := ⟨h.r.keepN hc, h.f.le hc.size, h.c.andN hc⟩
theorem Pool.step (h : Pool W w pb ps F) (hr : PoolR w' pb ps' F) (hc : Ch F w w') : Pool W w' pb ps' F := ⟨hr, h.f.le hc.size, h.f.hi h.c hc⟩
theorem Pool.ext (h : Pool W w pb ps F) (hr : PoolR w' pb ps' (Ext F w w')) (hc : Ch F w w') : Pool W w' pb ps' (Ext F w w') := ⟨hr, h.f.ext h.c hc.size, h.f.hi h.c hc⟩
theorem Pool.lt (h : Pool W w pb ps F) : ∀ i, F i → i < w.heap.size := fun i hi => (h.f i hi).2
end
end Go.Proofs.YtkbikekbaboclaaGreat.Pages
