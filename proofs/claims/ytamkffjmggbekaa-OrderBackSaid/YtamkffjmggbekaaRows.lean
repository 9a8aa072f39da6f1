/-
  No cell of these rows narrows 'for every input' (looked for: loops, veiled, ifaces, maps, wideKeys, modest, calm, conditions, laid).
  DERIVED. THE GIVEN ROWS OF THIS SEAT. 6 by the template 'for every input the law returns true; each argument reads behind the call as it read before'; 0 by the template 'total and deterministic' (their statements: YtamkffjmggbekaaTotals.lean).
  GIVEN WITH THE SEED: the statements are not yours to turn. If you find one false, say at which input.
  Laid BY PROGRAM, IN A SANDBOX (cutbox-rows.mjs): the forced cells as the released guide's own fill.sh prints them over the translation 60e0d401e6cb312e… (all of the seat's roots in one cut). By AI agents, Wed Nov 11 2026. No macro, syntax, notation, axiom, sorry.
-/
import Derived.Test.YtamkffjmggbekaaChecked
import GoSem.Claim
import GoSem.ClaimJoined
import GoSem.ClaimMapViews
import Derived.JoinedTies
import Derived.KernelRfl
namespace Go.Proofs.Ytamkffjmggbekaa
/- THE CELL 'sum', in the pinned program and in every row, IS THE sha256 OF THE DUMP (.gsa) THAT YtamkffjmggbekaaProg.lean LOADS. Nothing in Lean hashes anything: it is a label: what it is worth is what the hold of that sum in a sandbox is worth. -/
noncomputable def Try.pinned : Pinned := { name := "ytamkffjmggbekaa", sum := "60e0d401e6cb312e81e68ae5e968e782850940f95eb441a1aa2c9f59dc2c1ce3", checked := Try.checked }
namespace Rows
def none {H : Type} : Left H := { results := [], args := [] }

/-- 'coadjutorlaw24.WardFirst': WHATEVER THE INPUT: true; the input reads as it did. -/
def wardFirstSpec : ChangeSpec := { name := "wardFirst", fn := fun _ => fun
  | [d1, d2] => { results := [.lit (.bool true)], args := [d1, d2] }
  | _ => none }
def wardFirstRow : OpenClaim := { program := "ytamkffjmggbekaa", sum := "60e0d401e6cb312e81e68ae5e968e782850940f95eb441a1aa2c9f59dc2c1ce3", func := "coadjutor/coadjutorlaw24.WardFirst", spec := "wardFirst", unfollowed := true, recurses := true, apart := false }
def WardFirstSaid : Prop := wardFirstRow.holds Try.pinned (OpenSpec.ofChange wardFirstSpec)

/-- ITS FALSE NEIGHBOUR: 'it returns false'. Refute it at one input. -/
def wardFirstWrong : ChangeSpec := { name := "wardFirst", fn := fun _ => fun
  | [d1, d2] => { results := [.lit (.bool false)], args := [d1, d2] }
  | _ => none }
def WardFirstWrongFalsely : Prop := wardFirstRow.holds Try.pinned (OpenSpec.ofChange wardFirstWrong)

/-- 'coadjutorlaw24.WardFull': WHATEVER THE INPUT: true; the input reads as it did. -/
def wardFullSpec : ChangeSpec := { name := "wardFull", fn := fun _ => fun
  | [d] => { results := [.lit (.bool true)], args := [d] }
  | _ => none }
def wardFullRow : OpenClaim := { program := "ytamkffjmggbekaa", sum := "60e0d401e6cb312e81e68ae5e968e782850940f95eb441a1aa2c9f59dc2c1ce3", func := "coadjutor/coadjutorlaw24.WardFull", spec := "wardFull", inPlace := ["slices.overlaps[coadjutor/ward.Ask]"], unfollowed := true, recurses := true, apart := false }
def WardFullSaid : Prop := wardFullRow.holds Try.pinned (OpenSpec.ofChange wardFullSpec)

/-- ITS FALSE NEIGHBOUR: 'it returns false'. Refute it at one input. -/
def wardFullWrong : ChangeSpec := { name := "wardFull", fn := fun _ => fun
  | [d] => { results := [.lit (.bool false)], args := [d] }
  | _ => none }
def WardFullWrongFalsely : Prop := wardFullRow.holds Try.pinned (OpenSpec.ofChange wardFullWrong)

/-- 'coadjutorlaw24.WardExact': WHATEVER THE INPUT: true; the input reads as it did. -/
def wardExactSpec : ChangeSpec := { name := "wardExact", fn := fun _ => fun
  | [d1, d2, d3] => { results := [.lit (.bool true)], args := [d1, d2, d3] }
  | _ => none }
def wardExactRow : OpenClaim := { program := "ytamkffjmggbekaa", sum := "60e0d401e6cb312e81e68ae5e968e782850940f95eb441a1aa2c9f59dc2c1ce3", func := "coadjutor/coadjutorlaw24.WardExact", spec := "wardExact", inPlace := ["slices.overlaps[coadjutor/ward.Ask]"], unfollowed := true, recurses := true, apart := false }
def WardExactSaid : Prop := wardExactRow.holds Try.pinned (OpenSpec.ofChange wardExactSpec)

/-- ITS FALSE NEIGHBOUR: 'it returns false'. Refute it at one input. -/
def wardExactWrong : ChangeSpec := { name := "wardExact", fn := fun _ => fun
  | [d1, d2, d3] => { results := [.lit (.bool false)], args := [d1, d2, d3] }
  | _ => none }
def WardExactWrongFalsely : Prop := wardExactRow.holds Try.pinned (OpenSpec.ofChange wardExactWrong)

/-- 'coadjutorlaw29.OrderRows': WHATEVER THE INPUT: true; the input reads as it did. -/
def orderRowsSpec : ChangeSpec := { name := "orderRows", fn := fun _ => fun
  | [d1, d2] => { results := [.lit (.bool true)], args := [d1, d2] }
  | _ => none }
def orderRowsRow : OpenClaim := { program := "ytamkffjmggbekaa", sum := "60e0d401e6cb312e81e68ae5e968e782850940f95eb441a1aa2c9f59dc2c1ce3", func := "coadjutor/coadjutorlaw29.OrderRows", spec := "orderRows", inPlace := ["internal/abi.NoEscape"], unfollowed := true, recurses := true, apart := false }
def OrderRowsSaid : Prop := orderRowsRow.holds Try.pinned (OpenSpec.ofChange orderRowsSpec)

/-- ITS FALSE NEIGHBOUR: 'it returns false'. Refute it at one input. -/
def orderRowsWrong : ChangeSpec := { name := "orderRows", fn := fun _ => fun
  | [d1, d2] => { results := [.lit (.bool false)], args := [d1, d2] }
  | _ => none }
def OrderRowsWrongFalsely : Prop := orderRowsRow.holds Try.pinned (OpenSpec.ofChange orderRowsWrong)

/-- 'coadjutorlaw29.OrderExact': WHATEVER THE INPUT: true; the input reads as it did. -/
def orderExactSpec : ChangeSpec := { name := "orderExact", fn := fun _ => fun
  | [d1, d2] => { results := [.lit (.bool true)], args := [d1, d2] }
  | _ => none }
def orderExactRow : OpenClaim := { program := "ytamkffjmggbekaa", sum := "60e0d401e6cb312e81e68ae5e968e782850940f95eb441a1aa2c9f59dc2c1ce3", func := "coadjutor/coadjutorlaw29.OrderExact", spec := "orderExact", inPlace := ["internal/abi.NoEscape"], unfollowed := true, recurses := true, apart := false }
def OrderExactSaid : Prop := orderExactRow.holds Try.pinned (OpenSpec.ofChange orderExactSpec)

/-- ITS FALSE NEIGHBOUR: 'it returns false'. Refute it at one input. -/
def orderExactWrong : ChangeSpec := { name := "orderExact", fn := fun _ => fun
  | [d1, d2] => { results := [.lit (.bool false)], args := [d1, d2] }
  | _ => none }
def OrderExactWrongFalsely : Prop := orderExactRow.holds Try.pinned (OpenSpec.ofChange orderExactWrong)

/-- 'coadjutorlaw29.OrderBack': WHATEVER THE INPUT: true; the input reads as it did. -/
def orderBackSpec : ChangeSpec := { name := "orderBack", fn := fun _ => fun
  | [d1, d2] => { results := [.lit (.bool true)], args := [d1, d2] }
  | _ => none }
def orderBackRow : OpenClaim := { program := "ytamkffjmggbekaa", sum := "60e0d401e6cb312e81e68ae5e968e782850940f95eb441a1aa2c9f59dc2c1ce3", func := "coadjutor/coadjutorlaw29.OrderBack", spec := "orderBack", inPlace := ["internal/abi.NoEscape"], unfollowed := true, recurses := true, apart := false }
def OrderBackSaid : Prop := orderBackRow.holds Try.pinned (OpenSpec.ofChange orderBackSpec)

/-- ITS FALSE NEIGHBOUR: 'it returns false'. Refute it at one input. -/
def orderBackWrong : ChangeSpec := { name := "orderBack", fn := fun _ => fun
  | [d1, d2] => { results := [.lit (.bool false)], args := [d1, d2] }
  | _ => none }
def OrderBackWrongFalsely : Prop := orderBackRow.holds Try.pinned (OpenSpec.ofChange orderBackWrong)

/- THE SECOND FORM. 'bulk': how many values and letters a reading holds, each counted each time it is reached (what is shared counts as often as it is met; a slice's spare places count too). A statement '..UptoSaid' is the law's where the arguments, and the package variables that the reading takes, are together of bulk at most 1048576: NARROWER than '..Said'. Prove '..Said' where nothing that the law and all that it calls make is longer than what came in: it says more and counts as full. Else prove '..UptoSaid'. A law counts once. -/
mutual
def uptoBulk {H : Type} : DataW H → Nat
  | .lit (.string bytes) => bytes.length + 1
  | .lit _ => 1
  | .nil => 1
  | .ptr d => uptoBulk d + 1
  | .slice elems spare => uptoBulkAll elems + uptoBulkAll spare + 1
  | .agg parts => uptoBulkAll parts + 1
  | .iface _ d => uptoBulk d + 1
  | .map entries => uptoBulkEntries entries + 1
  | .held _ => 1
def uptoBulkAll {H : Type} : List (DataW H) → Nat
  | [] => 0
  | d :: r => uptoBulk d + uptoBulkAll r
def uptoBulkEntries {H : Type} : List (Lit × DataW H) → Nat
  | [] => 0
  | x :: r => uptoBulkEntry x + uptoBulkEntries r
def uptoBulkEntry {H : Type} : Lit × DataW H → Nat
  | (.string bytes, d) => bytes.length + uptoBulk d + 1
  | (_, d) => uptoBulk d + 1
 end
def uptoSmall : (H : Type) → List (DataW H) → Bool := fun _ ds => decide (uptoBulkAll ds ≤ 1048576)
def OpenSpec.upto (s : _root_.Go.ChangeSpec) : _root_.Go.OpenSpec := { _root_.Go.OpenSpec.ofChange s with cond := some uptoSmall }

/-- 'coadjutorlaw24.WardFirst', WHERE WHAT IT READS IS OF BULK AT MOST 1048576: true; the input reads as it did. -/
def wardFirstUptoRow : OpenClaim := { program := "ytamkffjmggbekaa", sum := "60e0d401e6cb312e81e68ae5e968e782850940f95eb441a1aa2c9f59dc2c1ce3", func := "coadjutor/coadjutorlaw24.WardFirst", spec := "wardFirst", unfollowed := true, recurses := true, apart := false, narrowed := true }
def WardFirstUptoSaid : Prop := wardFirstUptoRow.holds Try.pinned (OpenSpec.upto wardFirstSpec)

/-- 'coadjutorlaw24.WardFull', WHERE WHAT IT READS IS OF BULK AT MOST 1048576: true; the input reads as it did. -/
def wardFullUptoRow : OpenClaim := { program := "ytamkffjmggbekaa", sum := "60e0d401e6cb312e81e68ae5e968e782850940f95eb441a1aa2c9f59dc2c1ce3", func := "coadjutor/coadjutorlaw24.WardFull", spec := "wardFull", inPlace := ["slices.overlaps[coadjutor/ward.Ask]"], unfollowed := true, recurses := true, apart := false, narrowed := true }
def WardFullUptoSaid : Prop := wardFullUptoRow.holds Try.pinned (OpenSpec.upto wardFullSpec)

/-- 'coadjutorlaw24.WardExact', WHERE WHAT IT READS IS OF BULK AT MOST 1048576: true; the input reads as it did. -/
def wardExactUptoRow : OpenClaim := { program := "ytamkffjmggbekaa", sum := "60e0d401e6cb312e81e68ae5e968e782850940f95eb441a1aa2c9f59dc2c1ce3", func := "coadjutor/coadjutorlaw24.WardExact", spec := "wardExact", inPlace := ["slices.overlaps[coadjutor/ward.Ask]"], unfollowed := true, recurses := true, apart := false, narrowed := true }
def WardExactUptoSaid : Prop := wardExactUptoRow.holds Try.pinned (OpenSpec.upto wardExactSpec)

/-- 'coadjutorlaw29.OrderRows', WHERE WHAT IT READS IS OF BULK AT MOST 1048576: true; the input reads as it did. -/
def orderRowsUptoRow : OpenClaim := { program := "ytamkffjmggbekaa", sum := "60e0d401e6cb312e81e68ae5e968e782850940f95eb441a1aa2c9f59dc2c1ce3", func := "coadjutor/coadjutorlaw29.OrderRows", spec := "orderRows", inPlace := ["internal/abi.NoEscape"], unfollowed := true, recurses := true, apart := false, narrowed := true }
def OrderRowsUptoSaid : Prop := orderRowsUptoRow.holds Try.pinned (OpenSpec.upto orderRowsSpec)

/-- 'coadjutorlaw29.OrderExact', WHERE WHAT IT READS IS OF BULK AT MOST 1048576: true; the input reads as it did. -/
def orderExactUptoRow : OpenClaim := { program := "ytamkffjmggbekaa", sum := "60e0d401e6cb312e81e68ae5e968e782850940f95eb441a1aa2c9f59dc2c1ce3", func := "coadjutor/coadjutorlaw29.OrderExact", spec := "orderExact", inPlace := ["internal/abi.NoEscape"], unfollowed := true, recurses := true, apart := false, narrowed := true }
def OrderExactUptoSaid : Prop := orderExactUptoRow.holds Try.pinned (OpenSpec.upto orderExactSpec)

/-- 'coadjutorlaw29.OrderBack', WHERE WHAT IT READS IS OF BULK AT MOST 1048576: true; the input reads as it did. -/
def orderBackUptoRow : OpenClaim := { program := "ytamkffjmggbekaa", sum := "60e0d401e6cb312e81e68ae5e968e782850940f95eb441a1aa2c9f59dc2c1ce3", func := "coadjutor/coadjutorlaw29.OrderBack", spec := "orderBack", inPlace := ["internal/abi.NoEscape"], unfollowed := true, recurses := true, apart := false, narrowed := true }
def OrderBackUptoSaid : Prop := orderBackUptoRow.holds Try.pinned (OpenSpec.upto orderBackSpec)

end Rows
end Go.Proofs.Ytamkffjmggbekaa
