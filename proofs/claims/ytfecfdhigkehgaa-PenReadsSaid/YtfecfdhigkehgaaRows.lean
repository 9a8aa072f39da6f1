/-
  No cell of these rows narrows 'for every input' (looked for: loops, veiled, ifaces, maps, wideKeys, modest, calm, conditions, laid).
  DERIVED. THE GIVEN ROWS OF THIS SEAT. 8 by the template 'for every input the law returns true; each argument reads behind the call as it read before'; 0 by the template 'total and deterministic' (their statements: YtfecfdhigkehgaaTotals.lean).
  GIVEN WITH THE SEED: the statements are not yours to turn. If you find one false, say at which input.
  Laid BY PROGRAM, IN A SANDBOX (cutbox-rows.mjs): the forced cells as the released guide's own fill.sh prints them over the translation 7b9b11c0b383b9c1… (all of the seat's roots in one cut). By AI agents, Wed Nov 11 2026. No macro, syntax, notation, axiom, sorry.
-/
import Derived.Test.YtfecfdhigkehgaaChecked
import GoSem.Claim
import GoSem.ClaimJoined
import GoSem.ClaimMapViews
import Derived.JoinedTies
import Derived.KernelRfl
namespace Go.Proofs.Ytfecfdhigkehgaa
/- THE CELL 'sum', in the pinned program and in every row, IS THE sha256 OF THE DUMP (.gsa) THAT YtfecfdhigkehgaaProg.lean LOADS. Nothing in Lean hashes anything: it is a label: what it is worth is what the hold of that sum in a sandbox is worth. -/
noncomputable def Try.pinned : Pinned := { name := "ytfecfdhigkehgaa", sum := "7b9b11c0b383b9c159ab97ca9563d7a90f6746fc7f622cd4716496ff670333a7", checked := Try.checked }
namespace Rows
def none {H : Type} : Left H := { results := [], args := [] }

/-- 'coadjutorlaw12.SoftExact': WHATEVER THE INPUT: true; the input reads as it did. -/
def softExactSpec : ChangeSpec := { name := "softExact", fn := fun _ => fun
  | [d1, d2, d3] => { results := [.lit (.bool true)], args := [d1, d2, d3] }
  | _ => none }
def softExactRow : OpenClaim := { program := "ytfecfdhigkehgaa", sum := "7b9b11c0b383b9c159ab97ca9563d7a90f6746fc7f622cd4716496ff670333a7", func := "coadjutor/coadjutorlaw12.SoftExact", spec := "softExact", unfollowed := true, recurses := true, apart := false }
def SoftExactSaid : Prop := softExactRow.holds Try.pinned (OpenSpec.ofChange softExactSpec)

/-- ITS FALSE NEIGHBOUR: 'it returns false'. Refute it at one input. -/
def softExactWrong : ChangeSpec := { name := "softExact", fn := fun _ => fun
  | [d1, d2, d3] => { results := [.lit (.bool false)], args := [d1, d2, d3] }
  | _ => none }
def SoftExactWrongFalsely : Prop := softExactRow.holds Try.pinned (OpenSpec.ofChange softExactWrong)

/-- 'coadjutorlaw12.SoftMix': WHATEVER THE INPUT: true; the input reads as it did. -/
def softMixSpec : ChangeSpec := { name := "softMix", fn := fun _ => fun
  | [d1, d2] => { results := [.lit (.bool true)], args := [d1, d2] }
  | _ => none }
def softMixRow : OpenClaim := { program := "ytfecfdhigkehgaa", sum := "7b9b11c0b383b9c159ab97ca9563d7a90f6746fc7f622cd4716496ff670333a7", func := "coadjutor/coadjutorlaw12.SoftMix", spec := "softMix", unfollowed := true, recurses := true, apart := false }
def SoftMixSaid : Prop := softMixRow.holds Try.pinned (OpenSpec.ofChange softMixSpec)

/-- ITS FALSE NEIGHBOUR: 'it returns false'. Refute it at one input. -/
def softMixWrong : ChangeSpec := { name := "softMix", fn := fun _ => fun
  | [d1, d2] => { results := [.lit (.bool false)], args := [d1, d2] }
  | _ => none }
def SoftMixWrongFalsely : Prop := softMixRow.holds Try.pinned (OpenSpec.ofChange softMixWrong)

/-- 'coadjutorlaw12.SoftOrder': WHATEVER THE INPUT: true; the input reads as it did. -/
def softOrderSpec : ChangeSpec := { name := "softOrder", fn := fun _ => fun
  | [d1, d2] => { results := [.lit (.bool true)], args := [d1, d2] }
  | _ => none }
def softOrderRow : OpenClaim := { program := "ytfecfdhigkehgaa", sum := "7b9b11c0b383b9c159ab97ca9563d7a90f6746fc7f622cd4716496ff670333a7", func := "coadjutor/coadjutorlaw12.SoftOrder", spec := "softOrder", unfollowed := true, recurses := true, apart := false }
def SoftOrderSaid : Prop := softOrderRow.holds Try.pinned (OpenSpec.ofChange softOrderSpec)

/-- ITS FALSE NEIGHBOUR: 'it returns false'. Refute it at one input. -/
def softOrderWrong : ChangeSpec := { name := "softOrder", fn := fun _ => fun
  | [d1, d2] => { results := [.lit (.bool false)], args := [d1, d2] }
  | _ => none }
def SoftOrderWrongFalsely : Prop := softOrderRow.holds Try.pinned (OpenSpec.ofChange softOrderWrong)

/-- 'coadjutorlaw12.SoftWithin': WHATEVER THE INPUT: true; the input reads as it did. -/
def softWithinSpec : ChangeSpec := { name := "softWithin", fn := fun _ => fun
  | [d1, d2] => { results := [.lit (.bool true)], args := [d1, d2] }
  | _ => none }
def softWithinRow : OpenClaim := { program := "ytfecfdhigkehgaa", sum := "7b9b11c0b383b9c159ab97ca9563d7a90f6746fc7f622cd4716496ff670333a7", func := "coadjutor/coadjutorlaw12.SoftWithin", spec := "softWithin", unfollowed := true, recurses := true, apart := false }
def SoftWithinSaid : Prop := softWithinRow.holds Try.pinned (OpenSpec.ofChange softWithinSpec)

/-- ITS FALSE NEIGHBOUR: 'it returns false'. Refute it at one input. -/
def softWithinWrong : ChangeSpec := { name := "softWithin", fn := fun _ => fun
  | [d1, d2] => { results := [.lit (.bool false)], args := [d1, d2] }
  | _ => none }
def SoftWithinWrongFalsely : Prop := softWithinRow.holds Try.pinned (OpenSpec.ofChange softWithinWrong)

/-- 'coadjutorlaw12.SoftChosen': WHATEVER THE INPUT: true; the input reads as it did. -/
def softChosenSpec : ChangeSpec := { name := "softChosen", fn := fun _ => fun
  | [d1, d2] => { results := [.lit (.bool true)], args := [d1, d2] }
  | _ => none }
def softChosenRow : OpenClaim := { program := "ytfecfdhigkehgaa", sum := "7b9b11c0b383b9c159ab97ca9563d7a90f6746fc7f622cd4716496ff670333a7", func := "coadjutor/coadjutorlaw12.SoftChosen", spec := "softChosen", unfollowed := true, recurses := true, apart := false }
def SoftChosenSaid : Prop := softChosenRow.holds Try.pinned (OpenSpec.ofChange softChosenSpec)

/-- ITS FALSE NEIGHBOUR: 'it returns false'. Refute it at one input. -/
def softChosenWrong : ChangeSpec := { name := "softChosen", fn := fun _ => fun
  | [d1, d2] => { results := [.lit (.bool false)], args := [d1, d2] }
  | _ => none }
def SoftChosenWrongFalsely : Prop := softChosenRow.holds Try.pinned (OpenSpec.ofChange softChosenWrong)

/-- 'coadjutorlaw03.PenBack': WHATEVER THE INPUT: true; the input reads as it did. -/
def penBackSpec : ChangeSpec := { name := "penBack", fn := fun _ => fun
  | [d1, d2, d3] => { results := [.lit (.bool true)], args := [d1, d2, d3] }
  | _ => none }
def penBackRow : OpenClaim := { program := "ytfecfdhigkehgaa", sum := "7b9b11c0b383b9c159ab97ca9563d7a90f6746fc7f622cd4716496ff670333a7", func := "coadjutor/coadjutorlaw03.PenBack", spec := "penBack", inPlace := ["internal/abi.NoEscape"], apart := false }
def PenBackSaid : Prop := penBackRow.holds Try.pinned (OpenSpec.ofChange penBackSpec)

/-- ITS FALSE NEIGHBOUR: 'it returns false'. Refute it at one input. -/
def penBackWrong : ChangeSpec := { name := "penBack", fn := fun _ => fun
  | [d1, d2, d3] => { results := [.lit (.bool false)], args := [d1, d2, d3] }
  | _ => none }
def PenBackWrongFalsely : Prop := penBackRow.holds Try.pinned (OpenSpec.ofChange penBackWrong)

/-- 'coadjutorlaw03.PenWrites': WHATEVER THE INPUT: true; the input reads as it did. -/
def penWritesSpec : ChangeSpec := { name := "penWrites", fn := fun _ => fun
  | [d] => { results := [.lit (.bool true)], args := [d] }
  | _ => none }
def penWritesRow : OpenClaim := { program := "ytfecfdhigkehgaa", sum := "7b9b11c0b383b9c159ab97ca9563d7a90f6746fc7f622cd4716496ff670333a7", func := "coadjutor/coadjutorlaw03.PenWrites", spec := "penWrites", inPlace := ["internal/abi.NoEscape"], apart := false }
def PenWritesSaid : Prop := penWritesRow.holds Try.pinned (OpenSpec.ofChange penWritesSpec)

/-- ITS FALSE NEIGHBOUR: 'it returns false'. Refute it at one input. -/
def penWritesWrong : ChangeSpec := { name := "penWrites", fn := fun _ => fun
  | [d] => { results := [.lit (.bool false)], args := [d] }
  | _ => none }
def PenWritesWrongFalsely : Prop := penWritesRow.holds Try.pinned (OpenSpec.ofChange penWritesWrong)

/-- 'coadjutorlaw03.PenReads': WHATEVER THE INPUT: true; the input reads as it did. -/
def penReadsSpec : ChangeSpec := { name := "penReads", fn := fun _ => fun
  | [d1, d2] => { results := [.lit (.bool true)], args := [d1, d2] }
  | _ => none }
def penReadsRow : OpenClaim := { program := "ytfecfdhigkehgaa", sum := "7b9b11c0b383b9c159ab97ca9563d7a90f6746fc7f622cd4716496ff670333a7", func := "coadjutor/coadjutorlaw03.PenReads", spec := "penReads", inPlace := ["internal/abi.NoEscape"], apart := false }
def PenReadsSaid : Prop := penReadsRow.holds Try.pinned (OpenSpec.ofChange penReadsSpec)

/-- ITS FALSE NEIGHBOUR: 'it returns false'. Refute it at one input. -/
def penReadsWrong : ChangeSpec := { name := "penReads", fn := fun _ => fun
  | [d1, d2] => { results := [.lit (.bool false)], args := [d1, d2] }
  | _ => none }
def PenReadsWrongFalsely : Prop := penReadsRow.holds Try.pinned (OpenSpec.ofChange penReadsWrong)

/- THE SECOND FORM. 'bulk': how many values and letters a reading holds, each counted each time it is reached (what is shared counts as often as it is met; a slice's spare places count too). A statement '..UptoSaid' is the law's where the arguments, and the package variables that the reading takes, are together of bulk at most 1048576: NARROWER than '..Said'. Prove '..Said' where nothing that the law and all that it calls make is longer than what came in: it says more and counts as full. Else prove '..UptoSaid'. A law counts once. -/
mutual
def uptoBulk {H : Type} : DataW H → Nat
  | .lit (.string bytes) => bytes.length + 1
  | .lit _ => 1
  | .nil => 1
  | .ptr d => uptoBulk d + 1
  | .slice elems spare => uptoBulkAll elems + uptoBulkAll spare + 1
  | .agg parts => uptoBulkAll parts + 1
  | .iface _ d => uptoBulk d + 1
  | .map entries => uptoBulkEntries entries + 1
  | .held _ => 1
def uptoBulkAll {H : Type} : List (DataW H) → Nat
  | [] => 0
  | d :: r => uptoBulk d + uptoBulkAll r
def uptoBulkEntries {H : Type} : List (Lit × DataW H) → Nat
  | [] => 0
  | x :: r => uptoBulkEntry x + uptoBulkEntries r
def uptoBulkEntry {H : Type} : Lit × DataW H → Nat
  | (.string bytes, d) => bytes.length + uptoBulk d + 1
  | (_, d) => uptoBulk d + 1
 end
def uptoSmall : (H : Type) → List (DataW H) → Bool := fun _ ds => decide (uptoBulkAll ds ≤ 1048576)
def OpenSpec.upto (s : _root_.Go.ChangeSpec) : _root_.Go.OpenSpec := { _root_.Go.OpenSpec.ofChange s with cond := some uptoSmall }

/-- 'coadjutorlaw12.SoftExact', WHERE WHAT IT READS IS OF BULK AT MOST 1048576: true; the input reads as it did. -/
def softExactUptoRow : OpenClaim := { program := "ytfecfdhigkehgaa", sum := "7b9b11c0b383b9c159ab97ca9563d7a90f6746fc7f622cd4716496ff670333a7", func := "coadjutor/coadjutorlaw12.SoftExact", spec := "softExact", unfollowed := true, recurses := true, apart := false, narrowed := true }
def SoftExactUptoSaid : Prop := softExactUptoRow.holds Try.pinned (OpenSpec.upto softExactSpec)

/-- 'coadjutorlaw12.SoftMix', WHERE WHAT IT READS IS OF BULK AT MOST 1048576: true; the input reads as it did. -/
def softMixUptoRow : OpenClaim := { program := "ytfecfdhigkehgaa", sum := "7b9b11c0b383b9c159ab97ca9563d7a90f6746fc7f622cd4716496ff670333a7", func := "coadjutor/coadjutorlaw12.SoftMix", spec := "softMix", unfollowed := true, recurses := true, apart := false, narrowed := true }
def SoftMixUptoSaid : Prop := softMixUptoRow.holds Try.pinned (OpenSpec.upto softMixSpec)

/-- 'coadjutorlaw12.SoftOrder', WHERE WHAT IT READS IS OF BULK AT MOST 1048576: true; the input reads as it did. -/
def softOrderUptoRow : OpenClaim := { program := "ytfecfdhigkehgaa", sum := "7b9b11c0b383b9c159ab97ca9563d7a90f6746fc7f622cd4716496ff670333a7", func := "coadjutor/coadjutorlaw12.SoftOrder", spec := "softOrder", unfollowed := true, recurses := true, apart := false, narrowed := true }
def SoftOrderUptoSaid : Prop := softOrderUptoRow.holds Try.pinned (OpenSpec.upto softOrderSpec)

/-- 'coadjutorlaw12.SoftWithin', WHERE WHAT IT READS IS OF BULK AT MOST 1048576: true; the input reads as it did. -/
def softWithinUptoRow : OpenClaim := { program := "ytfecfdhigkehgaa", sum := "7b9b11c0b383b9c159ab97ca9563d7a90f6746fc7f622cd4716496ff670333a7", func := "coadjutor/coadjutorlaw12.SoftWithin", spec := "softWithin", unfollowed := true, recurses := true, apart := false, narrowed := true }
def SoftWithinUptoSaid : Prop := softWithinUptoRow.holds Try.pinned (OpenSpec.upto softWithinSpec)

/-- 'coadjutorlaw12.SoftChosen', WHERE WHAT IT READS IS OF BULK AT MOST 1048576: true; the input reads as it did. -/
def softChosenUptoRow : OpenClaim := { program := "ytfecfdhigkehgaa", sum := "7b9b11c0b383b9c159ab97ca9563d7a90f6746fc7f622cd4716496ff670333a7", func := "coadjutor/coadjutorlaw12.SoftChosen", spec := "softChosen", unfollowed := true, recurses := true, apart := false, narrowed := true }
def SoftChosenUptoSaid : Prop := softChosenUptoRow.holds Try.pinned (OpenSpec.upto softChosenSpec)

/-- 'coadjutorlaw03.PenBack', WHERE WHAT IT READS IS OF BULK AT MOST 1048576: true; the input reads as it did. -/
def penBackUptoRow : OpenClaim := { program := "ytfecfdhigkehgaa", sum := "7b9b11c0b383b9c159ab97ca9563d7a90f6746fc7f622cd4716496ff670333a7", func := "coadjutor/coadjutorlaw03.PenBack", spec := "penBack", inPlace := ["internal/abi.NoEscape"], apart := false, narrowed := true }
def PenBackUptoSaid : Prop := penBackUptoRow.holds Try.pinned (OpenSpec.upto penBackSpec)

/-- 'coadjutorlaw03.PenWrites', WHERE WHAT IT READS IS OF BULK AT MOST 1048576: true; the input reads as it did. -/
def penWritesUptoRow : OpenClaim := { program := "ytfecfdhigkehgaa", sum := "7b9b11c0b383b9c159ab97ca9563d7a90f6746fc7f622cd4716496ff670333a7", func := "coadjutor/coadjutorlaw03.PenWrites", spec := "penWrites", inPlace := ["internal/abi.NoEscape"], apart := false, narrowed := true }
def PenWritesUptoSaid : Prop := penWritesUptoRow.holds Try.pinned (OpenSpec.upto penWritesSpec)

/-- 'coadjutorlaw03.PenReads', WHERE WHAT IT READS IS OF BULK AT MOST 1048576: true; the input reads as it did. -/
def penReadsUptoRow : OpenClaim := { program := "ytfecfdhigkehgaa", sum := "7b9b11c0b383b9c159ab97ca9563d7a90f6746fc7f622cd4716496ff670333a7", func := "coadjutor/coadjutorlaw03.PenReads", spec := "penReads", inPlace := ["internal/abi.NoEscape"], apart := false, narrowed := true }
def PenReadsUptoSaid : Prop := penReadsUptoRow.holds Try.pinned (OpenSpec.upto penReadsSpec)

end Rows
end Go.Proofs.Ytfecfdhigkehgaa
