/-
  No cell of these rows narrows 'for every input' (looked for: loops, veiled, ifaces, maps, wideKeys, modest, calm, conditions, laid).
  DERIVED. THE GIVEN ROWS OF THIS SEAT. 6 by the template 'for every input the law returns true; each argument reads behind the call as it read before'; 0 by the template 'total and deterministic' (their statements: YtfhnegfoglngoaaTotals.lean).
  GIVEN WITH THE SEED: the statements are not yours to turn. If you find one false, say at which input.
  Laid BY PROGRAM, IN A SANDBOX (cutbox-rows.mjs): the forced cells as the released guide's own fill.sh prints them over the translation da39050acd427adf… (all of the seat's roots in one cut). By AI agents, Wed Nov 11 2026. No macro, syntax, notation, axiom, sorry.
-/
import Derived.Test.YtfhnegfoglngoaaChecked
import GoSem.Claim
import GoSem.ClaimJoined
import GoSem.ClaimMapViews
import Derived.JoinedTies
import Derived.KernelRfl
namespace Go.Proofs.Ytfhnegfoglngoaa
/- THE CELL 'sum', in the pinned program and in every row, IS THE sha256 OF THE DUMP (.gsa) THAT YtfhnegfoglngoaaProg.lean LOADS. Nothing in Lean hashes anything: it is a label: what it is worth is what the hold of that sum in a sandbox is worth. -/
noncomputable def Try.pinned : Pinned := { name := "ytfhnegfoglngoaa", sum := "da39050acd427adfc8a11f69ab9f7ce6d9bd056f5cda799e7abec6482e2c4d42", checked := Try.checked }
namespace Rows
def none {H : Type} : Left H := { results := [], args := [] }

/-- 'coadjutorlaw17.StepRuns': WHATEVER THE INPUT: true; the input reads as it did. -/
def stepRunsSpec : ChangeSpec := { name := "stepRuns", fn := fun _ => fun
  | [d1, d2, d3, d4] => { results := [.lit (.bool true)], args := [d1, d2, d3, d4] }
  | _ => none }
def stepRunsRow : OpenClaim := { program := "ytfhnegfoglngoaa", sum := "da39050acd427adfc8a11f69ab9f7ce6d9bd056f5cda799e7abec6482e2c4d42", func := "coadjutor/coadjutorlaw17.StepRuns", spec := "stepRuns", unfollowed := true, recurses := true, apart := false }
def StepRunsSaid : Prop := stepRunsRow.holds Try.pinned (OpenSpec.ofChange stepRunsSpec)

/-- ITS FALSE NEIGHBOUR: 'it returns false'. Refute it at one input. -/
def stepRunsWrong : ChangeSpec := { name := "stepRuns", fn := fun _ => fun
  | [d1, d2, d3, d4] => { results := [.lit (.bool false)], args := [d1, d2, d3, d4] }
  | _ => none }
def StepRunsWrongFalsely : Prop := stepRunsRow.holds Try.pinned (OpenSpec.ofChange stepRunsWrong)

/-- 'coadjutorlaw17.StepOrder': WHATEVER THE INPUT: true; the input reads as it did. -/
def stepOrderSpec : ChangeSpec := { name := "stepOrder", fn := fun _ => fun
  | [d1, d2, d3, d4] => { results := [.lit (.bool true)], args := [d1, d2, d3, d4] }
  | _ => none }
def stepOrderRow : OpenClaim := { program := "ytfhnegfoglngoaa", sum := "da39050acd427adfc8a11f69ab9f7ce6d9bd056f5cda799e7abec6482e2c4d42", func := "coadjutor/coadjutorlaw17.StepOrder", spec := "stepOrder", unfollowed := true, recurses := true, apart := false }
def StepOrderSaid : Prop := stepOrderRow.holds Try.pinned (OpenSpec.ofChange stepOrderSpec)

/-- ITS FALSE NEIGHBOUR: 'it returns false'. Refute it at one input. -/
def stepOrderWrong : ChangeSpec := { name := "stepOrder", fn := fun _ => fun
  | [d1, d2, d3, d4] => { results := [.lit (.bool false)], args := [d1, d2, d3, d4] }
  | _ => none }
def StepOrderWrongFalsely : Prop := stepOrderRow.holds Try.pinned (OpenSpec.ofChange stepOrderWrong)

/-- 'coadjutorlaw18.GenNext': WHATEVER THE INPUT: true; the input reads as it did. -/
def genNextSpec : ChangeSpec := { name := "genNext", fn := fun _ => fun
  | [d1, d2] => { results := [.lit (.bool true)], args := [d1, d2] }
  | _ => none }
def genNextRow : OpenClaim := { program := "ytfhnegfoglngoaa", sum := "da39050acd427adfc8a11f69ab9f7ce6d9bd056f5cda799e7abec6482e2c4d42", func := "coadjutor/coadjutorlaw18.GenNext", spec := "genNext", unfollowed := true, recurses := true, apart := false }
def GenNextSaid : Prop := genNextRow.holds Try.pinned (OpenSpec.ofChange genNextSpec)

/-- ITS FALSE NEIGHBOUR: 'it returns false'. Refute it at one input. -/
def genNextWrong : ChangeSpec := { name := "genNext", fn := fun _ => fun
  | [d1, d2] => { results := [.lit (.bool false)], args := [d1, d2] }
  | _ => none }
def GenNextWrongFalsely : Prop := genNextRow.holds Try.pinned (OpenSpec.ofChange genNextWrong)

/-- 'coadjutorlaw18.GenBegins': WHATEVER THE INPUT: true; the input reads as it did. -/
def genBeginsSpec : ChangeSpec := { name := "genBegins", fn := fun _ => fun
  | [d1, d2, d3, d4, d5, d6] => { results := [.lit (.bool true)], args := [d1, d2, d3, d4, d5, d6] }
  | _ => none }
def genBeginsRow : OpenClaim := { program := "ytfhnegfoglngoaa", sum := "da39050acd427adfc8a11f69ab9f7ce6d9bd056f5cda799e7abec6482e2c4d42", func := "coadjutor/coadjutorlaw18.GenBegins", spec := "genBegins", unfollowed := true, recurses := true, apart := false }
def GenBeginsSaid : Prop := genBeginsRow.holds Try.pinned (OpenSpec.ofChange genBeginsSpec)

/-- ITS FALSE NEIGHBOUR: 'it returns false'. Refute it at one input. -/
def genBeginsWrong : ChangeSpec := { name := "genBegins", fn := fun _ => fun
  | [d1, d2, d3, d4, d5, d6] => { results := [.lit (.bool false)], args := [d1, d2, d3, d4, d5, d6] }
  | _ => none }
def GenBeginsWrongFalsely : Prop := genBeginsRow.holds Try.pinned (OpenSpec.ofChange genBeginsWrong)

/-- 'coadjutorlaw18.GenGoes': WHATEVER THE INPUT: true; the input reads as it did. -/
def genGoesSpec : ChangeSpec := { name := "genGoes", fn := fun _ => fun
  | [d1, d2, d3, d4, d5, d6] => { results := [.lit (.bool true)], args := [d1, d2, d3, d4, d5, d6] }
  | _ => none }
def genGoesRow : OpenClaim := { program := "ytfhnegfoglngoaa", sum := "da39050acd427adfc8a11f69ab9f7ce6d9bd056f5cda799e7abec6482e2c4d42", func := "coadjutor/coadjutorlaw18.GenGoes", spec := "genGoes", unfollowed := true, recurses := true, apart := false }
def GenGoesSaid : Prop := genGoesRow.holds Try.pinned (OpenSpec.ofChange genGoesSpec)

/-- ITS FALSE NEIGHBOUR: 'it returns false'. Refute it at one input. -/
def genGoesWrong : ChangeSpec := { name := "genGoes", fn := fun _ => fun
  | [d1, d2, d3, d4, d5, d6] => { results := [.lit (.bool false)], args := [d1, d2, d3, d4, d5, d6] }
  | _ => none }
def GenGoesWrongFalsely : Prop := genGoesRow.holds Try.pinned (OpenSpec.ofChange genGoesWrong)

/-- 'coadjutorlaw18.GenBest': WHATEVER THE INPUT: true; the input reads as it did. -/
def genBestSpec : ChangeSpec := { name := "genBest", fn := fun _ => fun
  | [d1, d2, d3, d4] => { results := [.lit (.bool true)], args := [d1, d2, d3, d4] }
  | _ => none }
def genBestRow : OpenClaim := { program := "ytfhnegfoglngoaa", sum := "da39050acd427adfc8a11f69ab9f7ce6d9bd056f5cda799e7abec6482e2c4d42", func := "coadjutor/coadjutorlaw18.GenBest", spec := "genBest", unfollowed := true, recurses := true, apart := false }
def GenBestSaid : Prop := genBestRow.holds Try.pinned (OpenSpec.ofChange genBestSpec)

/-- ITS FALSE NEIGHBOUR: 'it returns false'. Refute it at one input. -/
def genBestWrong : ChangeSpec := { name := "genBest", fn := fun _ => fun
  | [d1, d2, d3, d4] => { results := [.lit (.bool false)], args := [d1, d2, d3, d4] }
  | _ => none }
def GenBestWrongFalsely : Prop := genBestRow.holds Try.pinned (OpenSpec.ofChange genBestWrong)

/- THE SECOND FORM. 'bulk': how many values and letters a reading holds, each counted each time it is reached (what is shared counts as often as it is met; a slice's spare places count too). A statement '..UptoSaid' is the law's where the arguments, and the package variables that the reading takes, are together of bulk at most 1048576: NARROWER than '..Said'. Prove '..Said' where nothing that the law and all that it calls make is longer than what came in: it says more and counts as full. Else prove '..UptoSaid'. A law counts once. -/
mutual
def uptoBulk {H : Type} : DataW H → Nat
  | .lit (.string bytes) => bytes.length + 1
  | .lit _ => 1
  | .nil => 1
  | .ptr d => uptoBulk d + 1
  | .slice elems spare => uptoBulkAll elems + uptoBulkAll spare + 1
  | .agg parts => uptoBulkAll parts + 1
  | .iface _ d => uptoBulk d + 1
  | .map entries => uptoBulkEntries entries + 1
  | .held _ => 1
def uptoBulkAll {H : Type} : List (DataW H) → Nat
  | [] => 0
  | d :: r => uptoBulk d + uptoBulkAll r
def uptoBulkEntries {H : Type} : List (Lit × DataW H) → Nat
  | [] => 0
  | x :: r => uptoBulkEntry x + uptoBulkEntries r
def uptoBulkEntry {H : Type} : Lit × DataW H → Nat
  | (.string bytes, d) => bytes.length + uptoBulk d + 1
  | (_, d) => uptoBulk d + 1
 end
def uptoSmall : (H : Type) → List (DataW H) → Bool := fun _ ds => decide (uptoBulkAll ds ≤ 1048576)
def OpenSpec.upto (s : _root_.Go.ChangeSpec) : _root_.Go.OpenSpec := { _root_.Go.OpenSpec.ofChange s with cond := some uptoSmall }

/-- 'coadjutorlaw17.StepRuns', WHERE WHAT IT READS IS OF BULK AT MOST 1048576: true; the input reads as it did. -/
def stepRunsUptoRow : OpenClaim := { program := "ytfhnegfoglngoaa", sum := "da39050acd427adfc8a11f69ab9f7ce6d9bd056f5cda799e7abec6482e2c4d42", func := "coadjutor/coadjutorlaw17.StepRuns", spec := "stepRuns", unfollowed := true, recurses := true, apart := false, narrowed := true }
def StepRunsUptoSaid : Prop := stepRunsUptoRow.holds Try.pinned (OpenSpec.upto stepRunsSpec)

/-- 'coadjutorlaw17.StepOrder', WHERE WHAT IT READS IS OF BULK AT MOST 1048576: true; the input reads as it did. -/
def stepOrderUptoRow : OpenClaim := { program := "ytfhnegfoglngoaa", sum := "da39050acd427adfc8a11f69ab9f7ce6d9bd056f5cda799e7abec6482e2c4d42", func := "coadjutor/coadjutorlaw17.StepOrder", spec := "stepOrder", unfollowed := true, recurses := true, apart := false, narrowed := true }
def StepOrderUptoSaid : Prop := stepOrderUptoRow.holds Try.pinned (OpenSpec.upto stepOrderSpec)

/-- 'coadjutorlaw18.GenNext', WHERE WHAT IT READS IS OF BULK AT MOST 1048576: true; the input reads as it did. -/
def genNextUptoRow : OpenClaim := { program := "ytfhnegfoglngoaa", sum := "da39050acd427adfc8a11f69ab9f7ce6d9bd056f5cda799e7abec6482e2c4d42", func := "coadjutor/coadjutorlaw18.GenNext", spec := "genNext", unfollowed := true, recurses := true, apart := false, narrowed := true }
def GenNextUptoSaid : Prop := genNextUptoRow.holds Try.pinned (OpenSpec.upto genNextSpec)

/-- 'coadjutorlaw18.GenBegins', WHERE WHAT IT READS IS OF BULK AT MOST 1048576: true; the input reads as it did. -/
def genBeginsUptoRow : OpenClaim := { program := "ytfhnegfoglngoaa", sum := "da39050acd427adfc8a11f69ab9f7ce6d9bd056f5cda799e7abec6482e2c4d42", func := "coadjutor/coadjutorlaw18.GenBegins", spec := "genBegins", unfollowed := true, recurses := true, apart := false, narrowed := true }
def GenBeginsUptoSaid : Prop := genBeginsUptoRow.holds Try.pinned (OpenSpec.upto genBeginsSpec)

/-- 'coadjutorlaw18.GenGoes', WHERE WHAT IT READS IS OF BULK AT MOST 1048576: true; the input reads as it did. -/
def genGoesUptoRow : OpenClaim := { program := "ytfhnegfoglngoaa", sum := "da39050acd427adfc8a11f69ab9f7ce6d9bd056f5cda799e7abec6482e2c4d42", func := "coadjutor/coadjutorlaw18.GenGoes", spec := "genGoes", unfollowed := true, recurses := true, apart := false, narrowed := true }
def GenGoesUptoSaid : Prop := genGoesUptoRow.holds Try.pinned (OpenSpec.upto genGoesSpec)

/-- 'coadjutorlaw18.GenBest', WHERE WHAT IT READS IS OF BULK AT MOST 1048576: true; the input reads as it did. -/
def genBestUptoRow : OpenClaim := { program := "ytfhnegfoglngoaa", sum := "da39050acd427adfc8a11f69ab9f7ce6d9bd056f5cda799e7abec6482e2c4d42", func := "coadjutor/coadjutorlaw18.GenBest", spec := "genBest", unfollowed := true, recurses := true, apart := false, narrowed := true }
def GenBestUptoSaid : Prop := genBestUptoRow.holds Try.pinned (OpenSpec.upto genBestSpec)

end Rows
end Go.Proofs.Ytfhnegfoglngoaa
