/-
  No cell of these rows narrows 'for every input' (looked for: loops, veiled, ifaces, maps, wideKeys, modest, calm, conditions, laid).
  DERIVED. THE GIVEN ROWS OF THIS SEAT. 4 by the template 'for every input the law returns true; each argument reads behind the call as it read before'; 0 by the template 'total and deterministic' (their statements: YtkbikekbaboclaaGreatTotals.lean).
  GIVEN WITH THE SEED: the statements are not yours to turn. If you find one false, say at which input.
  Laid BY PROGRAM, IN A SANDBOX (cutbox-rows.mjs): the forced cells as the released guide's own fill.sh prints them over the translation cabb197709b8a1dd… (all of the seat's roots in one cut). By AI agents, Wed Nov 11 2026. No macro, syntax, notation, axiom, sorry.
-/
import Derived.Test.YtkbikekbaboclaaGreatChecked
import GoSem.Claim
import GoSem.ClaimJoined
import GoSem.ClaimMapViews
import Derived.JoinedTies
import Derived.KernelRfl
namespace Go.Proofs.YtkbikekbaboclaaGreat
/- THE CELL 'sum', in the pinned program and in every row, IS THE sha256 OF THE DUMP (.gsa) THAT YtkbikekbaboclaaGreatProg.lean LOADS. Nothing in Lean hashes anything: it is a label: what it is worth is what the hold of that sum in a sandbox is worth. -/
noncomputable def Tryz.pinned : Pinned := { name := "ytkbikekbaboclaagreat", sum := "cabb197709b8a1dd97f90716cba88b4110ebec766dc30b019e73335bec1d508b", checked := Tryz.checked }
namespace Rows
def none {H : Type} : Left H := { results := [], args := [] }

/-- 'coadjutorlaw25.CrewFree': WHATEVER THE INPUT: true; the input reads as it did. -/
def crewFreeSpec : ChangeSpec := { name := "crewFree", fn := fun _ => fun
  | [d1, d2] => { results := [.lit (.bool true)], args := [d1, d2] }
  | _ => none }
def crewFreeRow : OpenClaim := { program := "ytkbikekbaboclaagreat", sum := "cabb197709b8a1dd97f90716cba88b4110ebec766dc30b019e73335bec1d508b", func := "coadjutor/coadjutorlaw25.CrewFree", spec := "crewFree", unfollowed := true, recurses := true, apart := false }
def CrewFreeSaid : Prop := crewFreeRow.holds Tryz.pinned (OpenSpec.ofChange crewFreeSpec)

/-- ITS FALSE NEIGHBOUR: 'it returns false'. Refute it at one input. -/
def crewFreeWrong : ChangeSpec := { name := "crewFree", fn := fun _ => fun
  | [d1, d2] => { results := [.lit (.bool false)], args := [d1, d2] }
  | _ => none }
def CrewFreeWrongFalsely : Prop := crewFreeRow.holds Tryz.pinned (OpenSpec.ofChange crewFreeWrong)

/-- 'coadjutorlaw25.CrewAlone': WHATEVER THE INPUT: true; the input reads as it did. -/
def crewAloneSpec : ChangeSpec := { name := "crewAlone", fn := fun _ => fun
  | [d1, d2] => { results := [.lit (.bool true)], args := [d1, d2] }
  | _ => none }
def crewAloneRow : OpenClaim := { program := "ytkbikekbaboclaagreat", sum := "cabb197709b8a1dd97f90716cba88b4110ebec766dc30b019e73335bec1d508b", func := "coadjutor/coadjutorlaw25.CrewAlone", spec := "crewAlone", unfollowed := true, recurses := true, apart := false }
def CrewAloneSaid : Prop := crewAloneRow.holds Tryz.pinned (OpenSpec.ofChange crewAloneSpec)

/-- ITS FALSE NEIGHBOUR: 'it returns false'. Refute it at one input. -/
def crewAloneWrong : ChangeSpec := { name := "crewAlone", fn := fun _ => fun
  | [d1, d2] => { results := [.lit (.bool false)], args := [d1, d2] }
  | _ => none }
def CrewAloneWrongFalsely : Prop := crewAloneRow.holds Tryz.pinned (OpenSpec.ofChange crewAloneWrong)

/-- 'coadjutorlaw25.CrewSays': WHATEVER THE INPUT: true; the input reads as it did. -/
def crewSaysSpec : ChangeSpec := { name := "crewSays", fn := fun _ => fun
  | [d1, d2, d3, d4] => { results := [.lit (.bool true)], args := [d1, d2, d3, d4] }
  | _ => none }
def crewSaysRow : OpenClaim := { program := "ytkbikekbaboclaagreat", sum := "cabb197709b8a1dd97f90716cba88b4110ebec766dc30b019e73335bec1d508b", func := "coadjutor/coadjutorlaw25.CrewSays", spec := "crewSays", unfollowed := true, recurses := true, apart := false }
def CrewSaysSaid : Prop := crewSaysRow.holds Tryz.pinned (OpenSpec.ofChange crewSaysSpec)

/-- ITS FALSE NEIGHBOUR: 'it returns false'. Refute it at one input. -/
def crewSaysWrong : ChangeSpec := { name := "crewSays", fn := fun _ => fun
  | [d1, d2, d3, d4] => { results := [.lit (.bool false)], args := [d1, d2, d3, d4] }
  | _ => none }
def CrewSaysWrongFalsely : Prop := crewSaysRow.holds Tryz.pinned (OpenSpec.ofChange crewSaysWrong)

/-- 'coadjutorlaw25.CrewExact': WHATEVER THE INPUT: true; the input reads as it did. -/
def crewExactSpec : ChangeSpec := { name := "crewExact", fn := fun _ => fun
  | [d1, d2, d3] => { results := [.lit (.bool true)], args := [d1, d2, d3] }
  | _ => none }
def crewExactRow : OpenClaim := { program := "ytkbikekbaboclaagreat", sum := "cabb197709b8a1dd97f90716cba88b4110ebec766dc30b019e73335bec1d508b", func := "coadjutor/coadjutorlaw25.CrewExact", spec := "crewExact", unfollowed := true, recurses := true, apart := false }
def CrewExactSaid : Prop := crewExactRow.holds Tryz.pinned (OpenSpec.ofChange crewExactSpec)

/-- ITS FALSE NEIGHBOUR: 'it returns false'. Refute it at one input. -/
def crewExactWrong : ChangeSpec := { name := "crewExact", fn := fun _ => fun
  | [d1, d2, d3] => { results := [.lit (.bool false)], args := [d1, d2, d3] }
  | _ => none }
def CrewExactWrongFalsely : Prop := crewExactRow.holds Tryz.pinned (OpenSpec.ofChange crewExactWrong)

/- THE SECOND FORM. 'bulk': how many values and letters a reading holds, each counted each time it is reached (what is shared counts as often as it is met; a slice's spare places count too). A statement '..UptoSaid' is the law's where the arguments, and the package variables that the reading takes, are together of bulk at most 1048576: NARROWER than '..Said'. Prove '..Said' where nothing that the law and all that it calls make is longer than what came in: it says more and counts as full. Else prove '..UptoSaid'. A law counts once. -/
mutual
def uptoBulk {H : Type} : DataW H → Nat
  | .lit (.string bytes) => bytes.length + 1
  | .lit _ => 1
  | .nil => 1
  | .ptr d => uptoBulk d + 1
  | .slice elems spare => uptoBulkAll elems + uptoBulkAll spare + 1
  | .agg parts => uptoBulkAll parts + 1
  | .iface _ d => uptoBulk d + 1
  | .map entries => uptoBulkEntries entries + 1
  | .held _ => 1
def uptoBulkAll {H : Type} : List (DataW H) → Nat
  | [] => 0
  | d :: r => uptoBulk d + uptoBulkAll r
def uptoBulkEntries {H : Type} : List (Lit × DataW H) → Nat
  | [] => 0
  | x :: r => uptoBulkEntry x + uptoBulkEntries r
def uptoBulkEntry {H : Type} : Lit × DataW H → Nat
  | (.string bytes, d) => bytes.length + uptoBulk d + 1
  | (_, d) => uptoBulk d + 1
 end
def uptoSmall : (H : Type) → List (DataW H) → Bool := fun _ ds => decide (uptoBulkAll ds ≤ 1048576)
def OpenSpec.upto (s : _root_.Go.ChangeSpec) : _root_.Go.OpenSpec := { _root_.Go.OpenSpec.ofChange s with cond := some uptoSmall }

/-- 'coadjutorlaw25.CrewFree', WHERE WHAT IT READS IS OF BULK AT MOST 1048576: true; the input reads as it did. -/
def crewFreeUptoRow : OpenClaim := { program := "ytkbikekbaboclaagreat", sum := "cabb197709b8a1dd97f90716cba88b4110ebec766dc30b019e73335bec1d508b", func := "coadjutor/coadjutorlaw25.CrewFree", spec := "crewFree", unfollowed := true, recurses := true, apart := false, narrowed := true }
def CrewFreeUptoSaid : Prop := crewFreeUptoRow.holds Tryz.pinned (OpenSpec.upto crewFreeSpec)

/-- 'coadjutorlaw25.CrewAlone', WHERE WHAT IT READS IS OF BULK AT MOST 1048576: true; the input reads as it did. -/
def crewAloneUptoRow : OpenClaim := { program := "ytkbikekbaboclaagreat", sum := "cabb197709b8a1dd97f90716cba88b4110ebec766dc30b019e73335bec1d508b", func := "coadjutor/coadjutorlaw25.CrewAlone", spec := "crewAlone", unfollowed := true, recurses := true, apart := false, narrowed := true }
def CrewAloneUptoSaid : Prop := crewAloneUptoRow.holds Tryz.pinned (OpenSpec.upto crewAloneSpec)

/-- 'coadjutorlaw25.CrewSays', WHERE WHAT IT READS IS OF BULK AT MOST 1048576: true; the input reads as it did. -/
def crewSaysUptoRow : OpenClaim := { program := "ytkbikekbaboclaagreat", sum := "cabb197709b8a1dd97f90716cba88b4110ebec766dc30b019e73335bec1d508b", func := "coadjutor/coadjutorlaw25.CrewSays", spec := "crewSays", unfollowed := true, recurses := true, apart := false, narrowed := true }
def CrewSaysUptoSaid : Prop := crewSaysUptoRow.holds Tryz.pinned (OpenSpec.upto crewSaysSpec)

/-- 'coadjutorlaw25.CrewExact', WHERE WHAT IT READS IS OF BULK AT MOST 1048576: true; the input reads as it did. -/
def crewExactUptoRow : OpenClaim := { program := "ytkbikekbaboclaagreat", sum := "cabb197709b8a1dd97f90716cba88b4110ebec766dc30b019e73335bec1d508b", func := "coadjutor/coadjutorlaw25.CrewExact", spec := "crewExact", unfollowed := true, recurses := true, apart := false, narrowed := true }
def CrewExactUptoSaid : Prop := crewExactUptoRow.holds Tryz.pinned (OpenSpec.upto crewExactSpec)

end Rows
end Go.Proofs.YtkbikekbaboclaaGreat
