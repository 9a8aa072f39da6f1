/-
  No cell of these rows narrows 'for every input' (looked for: loops, veiled, ifaces, maps, wideKeys, modest, calm, conditions, laid).
  DERIVED. THE GIVEN ROWS OF THIS SEAT. 11 by the template 'for every input the law returns true; each argument reads behind the call as it read before'; 0 by the template 'total and deterministic' (their statements: YtefidalhijpmdaaTotals.lean).
  GIVEN WITH THE SEED: the statements are not yours to turn. If you find one false, say at which input.
  Laid BY PROGRAM, IN A SANDBOX (cutbox-rows.mjs): the forced cells as the released guide's own fill.sh prints them over the translation 41feabe21d62bed9… (all of the seat's roots in one cut). By AI agents, Wed Nov 11 2026. No macro, syntax, notation, axiom, sorry.
-/
import Derived.Test.YtefidalhijpmdaaChecked
import GoSem.Claim
import GoSem.ClaimJoined
import GoSem.ClaimMapViews
import Derived.JoinedTies
import Derived.KernelRfl
namespace Go.Proofs.Ytefidalhijpmdaa
/- THE CELL 'sum', in the pinned program and in every row, IS THE sha256 OF THE DUMP (.gsa) THAT YtefidalhijpmdaaProg.lean LOADS. Nothing in Lean hashes anything: it is a label: what it is worth is what the hold of that sum in a sandbox is worth. -/
noncomputable def Try.pinned : Pinned := { name := "ytefidalhijpmdaa", sum := "41feabe21d62bed9b6b25e52b5842a9893f11152dabda63ea3f16fb3a73f0d39", checked := Try.checked }
namespace Rows
def none {H : Type} : Left H := { results := [], args := [] }

/-- 'coadjutorlaw01.NumShift': WHATEVER THE INPUT: true; the input reads as it did. -/
def numShiftSpec : ChangeSpec := { name := "numShift", fn := fun _ => fun
  | [d1, d2] => { results := [.lit (.bool true)], args := [d1, d2] }
  | _ => none }
def numShiftRow : OpenClaim := { program := "ytefidalhijpmdaa", sum := "41feabe21d62bed9b6b25e52b5842a9893f11152dabda63ea3f16fb3a73f0d39", func := "coadjutor/coadjutorlaw01.NumShift", spec := "numShift", apart := false }
def NumShiftSaid : Prop := numShiftRow.holds Try.pinned (OpenSpec.ofChange numShiftSpec)

/-- ITS FALSE NEIGHBOUR: 'it returns false'. Refute it at one input. -/
def numShiftWrong : ChangeSpec := { name := "numShift", fn := fun _ => fun
  | [d1, d2] => { results := [.lit (.bool false)], args := [d1, d2] }
  | _ => none }
def NumShiftWrongFalsely : Prop := numShiftRow.holds Try.pinned (OpenSpec.ofChange numShiftWrong)

/-- 'coadjutorlaw01.NumRoot': WHATEVER THE INPUT: true; the input reads as it did. -/
def numRootSpec : ChangeSpec := { name := "numRoot", fn := fun _ => fun
  | [d1, d2] => { results := [.lit (.bool true)], args := [d1, d2] }
  | _ => none }
def numRootRow : OpenClaim := { program := "ytefidalhijpmdaa", sum := "41feabe21d62bed9b6b25e52b5842a9893f11152dabda63ea3f16fb3a73f0d39", func := "coadjutor/coadjutorlaw01.NumRoot", spec := "numRoot", apart := false }
def NumRootSaid : Prop := numRootRow.holds Try.pinned (OpenSpec.ofChange numRootSpec)

/-- ITS FALSE NEIGHBOUR: 'it returns false'. Refute it at one input. -/
def numRootWrong : ChangeSpec := { name := "numRoot", fn := fun _ => fun
  | [d1, d2] => { results := [.lit (.bool false)], args := [d1, d2] }
  | _ => none }
def NumRootWrongFalsely : Prop := numRootRow.holds Try.pinned (OpenSpec.ofChange numRootWrong)

/-- 'coadjutorlaw01.NumDiv': WHATEVER THE INPUT: true; the input reads as it did. -/
def numDivSpec : ChangeSpec := { name := "numDiv", fn := fun _ => fun
  | [d1, d2] => { results := [.lit (.bool true)], args := [d1, d2] }
  | _ => none }
def numDivRow : OpenClaim := { program := "ytefidalhijpmdaa", sum := "41feabe21d62bed9b6b25e52b5842a9893f11152dabda63ea3f16fb3a73f0d39", func := "coadjutor/coadjutorlaw01.NumDiv", spec := "numDiv", apart := false }
def NumDivSaid : Prop := numDivRow.holds Try.pinned (OpenSpec.ofChange numDivSpec)

/-- ITS FALSE NEIGHBOUR: 'it returns false'. Refute it at one input. -/
def numDivWrong : ChangeSpec := { name := "numDiv", fn := fun _ => fun
  | [d1, d2] => { results := [.lit (.bool false)], args := [d1, d2] }
  | _ => none }
def NumDivWrongFalsely : Prop := numDivRow.holds Try.pinned (OpenSpec.ofChange numDivWrong)

/-- 'coadjutorlaw01.NumExact': WHATEVER THE INPUT: true; the input reads as it did. -/
def numExactSpec : ChangeSpec := { name := "numExact", fn := fun _ => fun
  | [d1, d2, d3, d4] => { results := [.lit (.bool true)], args := [d1, d2, d3, d4] }
  | _ => none }
def numExactRow : OpenClaim := { program := "ytefidalhijpmdaa", sum := "41feabe21d62bed9b6b25e52b5842a9893f11152dabda63ea3f16fb3a73f0d39", func := "coadjutor/coadjutorlaw01.NumExact", spec := "numExact", apart := false }
def NumExactSaid : Prop := numExactRow.holds Try.pinned (OpenSpec.ofChange numExactSpec)

/-- ITS FALSE NEIGHBOUR: 'it returns false'. Refute it at one input. -/
def numExactWrong : ChangeSpec := { name := "numExact", fn := fun _ => fun
  | [d1, d2, d3, d4] => { results := [.lit (.bool false)], args := [d1, d2, d3, d4] }
  | _ => none }
def NumExactWrongFalsely : Prop := numExactRow.holds Try.pinned (OpenSpec.ofChange numExactWrong)

/-- 'coadjutorlaw08.BitsFill': WHATEVER THE INPUT: true; the input reads as it did. -/
def bitsFillSpec : ChangeSpec := { name := "bitsFill", fn := fun _ => fun
  | [d1, d2] => { results := [.lit (.bool true)], args := [d1, d2] }
  | _ => none }
def bitsFillRow : OpenClaim := { program := "ytefidalhijpmdaa", sum := "41feabe21d62bed9b6b25e52b5842a9893f11152dabda63ea3f16fb3a73f0d39", func := "coadjutor/coadjutorlaw08.BitsFill", spec := "bitsFill", unfollowed := true, recurses := true, apart := false }
def BitsFillSaid : Prop := bitsFillRow.holds Try.pinned (OpenSpec.ofChange bitsFillSpec)

/-- ITS FALSE NEIGHBOUR: 'it returns false'. Refute it at one input. -/
def bitsFillWrong : ChangeSpec := { name := "bitsFill", fn := fun _ => fun
  | [d1, d2] => { results := [.lit (.bool false)], args := [d1, d2] }
  | _ => none }
def BitsFillWrongFalsely : Prop := bitsFillRow.holds Try.pinned (OpenSpec.ofChange bitsFillWrong)

/-- 'coadjutorlaw08.BitsExact': WHATEVER THE INPUT: true; the input reads as it did. -/
def bitsExactSpec : ChangeSpec := { name := "bitsExact", fn := fun _ => fun
  | [d1, d2] => { results := [.lit (.bool true)], args := [d1, d2] }
  | _ => none }
def bitsExactRow : OpenClaim := { program := "ytefidalhijpmdaa", sum := "41feabe21d62bed9b6b25e52b5842a9893f11152dabda63ea3f16fb3a73f0d39", func := "coadjutor/coadjutorlaw08.BitsExact", spec := "bitsExact", unfollowed := true, recurses := true, apart := false }
def BitsExactSaid : Prop := bitsExactRow.holds Try.pinned (OpenSpec.ofChange bitsExactSpec)

/-- ITS FALSE NEIGHBOUR: 'it returns false'. Refute it at one input. -/
def bitsExactWrong : ChangeSpec := { name := "bitsExact", fn := fun _ => fun
  | [d1, d2] => { results := [.lit (.bool false)], args := [d1, d2] }
  | _ => none }
def BitsExactWrongFalsely : Prop := bitsExactRow.holds Try.pinned (OpenSpec.ofChange bitsExactWrong)

/-- 'coadjutorlaw08.BitsParse': WHATEVER THE INPUT: true; the input reads as it did. -/
def bitsParseSpec : ChangeSpec := { name := "bitsParse", fn := fun _ => fun
  | [d1, d2] => { results := [.lit (.bool true)], args := [d1, d2] }
  | _ => none }
def bitsParseRow : OpenClaim := { program := "ytefidalhijpmdaa", sum := "41feabe21d62bed9b6b25e52b5842a9893f11152dabda63ea3f16fb3a73f0d39", func := "coadjutor/coadjutorlaw08.BitsParse", spec := "bitsParse", unfollowed := true, recurses := true, apart := false }
def BitsParseSaid : Prop := bitsParseRow.holds Try.pinned (OpenSpec.ofChange bitsParseSpec)

/-- ITS FALSE NEIGHBOUR: 'it returns false'. Refute it at one input. -/
def bitsParseWrong : ChangeSpec := { name := "bitsParse", fn := fun _ => fun
  | [d1, d2] => { results := [.lit (.bool false)], args := [d1, d2] }
  | _ => none }
def BitsParseWrongFalsely : Prop := bitsParseRow.holds Try.pinned (OpenSpec.ofChange bitsParseWrong)

/-- 'coadjutorlaw08.BitsBack': WHATEVER THE INPUT: true; the input reads as it did. -/
def bitsBackSpec : ChangeSpec := { name := "bitsBack", fn := fun _ => fun
  | [d1, d2, d3] => { results := [.lit (.bool true)], args := [d1, d2, d3] }
  | _ => none }
def bitsBackRow : OpenClaim := { program := "ytefidalhijpmdaa", sum := "41feabe21d62bed9b6b25e52b5842a9893f11152dabda63ea3f16fb3a73f0d39", func := "coadjutor/coadjutorlaw08.BitsBack", spec := "bitsBack", unfollowed := true, recurses := true, apart := false }
def BitsBackSaid : Prop := bitsBackRow.holds Try.pinned (OpenSpec.ofChange bitsBackSpec)

/-- ITS FALSE NEIGHBOUR: 'it returns false'. Refute it at one input. -/
def bitsBackWrong : ChangeSpec := { name := "bitsBack", fn := fun _ => fun
  | [d1, d2, d3] => { results := [.lit (.bool false)], args := [d1, d2, d3] }
  | _ => none }
def BitsBackWrongFalsely : Prop := bitsBackRow.holds Try.pinned (OpenSpec.ofChange bitsBackWrong)

/-- 'coadjutorlaw11.VecsLinear': WHATEVER THE INPUT: true; the input reads as it did. -/
def vecsLinearSpec : ChangeSpec := { name := "vecsLinear", fn := fun _ => fun
  | [d1, d2, d3] => { results := [.lit (.bool true)], args := [d1, d2, d3] }
  | _ => none }
def vecsLinearRow : OpenClaim := { program := "ytefidalhijpmdaa", sum := "41feabe21d62bed9b6b25e52b5842a9893f11152dabda63ea3f16fb3a73f0d39", func := "coadjutor/coadjutorlaw11.VecsLinear", spec := "vecsLinear", apart := false }
def VecsLinearSaid : Prop := vecsLinearRow.holds Try.pinned (OpenSpec.ofChange vecsLinearSpec)

/-- ITS FALSE NEIGHBOUR: 'it returns false'. Refute it at one input. -/
def vecsLinearWrong : ChangeSpec := { name := "vecsLinear", fn := fun _ => fun
  | [d1, d2, d3] => { results := [.lit (.bool false)], args := [d1, d2, d3] }
  | _ => none }
def VecsLinearWrongFalsely : Prop := vecsLinearRow.holds Try.pinned (OpenSpec.ofChange vecsLinearWrong)

/-- 'coadjutorlaw11.VecsTables': WHATEVER THE INPUT: true; the input reads as it did. -/
def vecsTablesSpec : ChangeSpec := { name := "vecsTables", fn := fun _ => fun
  | [d1, d2, d3] => { results := [.lit (.bool true)], args := [d1, d2, d3] }
  | _ => none }
def vecsTablesRow : OpenClaim := { program := "ytefidalhijpmdaa", sum := "41feabe21d62bed9b6b25e52b5842a9893f11152dabda63ea3f16fb3a73f0d39", func := "coadjutor/coadjutorlaw11.VecsTables", spec := "vecsTables", apart := false }
def VecsTablesSaid : Prop := vecsTablesRow.holds Try.pinned (OpenSpec.ofChange vecsTablesSpec)

/-- ITS FALSE NEIGHBOUR: 'it returns false'. Refute it at one input. -/
def vecsTablesWrong : ChangeSpec := { name := "vecsTables", fn := fun _ => fun
  | [d1, d2, d3] => { results := [.lit (.bool false)], args := [d1, d2, d3] }
  | _ => none }
def VecsTablesWrongFalsely : Prop := vecsTablesRow.holds Try.pinned (OpenSpec.ofChange vecsTablesWrong)

/-- 'coadjutorlaw11.VecsExact': WHATEVER THE INPUT: true; the input reads as it did. -/
def vecsExactSpec : ChangeSpec := { name := "vecsExact", fn := fun _ => fun
  | [d1, d2, d3, d4] => { results := [.lit (.bool true)], args := [d1, d2, d3, d4] }
  | _ => none }
def vecsExactRow : OpenClaim := { program := "ytefidalhijpmdaa", sum := "41feabe21d62bed9b6b25e52b5842a9893f11152dabda63ea3f16fb3a73f0d39", func := "coadjutor/coadjutorlaw11.VecsExact", spec := "vecsExact", apart := false }
def VecsExactSaid : Prop := vecsExactRow.holds Try.pinned (OpenSpec.ofChange vecsExactSpec)

/-- ITS FALSE NEIGHBOUR: 'it returns false'. Refute it at one input. -/
def vecsExactWrong : ChangeSpec := { name := "vecsExact", fn := fun _ => fun
  | [d1, d2, d3, d4] => { results := [.lit (.bool false)], args := [d1, d2, d3, d4] }
  | _ => none }
def VecsExactWrongFalsely : Prop := vecsExactRow.holds Try.pinned (OpenSpec.ofChange vecsExactWrong)

/- THE SECOND FORM. 'bulk': how many values and letters a reading holds, each counted each time it is reached (what is shared counts as often as it is met; a slice's spare places count too). A statement '..UptoSaid' is the law's where the arguments, and the package variables that the reading takes, are together of bulk at most 1048576: NARROWER than '..Said'. Prove '..Said' where nothing that the law and all that it calls make is longer than what came in: it says more and counts as full. Else prove '..UptoSaid'. A law counts once. -/
mutual
def uptoBulk {H : Type} : DataW H → Nat
  | .lit (.string bytes) => bytes.length + 1
  | .lit _ => 1
  | .nil => 1
  | .ptr d => uptoBulk d + 1
  | .slice elems spare => uptoBulkAll elems + uptoBulkAll spare + 1
  | .agg parts => uptoBulkAll parts + 1
  | .iface _ d => uptoBulk d + 1
  | .map entries => uptoBulkEntries entries + 1
  | .held _ => 1
def uptoBulkAll {H : Type} : List (DataW H) → Nat
  | [] => 0
  | d :: r => uptoBulk d + uptoBulkAll r
def uptoBulkEntries {H : Type} : List (Lit × DataW H) → Nat
  | [] => 0
  | x :: r => uptoBulkEntry x + uptoBulkEntries r
def uptoBulkEntry {H : Type} : Lit × DataW H → Nat
  | (.string bytes, d) => bytes.length + uptoBulk d + 1
  | (_, d) => uptoBulk d + 1
 end
def uptoSmall : (H : Type) → List (DataW H) → Bool := fun _ ds => decide (uptoBulkAll ds ≤ 1048576)
def OpenSpec.upto (s : _root_.Go.ChangeSpec) : _root_.Go.OpenSpec := { _root_.Go.OpenSpec.ofChange s with cond := some uptoSmall }

/-- 'coadjutorlaw01.NumShift', WHERE WHAT IT READS IS OF BULK AT MOST 1048576: true; the input reads as it did. -/
def numShiftUptoRow : OpenClaim := { program := "ytefidalhijpmdaa", sum := "41feabe21d62bed9b6b25e52b5842a9893f11152dabda63ea3f16fb3a73f0d39", func := "coadjutor/coadjutorlaw01.NumShift", spec := "numShift", apart := false, narrowed := true }
def NumShiftUptoSaid : Prop := numShiftUptoRow.holds Try.pinned (OpenSpec.upto numShiftSpec)

/-- 'coadjutorlaw01.NumRoot', WHERE WHAT IT READS IS OF BULK AT MOST 1048576: true; the input reads as it did. -/
def numRootUptoRow : OpenClaim := { program := "ytefidalhijpmdaa", sum := "41feabe21d62bed9b6b25e52b5842a9893f11152dabda63ea3f16fb3a73f0d39", func := "coadjutor/coadjutorlaw01.NumRoot", spec := "numRoot", apart := false, narrowed := true }
def NumRootUptoSaid : Prop := numRootUptoRow.holds Try.pinned (OpenSpec.upto numRootSpec)

/-- 'coadjutorlaw01.NumDiv', WHERE WHAT IT READS IS OF BULK AT MOST 1048576: true; the input reads as it did. -/
def numDivUptoRow : OpenClaim := { program := "ytefidalhijpmdaa", sum := "41feabe21d62bed9b6b25e52b5842a9893f11152dabda63ea3f16fb3a73f0d39", func := "coadjutor/coadjutorlaw01.NumDiv", spec := "numDiv", apart := false, narrowed := true }
def NumDivUptoSaid : Prop := numDivUptoRow.holds Try.pinned (OpenSpec.upto numDivSpec)

/-- 'coadjutorlaw01.NumExact', WHERE WHAT IT READS IS OF BULK AT MOST 1048576: true; the input reads as it did. -/
def numExactUptoRow : OpenClaim := { program := "ytefidalhijpmdaa", sum := "41feabe21d62bed9b6b25e52b5842a9893f11152dabda63ea3f16fb3a73f0d39", func := "coadjutor/coadjutorlaw01.NumExact", spec := "numExact", apart := false, narrowed := true }
def NumExactUptoSaid : Prop := numExactUptoRow.holds Try.pinned (OpenSpec.upto numExactSpec)

/-- 'coadjutorlaw08.BitsFill', WHERE WHAT IT READS IS OF BULK AT MOST 1048576: true; the input reads as it did. -/
def bitsFillUptoRow : OpenClaim := { program := "ytefidalhijpmdaa", sum := "41feabe21d62bed9b6b25e52b5842a9893f11152dabda63ea3f16fb3a73f0d39", func := "coadjutor/coadjutorlaw08.BitsFill", spec := "bitsFill", unfollowed := true, recurses := true, apart := false, narrowed := true }
def BitsFillUptoSaid : Prop := bitsFillUptoRow.holds Try.pinned (OpenSpec.upto bitsFillSpec)

/-- 'coadjutorlaw08.BitsExact', WHERE WHAT IT READS IS OF BULK AT MOST 1048576: true; the input reads as it did. -/
def bitsExactUptoRow : OpenClaim := { program := "ytefidalhijpmdaa", sum := "41feabe21d62bed9b6b25e52b5842a9893f11152dabda63ea3f16fb3a73f0d39", func := "coadjutor/coadjutorlaw08.BitsExact", spec := "bitsExact", unfollowed := true, recurses := true, apart := false, narrowed := true }
def BitsExactUptoSaid : Prop := bitsExactUptoRow.holds Try.pinned (OpenSpec.upto bitsExactSpec)

/-- 'coadjutorlaw08.BitsParse', WHERE WHAT IT READS IS OF BULK AT MOST 1048576: true; the input reads as it did. -/
def bitsParseUptoRow : OpenClaim := { program := "ytefidalhijpmdaa", sum := "41feabe21d62bed9b6b25e52b5842a9893f11152dabda63ea3f16fb3a73f0d39", func := "coadjutor/coadjutorlaw08.BitsParse", spec := "bitsParse", unfollowed := true, recurses := true, apart := false, narrowed := true }
def BitsParseUptoSaid : Prop := bitsParseUptoRow.holds Try.pinned (OpenSpec.upto bitsParseSpec)

/-- 'coadjutorlaw08.BitsBack', WHERE WHAT IT READS IS OF BULK AT MOST 1048576: true; the input reads as it did. -/
def bitsBackUptoRow : OpenClaim := { program := "ytefidalhijpmdaa", sum := "41feabe21d62bed9b6b25e52b5842a9893f11152dabda63ea3f16fb3a73f0d39", func := "coadjutor/coadjutorlaw08.BitsBack", spec := "bitsBack", unfollowed := true, recurses := true, apart := false, narrowed := true }
def BitsBackUptoSaid : Prop := bitsBackUptoRow.holds Try.pinned (OpenSpec.upto bitsBackSpec)

/-- 'coadjutorlaw11.VecsLinear', WHERE WHAT IT READS IS OF BULK AT MOST 1048576: true; the input reads as it did. -/
def vecsLinearUptoRow : OpenClaim := { program := "ytefidalhijpmdaa", sum := "41feabe21d62bed9b6b25e52b5842a9893f11152dabda63ea3f16fb3a73f0d39", func := "coadjutor/coadjutorlaw11.VecsLinear", spec := "vecsLinear", apart := false, narrowed := true }
def VecsLinearUptoSaid : Prop := vecsLinearUptoRow.holds Try.pinned (OpenSpec.upto vecsLinearSpec)

/-- 'coadjutorlaw11.VecsTables', WHERE WHAT IT READS IS OF BULK AT MOST 1048576: true; the input reads as it did. -/
def vecsTablesUptoRow : OpenClaim := { program := "ytefidalhijpmdaa", sum := "41feabe21d62bed9b6b25e52b5842a9893f11152dabda63ea3f16fb3a73f0d39", func := "coadjutor/coadjutorlaw11.VecsTables", spec := "vecsTables", apart := false, narrowed := true }
def VecsTablesUptoSaid : Prop := vecsTablesUptoRow.holds Try.pinned (OpenSpec.upto vecsTablesSpec)

/-- 'coadjutorlaw11.VecsExact', WHERE WHAT IT READS IS OF BULK AT MOST 1048576: true; the input reads as it did. -/
def vecsExactUptoRow : OpenClaim := { program := "ytefidalhijpmdaa", sum := "41feabe21d62bed9b6b25e52b5842a9893f11152dabda63ea3f16fb3a73f0d39", func := "coadjutor/coadjutorlaw11.VecsExact", spec := "vecsExact", apart := false, narrowed := true }
def VecsExactUptoSaid : Prop := vecsExactUptoRow.holds Try.pinned (OpenSpec.upto vecsExactSpec)

end Rows
end Go.Proofs.Ytefidalhijpmdaa
