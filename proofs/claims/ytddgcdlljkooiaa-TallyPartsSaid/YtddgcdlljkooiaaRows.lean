/-
  No cell of these rows narrows 'for every input' (looked for: loops, veiled, ifaces, maps, wideKeys, modest, calm, conditions, laid).
  DERIVED. THE GIVEN ROWS OF THIS SEAT. 12 by the template 'for every input the law returns true; each argument reads behind the call as it read before'; 0 by the template 'total and deterministic' (their statements: YtddgcdlljkooiaaTotals.lean).
  GIVEN WITH THE SEED: the statements are not yours to turn. If you find one false, say at which input.
  Laid BY PROGRAM, IN A SANDBOX (cutbox-rows.mjs): the forced cells as the released guide's own fill.sh prints them over the translation c8b6fc8c009eaa99… (all of the seat's roots in one cut). By AI agents, Wed Nov 11 2026. No macro, syntax, notation, axiom, sorry.
-/
import Derived.Test.YtddgcdlljkooiaaChecked
import GoSem.Claim
import GoSem.ClaimJoined
import GoSem.ClaimMapViews
import Derived.JoinedTies
import Derived.KernelRfl
namespace Go.Proofs.Ytddgcdlljkooiaa
/- THE CELL 'sum', in the pinned program and in every row, IS THE sha256 OF THE DUMP (.gsa) THAT YtddgcdlljkooiaaProg.lean LOADS. Nothing in Lean hashes anything: it is a label: what it is worth is what the hold of that sum in a sandbox is worth. -/
noncomputable def Try.pinned : Pinned := { name := "ytddgcdlljkooiaa", sum := "c8b6fc8c009eaa99c5ec2e96ba0c644d18e8913f1a10d8f99e9543d7f35ede25", checked := Try.checked }
namespace Rows
def none {H : Type} : Left H := { results := [], args := [] }

/-- 'coadjutorlaw27.HealthHeals': WHATEVER THE INPUT: true; the input reads as it did. -/
def healthHealsSpec : ChangeSpec := { name := "healthHeals", fn := fun _ => fun
  | [d1, d2, d3] => { results := [.lit (.bool true)], args := [d1, d2, d3] }
  | _ => none }
def healthHealsRow : OpenClaim := { program := "ytddgcdlljkooiaa", sum := "c8b6fc8c009eaa99c5ec2e96ba0c644d18e8913f1a10d8f99e9543d7f35ede25", func := "coadjutor/coadjutorlaw27.HealthHeals", spec := "healthHeals", apart := false }
def HealthHealsSaid : Prop := healthHealsRow.holds Try.pinned (OpenSpec.ofChange healthHealsSpec)

/-- ITS FALSE NEIGHBOUR: 'it returns false'. Refute it at one input. -/
def healthHealsWrong : ChangeSpec := { name := "healthHeals", fn := fun _ => fun
  | [d1, d2, d3] => { results := [.lit (.bool false)], args := [d1, d2, d3] }
  | _ => none }
def HealthHealsWrongFalsely : Prop := healthHealsRow.holds Try.pinned (OpenSpec.ofChange healthHealsWrong)

/-- 'coadjutorlaw27.HealthExact': WHATEVER THE INPUT: true; the input reads as it did. -/
def healthExactSpec : ChangeSpec := { name := "healthExact", fn := fun _ => fun
  | [d1, d2, d3] => { results := [.lit (.bool true)], args := [d1, d2, d3] }
  | _ => none }
def healthExactRow : OpenClaim := { program := "ytddgcdlljkooiaa", sum := "c8b6fc8c009eaa99c5ec2e96ba0c644d18e8913f1a10d8f99e9543d7f35ede25", func := "coadjutor/coadjutorlaw27.HealthExact", spec := "healthExact", apart := false }
def HealthExactSaid : Prop := healthExactRow.holds Try.pinned (OpenSpec.ofChange healthExactSpec)

/-- ITS FALSE NEIGHBOUR: 'it returns false'. Refute it at one input. -/
def healthExactWrong : ChangeSpec := { name := "healthExact", fn := fun _ => fun
  | [d1, d2, d3] => { results := [.lit (.bool false)], args := [d1, d2, d3] }
  | _ => none }
def HealthExactWrongFalsely : Prop := healthExactRow.holds Try.pinned (OpenSpec.ofChange healthExactWrong)

/-- 'coadjutorlaw27.HealthAnew': WHATEVER THE INPUT: true; the input reads as it did. -/
def healthAnewSpec : ChangeSpec := { name := "healthAnew", fn := fun _ => fun
  | [d1, d2, d3, d4] => { results := [.lit (.bool true)], args := [d1, d2, d3, d4] }
  | _ => none }
def healthAnewRow : OpenClaim := { program := "ytddgcdlljkooiaa", sum := "c8b6fc8c009eaa99c5ec2e96ba0c644d18e8913f1a10d8f99e9543d7f35ede25", func := "coadjutor/coadjutorlaw27.HealthAnew", spec := "healthAnew", apart := false }
def HealthAnewSaid : Prop := healthAnewRow.holds Try.pinned (OpenSpec.ofChange healthAnewSpec)

/-- ITS FALSE NEIGHBOUR: 'it returns false'. Refute it at one input. -/
def healthAnewWrong : ChangeSpec := { name := "healthAnew", fn := fun _ => fun
  | [d1, d2, d3, d4] => { results := [.lit (.bool false)], args := [d1, d2, d3, d4] }
  | _ => none }
def HealthAnewWrongFalsely : Prop := healthAnewRow.holds Try.pinned (OpenSpec.ofChange healthAnewWrong)

/-- 'coadjutorlaw14.ActOpens': WHATEVER THE INPUT: true; the input reads as it did. -/
def actOpensSpec : ChangeSpec := { name := "actOpens", fn := fun _ => fun
  | [d1, d2] => { results := [.lit (.bool true)], args := [d1, d2] }
  | _ => none }
def actOpensRow : OpenClaim := { program := "ytddgcdlljkooiaa", sum := "c8b6fc8c009eaa99c5ec2e96ba0c644d18e8913f1a10d8f99e9543d7f35ede25", func := "coadjutor/coadjutorlaw14.ActOpens", spec := "actOpens", apart := false }
def ActOpensSaid : Prop := actOpensRow.holds Try.pinned (OpenSpec.ofChange actOpensSpec)

/-- ITS FALSE NEIGHBOUR: 'it returns false'. Refute it at one input. -/
def actOpensWrong : ChangeSpec := { name := "actOpens", fn := fun _ => fun
  | [d1, d2] => { results := [.lit (.bool false)], args := [d1, d2] }
  | _ => none }
def ActOpensWrongFalsely : Prop := actOpensRow.holds Try.pinned (OpenSpec.ofChange actOpensWrong)

/-- 'coadjutorlaw14.ActExact': WHATEVER THE INPUT: true; the input reads as it did. -/
def actExactSpec : ChangeSpec := { name := "actExact", fn := fun _ => fun
  | [d1, d2] => { results := [.lit (.bool true)], args := [d1, d2] }
  | _ => none }
def actExactRow : OpenClaim := { program := "ytddgcdlljkooiaa", sum := "c8b6fc8c009eaa99c5ec2e96ba0c644d18e8913f1a10d8f99e9543d7f35ede25", func := "coadjutor/coadjutorlaw14.ActExact", spec := "actExact", apart := false }
def ActExactSaid : Prop := actExactRow.holds Try.pinned (OpenSpec.ofChange actExactSpec)

/-- ITS FALSE NEIGHBOUR: 'it returns false'. Refute it at one input. -/
def actExactWrong : ChangeSpec := { name := "actExact", fn := fun _ => fun
  | [d1, d2] => { results := [.lit (.bool false)], args := [d1, d2] }
  | _ => none }
def ActExactWrongFalsely : Prop := actExactRow.holds Try.pinned (OpenSpec.ofChange actExactWrong)

/-- 'coadjutorlaw14.ActAll': WHATEVER THE INPUT: true; the input reads as it did. -/
def actAllSpec : ChangeSpec := { name := "actAll", fn := fun _ => fun
  | [d1, d2] => { results := [.lit (.bool true)], args := [d1, d2] }
  | _ => none }
def actAllRow : OpenClaim := { program := "ytddgcdlljkooiaa", sum := "c8b6fc8c009eaa99c5ec2e96ba0c644d18e8913f1a10d8f99e9543d7f35ede25", func := "coadjutor/coadjutorlaw14.ActAll", spec := "actAll", apart := false }
def ActAllSaid : Prop := actAllRow.holds Try.pinned (OpenSpec.ofChange actAllSpec)

/-- ITS FALSE NEIGHBOUR: 'it returns false'. Refute it at one input. -/
def actAllWrong : ChangeSpec := { name := "actAll", fn := fun _ => fun
  | [d1, d2] => { results := [.lit (.bool false)], args := [d1, d2] }
  | _ => none }
def ActAllWrongFalsely : Prop := actAllRow.holds Try.pinned (OpenSpec.ofChange actAllWrong)

/-- 'coadjutorlaw37.TallyExact': WHATEVER THE INPUT: true; the input reads as it did. -/
def tallyExactSpec : ChangeSpec := { name := "tallyExact", fn := fun _ => fun
  | [d1, d2] => { results := [.lit (.bool true)], args := [d1, d2] }
  | _ => none }
def tallyExactRow : OpenClaim := { program := "ytddgcdlljkooiaa", sum := "c8b6fc8c009eaa99c5ec2e96ba0c644d18e8913f1a10d8f99e9543d7f35ede25", func := "coadjutor/coadjutorlaw37.TallyExact", spec := "tallyExact", apart := false }
def TallyExactSaid : Prop := tallyExactRow.holds Try.pinned (OpenSpec.ofChange tallyExactSpec)

/-- ITS FALSE NEIGHBOUR: 'it returns false'. Refute it at one input. -/
def tallyExactWrong : ChangeSpec := { name := "tallyExact", fn := fun _ => fun
  | [d1, d2] => { results := [.lit (.bool false)], args := [d1, d2] }
  | _ => none }
def TallyExactWrongFalsely : Prop := tallyExactRow.holds Try.pinned (OpenSpec.ofChange tallyExactWrong)

/-- 'coadjutorlaw37.TallySums': WHATEVER THE INPUT: true; the input reads as it did. -/
def tallySumsSpec : ChangeSpec := { name := "tallySums", fn := fun _ => fun
  | [d1, d2, d3] => { results := [.lit (.bool true)], args := [d1, d2, d3] }
  | _ => none }
def tallySumsRow : OpenClaim := { program := "ytddgcdlljkooiaa", sum := "c8b6fc8c009eaa99c5ec2e96ba0c644d18e8913f1a10d8f99e9543d7f35ede25", func := "coadjutor/coadjutorlaw37.TallySums", spec := "tallySums", apart := false }
def TallySumsSaid : Prop := tallySumsRow.holds Try.pinned (OpenSpec.ofChange tallySumsSpec)

/-- ITS FALSE NEIGHBOUR: 'it returns false'. Refute it at one input. -/
def tallySumsWrong : ChangeSpec := { name := "tallySums", fn := fun _ => fun
  | [d1, d2, d3] => { results := [.lit (.bool false)], args := [d1, d2, d3] }
  | _ => none }
def TallySumsWrongFalsely : Prop := tallySumsRow.holds Try.pinned (OpenSpec.ofChange tallySumsWrong)

/-- 'coadjutorlaw37.TallyParts': WHATEVER THE INPUT: true; the input reads as it did. -/
def tallyPartsSpec : ChangeSpec := { name := "tallyParts", fn := fun _ => fun
  | [d1, d2] => { results := [.lit (.bool true)], args := [d1, d2] }
  | _ => none }
def tallyPartsRow : OpenClaim := { program := "ytddgcdlljkooiaa", sum := "c8b6fc8c009eaa99c5ec2e96ba0c644d18e8913f1a10d8f99e9543d7f35ede25", func := "coadjutor/coadjutorlaw37.TallyParts", spec := "tallyParts", apart := false }
def TallyPartsSaid : Prop := tallyPartsRow.holds Try.pinned (OpenSpec.ofChange tallyPartsSpec)

/-- ITS FALSE NEIGHBOUR: 'it returns false'. Refute it at one input. -/
def tallyPartsWrong : ChangeSpec := { name := "tallyParts", fn := fun _ => fun
  | [d1, d2] => { results := [.lit (.bool false)], args := [d1, d2] }
  | _ => none }
def TallyPartsWrongFalsely : Prop := tallyPartsRow.holds Try.pinned (OpenSpec.ofChange tallyPartsWrong)

/-- 'coadjutorlaw13.NormExact': WHATEVER THE INPUT: true; the input reads as it did. -/
def normExactSpec : ChangeSpec := { name := "normExact", fn := fun _ => fun
  | [d1, d2] => { results := [.lit (.bool true)], args := [d1, d2] }
  | _ => none }
def normExactRow : OpenClaim := { program := "ytddgcdlljkooiaa", sum := "c8b6fc8c009eaa99c5ec2e96ba0c644d18e8913f1a10d8f99e9543d7f35ede25", func := "coadjutor/coadjutorlaw13.NormExact", spec := "normExact", apart := false }
def NormExactSaid : Prop := normExactRow.holds Try.pinned (OpenSpec.ofChange normExactSpec)

/-- ITS FALSE NEIGHBOUR: 'it returns false'. Refute it at one input. -/
def normExactWrong : ChangeSpec := { name := "normExact", fn := fun _ => fun
  | [d1, d2] => { results := [.lit (.bool false)], args := [d1, d2] }
  | _ => none }
def NormExactWrongFalsely : Prop := normExactRow.holds Try.pinned (OpenSpec.ofChange normExactWrong)

/-- 'coadjutorlaw13.NormTurns': WHATEVER THE INPUT: true; the input reads as it did. -/
def normTurnsSpec : ChangeSpec := { name := "normTurns", fn := fun _ => fun
  | [d1, d2, d3] => { results := [.lit (.bool true)], args := [d1, d2, d3] }
  | _ => none }
def normTurnsRow : OpenClaim := { program := "ytddgcdlljkooiaa", sum := "c8b6fc8c009eaa99c5ec2e96ba0c644d18e8913f1a10d8f99e9543d7f35ede25", func := "coadjutor/coadjutorlaw13.NormTurns", spec := "normTurns", apart := false }
def NormTurnsSaid : Prop := normTurnsRow.holds Try.pinned (OpenSpec.ofChange normTurnsSpec)

/-- ITS FALSE NEIGHBOUR: 'it returns false'. Refute it at one input. -/
def normTurnsWrong : ChangeSpec := { name := "normTurns", fn := fun _ => fun
  | [d1, d2, d3] => { results := [.lit (.bool false)], args := [d1, d2, d3] }
  | _ => none }
def NormTurnsWrongFalsely : Prop := normTurnsRow.holds Try.pinned (OpenSpec.ofChange normTurnsWrong)

/-- 'coadjutorlaw13.NormSize': WHATEVER THE INPUT: true; the input reads as it did. -/
def normSizeSpec : ChangeSpec := { name := "normSize", fn := fun _ => fun
  | [d] => { results := [.lit (.bool true)], args := [d] }
  | _ => none }
def normSizeRow : OpenClaim := { program := "ytddgcdlljkooiaa", sum := "c8b6fc8c009eaa99c5ec2e96ba0c644d18e8913f1a10d8f99e9543d7f35ede25", func := "coadjutor/coadjutorlaw13.NormSize", spec := "normSize", apart := false }
def NormSizeSaid : Prop := normSizeRow.holds Try.pinned (OpenSpec.ofChange normSizeSpec)

/-- ITS FALSE NEIGHBOUR: 'it returns false'. Refute it at one input. -/
def normSizeWrong : ChangeSpec := { name := "normSize", fn := fun _ => fun
  | [d] => { results := [.lit (.bool false)], args := [d] }
  | _ => none }
def NormSizeWrongFalsely : Prop := normSizeRow.holds Try.pinned (OpenSpec.ofChange normSizeWrong)

/- THE SECOND FORM. 'bulk': how many values and letters a reading holds, each counted each time it is reached (what is shared counts as often as it is met; a slice's spare places count too). A statement '..UptoSaid' is the law's where the arguments, and the package variables that the reading takes, are together of bulk at most 1048576: NARROWER than '..Said'. Prove '..Said' where nothing that the law and all that it calls make is longer than what came in: it says more and counts as full. Else prove '..UptoSaid'. A law counts once. -/
mutual
def uptoBulk {H : Type} : DataW H → Nat
  | .lit (.string bytes) => bytes.length + 1
  | .lit _ => 1
  | .nil => 1
  | .ptr d => uptoBulk d + 1
  | .slice elems spare => uptoBulkAll elems + uptoBulkAll spare + 1
  | .agg parts => uptoBulkAll parts + 1
  | .iface _ d => uptoBulk d + 1
  | .map entries => uptoBulkEntries entries + 1
  | .held _ => 1
def uptoBulkAll {H : Type} : List (DataW H) → Nat
  | [] => 0
  | d :: r => uptoBulk d + uptoBulkAll r
def uptoBulkEntries {H : Type} : List (Lit × DataW H) → Nat
  | [] => 0
  | x :: r => uptoBulkEntry x + uptoBulkEntries r
def uptoBulkEntry {H : Type} : Lit × DataW H → Nat
  | (.string bytes, d) => bytes.length + uptoBulk d + 1
  | (_, d) => uptoBulk d + 1
 end
def uptoSmall : (H : Type) → List (DataW H) → Bool := fun _ ds => decide (uptoBulkAll ds ≤ 1048576)
def OpenSpec.upto (s : _root_.Go.ChangeSpec) : _root_.Go.OpenSpec := { _root_.Go.OpenSpec.ofChange s with cond := some uptoSmall }

/-- 'coadjutorlaw27.HealthHeals', WHERE WHAT IT READS IS OF BULK AT MOST 1048576: true; the input reads as it did. -/
def healthHealsUptoRow : OpenClaim := { program := "ytddgcdlljkooiaa", sum := "c8b6fc8c009eaa99c5ec2e96ba0c644d18e8913f1a10d8f99e9543d7f35ede25", func := "coadjutor/coadjutorlaw27.HealthHeals", spec := "healthHeals", apart := false, narrowed := true }
def HealthHealsUptoSaid : Prop := healthHealsUptoRow.holds Try.pinned (OpenSpec.upto healthHealsSpec)

/-- 'coadjutorlaw27.HealthExact', WHERE WHAT IT READS IS OF BULK AT MOST 1048576: true; the input reads as it did. -/
def healthExactUptoRow : OpenClaim := { program := "ytddgcdlljkooiaa", sum := "c8b6fc8c009eaa99c5ec2e96ba0c644d18e8913f1a10d8f99e9543d7f35ede25", func := "coadjutor/coadjutorlaw27.HealthExact", spec := "healthExact", apart := false, narrowed := true }
def HealthExactUptoSaid : Prop := healthExactUptoRow.holds Try.pinned (OpenSpec.upto healthExactSpec)

/-- 'coadjutorlaw27.HealthAnew', WHERE WHAT IT READS IS OF BULK AT MOST 1048576: true; the input reads as it did. -/
def healthAnewUptoRow : OpenClaim := { program := "ytddgcdlljkooiaa", sum := "c8b6fc8c009eaa99c5ec2e96ba0c644d18e8913f1a10d8f99e9543d7f35ede25", func := "coadjutor/coadjutorlaw27.HealthAnew", spec := "healthAnew", apart := false, narrowed := true }
def HealthAnewUptoSaid : Prop := healthAnewUptoRow.holds Try.pinned (OpenSpec.upto healthAnewSpec)

/-- 'coadjutorlaw14.ActOpens', WHERE WHAT IT READS IS OF BULK AT MOST 1048576: true; the input reads as it did. -/
def actOpensUptoRow : OpenClaim := { program := "ytddgcdlljkooiaa", sum := "c8b6fc8c009eaa99c5ec2e96ba0c644d18e8913f1a10d8f99e9543d7f35ede25", func := "coadjutor/coadjutorlaw14.ActOpens", spec := "actOpens", apart := false, narrowed := true }
def ActOpensUptoSaid : Prop := actOpensUptoRow.holds Try.pinned (OpenSpec.upto actOpensSpec)

/-- 'coadjutorlaw14.ActExact', WHERE WHAT IT READS IS OF BULK AT MOST 1048576: true; the input reads as it did. -/
def actExactUptoRow : OpenClaim := { program := "ytddgcdlljkooiaa", sum := "c8b6fc8c009eaa99c5ec2e96ba0c644d18e8913f1a10d8f99e9543d7f35ede25", func := "coadjutor/coadjutorlaw14.ActExact", spec := "actExact", apart := false, narrowed := true }
def ActExactUptoSaid : Prop := actExactUptoRow.holds Try.pinned (OpenSpec.upto actExactSpec)

/-- 'coadjutorlaw14.ActAll', WHERE WHAT IT READS IS OF BULK AT MOST 1048576: true; the input reads as it did. -/
def actAllUptoRow : OpenClaim := { program := "ytddgcdlljkooiaa", sum := "c8b6fc8c009eaa99c5ec2e96ba0c644d18e8913f1a10d8f99e9543d7f35ede25", func := "coadjutor/coadjutorlaw14.ActAll", spec := "actAll", apart := false, narrowed := true }
def ActAllUptoSaid : Prop := actAllUptoRow.holds Try.pinned (OpenSpec.upto actAllSpec)

/-- 'coadjutorlaw37.TallyExact', WHERE WHAT IT READS IS OF BULK AT MOST 1048576: true; the input reads as it did. -/
def tallyExactUptoRow : OpenClaim := { program := "ytddgcdlljkooiaa", sum := "c8b6fc8c009eaa99c5ec2e96ba0c644d18e8913f1a10d8f99e9543d7f35ede25", func := "coadjutor/coadjutorlaw37.TallyExact", spec := "tallyExact", apart := false, narrowed := true }
def TallyExactUptoSaid : Prop := tallyExactUptoRow.holds Try.pinned (OpenSpec.upto tallyExactSpec)

/-- 'coadjutorlaw37.TallySums', WHERE WHAT IT READS IS OF BULK AT MOST 1048576: true; the input reads as it did. -/
def tallySumsUptoRow : OpenClaim := { program := "ytddgcdlljkooiaa", sum := "c8b6fc8c009eaa99c5ec2e96ba0c644d18e8913f1a10d8f99e9543d7f35ede25", func := "coadjutor/coadjutorlaw37.TallySums", spec := "tallySums", apart := false, narrowed := true }
def TallySumsUptoSaid : Prop := tallySumsUptoRow.holds Try.pinned (OpenSpec.upto tallySumsSpec)

/-- 'coadjutorlaw37.TallyParts', WHERE WHAT IT READS IS OF BULK AT MOST 1048576: true; the input reads as it did. -/
def tallyPartsUptoRow : OpenClaim := { program := "ytddgcdlljkooiaa", sum := "c8b6fc8c009eaa99c5ec2e96ba0c644d18e8913f1a10d8f99e9543d7f35ede25", func := "coadjutor/coadjutorlaw37.TallyParts", spec := "tallyParts", apart := false, narrowed := true }
def TallyPartsUptoSaid : Prop := tallyPartsUptoRow.holds Try.pinned (OpenSpec.upto tallyPartsSpec)

/-- 'coadjutorlaw13.NormExact', WHERE WHAT IT READS IS OF BULK AT MOST 1048576: true; the input reads as it did. -/
def normExactUptoRow : OpenClaim := { program := "ytddgcdlljkooiaa", sum := "c8b6fc8c009eaa99c5ec2e96ba0c644d18e8913f1a10d8f99e9543d7f35ede25", func := "coadjutor/coadjutorlaw13.NormExact", spec := "normExact", apart := false, narrowed := true }
def NormExactUptoSaid : Prop := normExactUptoRow.holds Try.pinned (OpenSpec.upto normExactSpec)

/-- 'coadjutorlaw13.NormTurns', WHERE WHAT IT READS IS OF BULK AT MOST 1048576: true; the input reads as it did. -/
def normTurnsUptoRow : OpenClaim := { program := "ytddgcdlljkooiaa", sum := "c8b6fc8c009eaa99c5ec2e96ba0c644d18e8913f1a10d8f99e9543d7f35ede25", func := "coadjutor/coadjutorlaw13.NormTurns", spec := "normTurns", apart := false, narrowed := true }
def NormTurnsUptoSaid : Prop := normTurnsUptoRow.holds Try.pinned (OpenSpec.upto normTurnsSpec)

/-- 'coadjutorlaw13.NormSize', WHERE WHAT IT READS IS OF BULK AT MOST 1048576: true; the input reads as it did. -/
def normSizeUptoRow : OpenClaim := { program := "ytddgcdlljkooiaa", sum := "c8b6fc8c009eaa99c5ec2e96ba0c644d18e8913f1a10d8f99e9543d7f35ede25", func := "coadjutor/coadjutorlaw13.NormSize", spec := "normSize", apart := false, narrowed := true }
def NormSizeUptoSaid : Prop := normSizeUptoRow.holds Try.pinned (OpenSpec.upto normSizeSpec)

end Rows
end Go.Proofs.Ytddgcdlljkooiaa
