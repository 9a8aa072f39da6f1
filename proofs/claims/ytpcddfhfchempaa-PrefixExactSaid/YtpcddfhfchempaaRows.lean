/-
  No cell of these rows narrows 'for every input' (looked for: loops, veiled, ifaces, maps, wideKeys, modest, calm, conditions, laid).
  DERIVED. THE GIVEN ROWS OF THIS SEAT. 8 by the template 'for every input the law returns true; each argument reads behind the call as it read before'; 0 by the template 'total and deterministic' (their statements: YtpcddfhfchempaaTotals.lean).
  GIVEN WITH THE SEED: the statements are not yours to turn. If you find one false, say at which input.
  Laid BY PROGRAM, IN A SANDBOX (cutbox-rows.mjs): the forced cells as the released guide's own fill.sh prints them over the translation 9f8ee53652e0763e… (all of the seat's roots in one cut). By AI agents, Wed Nov 11 2026. No macro, syntax, notation, axiom, sorry.
-/
import Derived.Test.YtpcddfhfchempaaChecked
import GoSem.Claim
import GoSem.ClaimJoined
import GoSem.ClaimMapViews
import Derived.JoinedTies
import Derived.KernelRfl
namespace Go.Proofs.Ytpcddfhfchempaa
/- THE CELL 'sum', in the pinned program and in every row, IS THE sha256 OF THE DUMP (.gsa) THAT YtpcddfhfchempaaProg.lean LOADS. Nothing in Lean hashes anything: it is a label: what it is worth is what the hold of that sum in a sandbox is worth. -/
noncomputable def Try.pinned : Pinned := { name := "ytpcddfhfchempaa", sum := "9f8ee53652e0763e704c09af5d9e2c8e554db68b7891bad3d78440b668fd0a57", checked := Try.checked }
namespace Rows
def none {H : Type} : Left H := { results := [], args := [] }

/-- 'coadjutorlaw22.PagesUsers': WHATEVER THE INPUT: true; the input reads as it did. -/
def pagesUsersSpec : ChangeSpec := { name := "pagesUsers", fn := fun _ => fun
  | [d1, d2] => { results := [.lit (.bool true)], args := [d1, d2] }
  | _ => none }
def pagesUsersRow : OpenClaim := { program := "ytpcddfhfchempaa", sum := "9f8ee53652e0763e704c09af5d9e2c8e554db68b7891bad3d78440b668fd0a57", func := "coadjutor/coadjutorlaw22.PagesUsers", spec := "pagesUsers", unfollowed := true, recurses := true, apart := false }
def PagesUsersSaid : Prop := pagesUsersRow.holds Try.pinned (OpenSpec.ofChange pagesUsersSpec)

/-- ITS FALSE NEIGHBOUR: 'it returns false'. Refute it at one input. -/
def pagesUsersWrong : ChangeSpec := { name := "pagesUsers", fn := fun _ => fun
  | [d1, d2] => { results := [.lit (.bool false)], args := [d1, d2] }
  | _ => none }
def PagesUsersWrongFalsely : Prop := pagesUsersRow.holds Try.pinned (OpenSpec.ofChange pagesUsersWrong)

/-- 'coadjutorlaw22.PagesApart': WHATEVER THE INPUT: true; the input reads as it did. -/
def pagesApartSpec : ChangeSpec := { name := "pagesApart", fn := fun _ => fun
  | [d1, d2] => { results := [.lit (.bool true)], args := [d1, d2] }
  | _ => none }
def pagesApartRow : OpenClaim := { program := "ytpcddfhfchempaa", sum := "9f8ee53652e0763e704c09af5d9e2c8e554db68b7891bad3d78440b668fd0a57", func := "coadjutor/coadjutorlaw22.PagesApart", spec := "pagesApart", unfollowed := true, recurses := true, apart := false }
def PagesApartSaid : Prop := pagesApartRow.holds Try.pinned (OpenSpec.ofChange pagesApartSpec)

/-- ITS FALSE NEIGHBOUR: 'it returns false'. Refute it at one input. -/
def pagesApartWrong : ChangeSpec := { name := "pagesApart", fn := fun _ => fun
  | [d1, d2] => { results := [.lit (.bool false)], args := [d1, d2] }
  | _ => none }
def PagesApartWrongFalsely : Prop := pagesApartRow.holds Try.pinned (OpenSpec.ofChange pagesApartWrong)

/-- 'coadjutorlaw22.PagesExact': WHATEVER THE INPUT: true; the input reads as it did. -/
def pagesExactSpec : ChangeSpec := { name := "pagesExact", fn := fun _ => fun
  | [d1, d2] => { results := [.lit (.bool true)], args := [d1, d2] }
  | _ => none }
def pagesExactRow : OpenClaim := { program := "ytpcddfhfchempaa", sum := "9f8ee53652e0763e704c09af5d9e2c8e554db68b7891bad3d78440b668fd0a57", func := "coadjutor/coadjutorlaw22.PagesExact", spec := "pagesExact", unfollowed := true, recurses := true, apart := false }
def PagesExactSaid : Prop := pagesExactRow.holds Try.pinned (OpenSpec.ofChange pagesExactSpec)

/-- ITS FALSE NEIGHBOUR: 'it returns false'. Refute it at one input. -/
def pagesExactWrong : ChangeSpec := { name := "pagesExact", fn := fun _ => fun
  | [d1, d2] => { results := [.lit (.bool false)], args := [d1, d2] }
  | _ => none }
def PagesExactWrongFalsely : Prop := pagesExactRow.holds Try.pinned (OpenSpec.ofChange pagesExactWrong)

/-- 'coadjutorlaw23.PrefixChain': WHATEVER THE INPUT: true; the input reads as it did. -/
def prefixChainSpec : ChangeSpec := { name := "prefixChain", fn := fun _ => fun
  | [d1, d2] => { results := [.lit (.bool true)], args := [d1, d2] }
  | _ => none }
def prefixChainRow : OpenClaim := { program := "ytpcddfhfchempaa", sum := "9f8ee53652e0763e704c09af5d9e2c8e554db68b7891bad3d78440b668fd0a57", func := "coadjutor/coadjutorlaw23.PrefixChain", spec := "prefixChain", unfollowed := true, recurses := true, apart := false }
def PrefixChainSaid : Prop := prefixChainRow.holds Try.pinned (OpenSpec.ofChange prefixChainSpec)

/-- ITS FALSE NEIGHBOUR: 'it returns false'. Refute it at one input. -/
def prefixChainWrong : ChangeSpec := { name := "prefixChain", fn := fun _ => fun
  | [d1, d2] => { results := [.lit (.bool false)], args := [d1, d2] }
  | _ => none }
def PrefixChainWrongFalsely : Prop := prefixChainRow.holds Try.pinned (OpenSpec.ofChange prefixChainWrong)

/-- 'coadjutorlaw23.PrefixExact': WHATEVER THE INPUT: true; the input reads as it did. -/
def prefixExactSpec : ChangeSpec := { name := "prefixExact", fn := fun _ => fun
  | [d] => { results := [.lit (.bool true)], args := [d] }
  | _ => none }
def prefixExactRow : OpenClaim := { program := "ytpcddfhfchempaa", sum := "9f8ee53652e0763e704c09af5d9e2c8e554db68b7891bad3d78440b668fd0a57", func := "coadjutor/coadjutorlaw23.PrefixExact", spec := "prefixExact", unfollowed := true, recurses := true, apart := false }
def PrefixExactSaid : Prop := prefixExactRow.holds Try.pinned (OpenSpec.ofChange prefixExactSpec)

/-- ITS FALSE NEIGHBOUR: 'it returns false'. Refute it at one input. -/
def prefixExactWrong : ChangeSpec := { name := "prefixExact", fn := fun _ => fun
  | [d] => { results := [.lit (.bool false)], args := [d] }
  | _ => none }
def PrefixExactWrongFalsely : Prop := prefixExactRow.holds Try.pinned (OpenSpec.ofChange prefixExactWrong)

/-- 'coadjutorlaw23.PrefixFree': WHATEVER THE INPUT: true; the input reads as it did. -/
def prefixFreeSpec : ChangeSpec := { name := "prefixFree", fn := fun _ => fun
  | [d] => { results := [.lit (.bool true)], args := [d] }
  | _ => none }
def prefixFreeRow : OpenClaim := { program := "ytpcddfhfchempaa", sum := "9f8ee53652e0763e704c09af5d9e2c8e554db68b7891bad3d78440b668fd0a57", func := "coadjutor/coadjutorlaw23.PrefixFree", spec := "prefixFree", unfollowed := true, recurses := true, apart := false }
def PrefixFreeSaid : Prop := prefixFreeRow.holds Try.pinned (OpenSpec.ofChange prefixFreeSpec)

/-- ITS FALSE NEIGHBOUR: 'it returns false'. Refute it at one input. -/
def prefixFreeWrong : ChangeSpec := { name := "prefixFree", fn := fun _ => fun
  | [d] => { results := [.lit (.bool false)], args := [d] }
  | _ => none }
def PrefixFreeWrongFalsely : Prop := prefixFreeRow.holds Try.pinned (OpenSpec.ofChange prefixFreeWrong)

/-- 'coadjutorlaw19.PatchRows': WHATEVER THE INPUT: true; the input reads as it did. -/
def patchRowsSpec : ChangeSpec := { name := "patchRows", fn := fun _ => fun
  | [d1, d2, d3] => { results := [.lit (.bool true)], args := [d1, d2, d3] }
  | _ => none }
def patchRowsRow : OpenClaim := { program := "ytpcddfhfchempaa", sum := "9f8ee53652e0763e704c09af5d9e2c8e554db68b7891bad3d78440b668fd0a57", func := "coadjutor/coadjutorlaw19.PatchRows", spec := "patchRows", inPlace := ["internal/abi.NoEscape"], unfollowed := true, recurses := true, apart := false }
def PatchRowsSaid : Prop := patchRowsRow.holds Try.pinned (OpenSpec.ofChange patchRowsSpec)

/-- ITS FALSE NEIGHBOUR: 'it returns false'. Refute it at one input. -/
def patchRowsWrong : ChangeSpec := { name := "patchRows", fn := fun _ => fun
  | [d1, d2, d3] => { results := [.lit (.bool false)], args := [d1, d2, d3] }
  | _ => none }
def PatchRowsWrongFalsely : Prop := patchRowsRow.holds Try.pinned (OpenSpec.ofChange patchRowsWrong)

/-- 'coadjutorlaw19.PatchBytes': WHATEVER THE INPUT: true; the input reads as it did. -/
def patchBytesSpec : ChangeSpec := { name := "patchBytes", fn := fun _ => fun
  | [d1, d2] => { results := [.lit (.bool true)], args := [d1, d2] }
  | _ => none }
def patchBytesRow : OpenClaim := { program := "ytpcddfhfchempaa", sum := "9f8ee53652e0763e704c09af5d9e2c8e554db68b7891bad3d78440b668fd0a57", func := "coadjutor/coadjutorlaw19.PatchBytes", spec := "patchBytes", inPlace := ["internal/abi.NoEscape"], unfollowed := true, recurses := true, apart := false }
def PatchBytesSaid : Prop := patchBytesRow.holds Try.pinned (OpenSpec.ofChange patchBytesSpec)

/-- ITS FALSE NEIGHBOUR: 'it returns false'. Refute it at one input. -/
def patchBytesWrong : ChangeSpec := { name := "patchBytes", fn := fun _ => fun
  | [d1, d2] => { results := [.lit (.bool false)], args := [d1, d2] }
  | _ => none }
def PatchBytesWrongFalsely : Prop := patchBytesRow.holds Try.pinned (OpenSpec.ofChange patchBytesWrong)

/- THE SECOND FORM. 'bulk': how many values and letters a reading holds, each counted each time it is reached (what is shared counts as often as it is met; a slice's spare places count too). A statement '..UptoSaid' is the law's where the arguments, and the package variables that the reading takes, are together of bulk at most 1048576: NARROWER than '..Said'. Prove '..Said' where nothing that the law and all that it calls make is longer than what came in: it says more and counts as full. Else prove '..UptoSaid'. A law counts once. -/
mutual
def uptoBulk {H : Type} : DataW H → Nat
  | .lit (.string bytes) => bytes.length + 1
  | .lit _ => 1
  | .nil => 1
  | .ptr d => uptoBulk d + 1
  | .slice elems spare => uptoBulkAll elems + uptoBulkAll spare + 1
  | .agg parts => uptoBulkAll parts + 1
  | .iface _ d => uptoBulk d + 1
  | .map entries => uptoBulkEntries entries + 1
  | .held _ => 1
def uptoBulkAll {H : Type} : List (DataW H) → Nat
  | [] => 0
  | d :: r => uptoBulk d + uptoBulkAll r
def uptoBulkEntries {H : Type} : List (Lit × DataW H) → Nat
  | [] => 0
  | x :: r => uptoBulkEntry x + uptoBulkEntries r
def uptoBulkEntry {H : Type} : Lit × DataW H → Nat
  | (.string bytes, d) => bytes.length + uptoBulk d + 1
  | (_, d) => uptoBulk d + 1
 end
def uptoSmall : (H : Type) → List (DataW H) → Bool := fun _ ds => decide (uptoBulkAll ds ≤ 1048576)
def OpenSpec.upto (s : _root_.Go.ChangeSpec) : _root_.Go.OpenSpec := { _root_.Go.OpenSpec.ofChange s with cond := some uptoSmall }

/-- 'coadjutorlaw22.PagesUsers', WHERE WHAT IT READS IS OF BULK AT MOST 1048576: true; the input reads as it did. -/
def pagesUsersUptoRow : OpenClaim := { program := "ytpcddfhfchempaa", sum := "9f8ee53652e0763e704c09af5d9e2c8e554db68b7891bad3d78440b668fd0a57", func := "coadjutor/coadjutorlaw22.PagesUsers", spec := "pagesUsers", unfollowed := true, recurses := true, apart := false, narrowed := true }
def PagesUsersUptoSaid : Prop := pagesUsersUptoRow.holds Try.pinned (OpenSpec.upto pagesUsersSpec)

/-- 'coadjutorlaw22.PagesApart', WHERE WHAT IT READS IS OF BULK AT MOST 1048576: true; the input reads as it did. -/
def pagesApartUptoRow : OpenClaim := { program := "ytpcddfhfchempaa", sum := "9f8ee53652e0763e704c09af5d9e2c8e554db68b7891bad3d78440b668fd0a57", func := "coadjutor/coadjutorlaw22.PagesApart", spec := "pagesApart", unfollowed := true, recurses := true, apart := false, narrowed := true }
def PagesApartUptoSaid : Prop := pagesApartUptoRow.holds Try.pinned (OpenSpec.upto pagesApartSpec)

/-- 'coadjutorlaw22.PagesExact', WHERE WHAT IT READS IS OF BULK AT MOST 1048576: true; the input reads as it did. -/
def pagesExactUptoRow : OpenClaim := { program := "ytpcddfhfchempaa", sum := "9f8ee53652e0763e704c09af5d9e2c8e554db68b7891bad3d78440b668fd0a57", func := "coadjutor/coadjutorlaw22.PagesExact", spec := "pagesExact", unfollowed := true, recurses := true, apart := false, narrowed := true }
def PagesExactUptoSaid : Prop := pagesExactUptoRow.holds Try.pinned (OpenSpec.upto pagesExactSpec)

/-- 'coadjutorlaw23.PrefixChain', WHERE WHAT IT READS IS OF BULK AT MOST 1048576: true; the input reads as it did. -/
def prefixChainUptoRow : OpenClaim := { program := "ytpcddfhfchempaa", sum := "9f8ee53652e0763e704c09af5d9e2c8e554db68b7891bad3d78440b668fd0a57", func := "coadjutor/coadjutorlaw23.PrefixChain", spec := "prefixChain", unfollowed := true, recurses := true, apart := false, narrowed := true }
def PrefixChainUptoSaid : Prop := prefixChainUptoRow.holds Try.pinned (OpenSpec.upto prefixChainSpec)

/-- 'coadjutorlaw23.PrefixExact', WHERE WHAT IT READS IS OF BULK AT MOST 1048576: true; the input reads as it did. -/
def prefixExactUptoRow : OpenClaim := { program := "ytpcddfhfchempaa", sum := "9f8ee53652e0763e704c09af5d9e2c8e554db68b7891bad3d78440b668fd0a57", func := "coadjutor/coadjutorlaw23.PrefixExact", spec := "prefixExact", unfollowed := true, recurses := true, apart := false, narrowed := true }
def PrefixExactUptoSaid : Prop := prefixExactUptoRow.holds Try.pinned (OpenSpec.upto prefixExactSpec)

/-- 'coadjutorlaw23.PrefixFree', WHERE WHAT IT READS IS OF BULK AT MOST 1048576: true; the input reads as it did. -/
def prefixFreeUptoRow : OpenClaim := { program := "ytpcddfhfchempaa", sum := "9f8ee53652e0763e704c09af5d9e2c8e554db68b7891bad3d78440b668fd0a57", func := "coadjutor/coadjutorlaw23.PrefixFree", spec := "prefixFree", unfollowed := true, recurses := true, apart := false, narrowed := true }
def PrefixFreeUptoSaid : Prop := prefixFreeUptoRow.holds Try.pinned (OpenSpec.upto prefixFreeSpec)

/-- 'coadjutorlaw19.PatchRows', WHERE WHAT IT READS IS OF BULK AT MOST 1048576: true; the input reads as it did. -/
def patchRowsUptoRow : OpenClaim := { program := "ytpcddfhfchempaa", sum := "9f8ee53652e0763e704c09af5d9e2c8e554db68b7891bad3d78440b668fd0a57", func := "coadjutor/coadjutorlaw19.PatchRows", spec := "patchRows", inPlace := ["internal/abi.NoEscape"], unfollowed := true, recurses := true, apart := false, narrowed := true }
def PatchRowsUptoSaid : Prop := patchRowsUptoRow.holds Try.pinned (OpenSpec.upto patchRowsSpec)

/-- 'coadjutorlaw19.PatchBytes', WHERE WHAT IT READS IS OF BULK AT MOST 1048576: true; the input reads as it did. -/
def patchBytesUptoRow : OpenClaim := { program := "ytpcddfhfchempaa", sum := "9f8ee53652e0763e704c09af5d9e2c8e554db68b7891bad3d78440b668fd0a57", func := "coadjutor/coadjutorlaw19.PatchBytes", spec := "patchBytes", inPlace := ["internal/abi.NoEscape"], unfollowed := true, recurses := true, apart := false, narrowed := true }
def PatchBytesUptoSaid : Prop := patchBytesUptoRow.holds Try.pinned (OpenSpec.upto patchBytesSpec)

end Rows
end Go.Proofs.Ytpcddfhfchempaa
