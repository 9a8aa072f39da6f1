/-
  No cell of these rows narrows 'for every input' (looked for: loops, veiled, ifaces, maps, wideKeys, modest, calm, conditions, laid).
  DERIVED. THE GIVEN ROWS OF THIS SEAT. 5 by the template 'for every input the law returns true; each argument reads behind the call as it read before'; 0 by the template 'total and deterministic' (their statements: YtpefegcdcojokaaTotals.lean).
  GIVEN WITH THE SEED: the statements are not yours to turn. If you find one false, say at which input.
  Laid BY PROGRAM, IN A SANDBOX (cutbox-rows.mjs): the forced cells as the released guide's own fill.sh prints them over the translation d50915540c6dbde4… (all of the seat's roots in one cut). By AI agents, Wed Nov 11 2026. No macro, syntax, notation, axiom, sorry.
-/
import Derived.Test.YtpefegcdcojokaaChecked
import GoSem.Claim
import GoSem.ClaimJoined
import GoSem.ClaimMapViews
import Derived.JoinedTies
import Derived.KernelRfl
namespace Go.Proofs.Ytpefegcdcojokaa
/- THE CELL 'sum', in the pinned program and in every row, IS THE sha256 OF THE DUMP (.gsa) THAT YtpefegcdcojokaaProg.lean LOADS. Nothing in Lean hashes anything: it is a label: what it is worth is what the hold of that sum in a sandbox is worth. -/
noncomputable def Try.pinned : Pinned := { name := "ytpefegcdcojokaa", sum := "d50915540c6dbde4ef2005acc105a4071e1eaef6ffe4005d5542316607e24bc4", checked := Try.checked }
namespace Rows
def none {H : Type} : Left H := { results := [], args := [] }

/-- 'coadjutorlaw04.DiskSynced': WHATEVER THE INPUT: true; the input reads as it did. -/
def diskSyncedSpec : ChangeSpec := { name := "diskSynced", fn := fun _ => fun
  | [d1, d2, d3] => { results := [.lit (.bool true)], args := [d1, d2, d3] }
  | _ => none }
def diskSyncedRow : OpenClaim := { program := "ytpefegcdcojokaa", sum := "d50915540c6dbde4ef2005acc105a4071e1eaef6ffe4005d5542316607e24bc4", func := "coadjutor/coadjutorlaw04.DiskSynced", spec := "diskSynced", inPlace := ["internal/abi.NoEscape", "internal/bytealg.MakeNoZero"], unfollowed := true, recurses := true, apart := false }
def DiskSyncedSaid : Prop := diskSyncedRow.holds Try.pinned (OpenSpec.ofChange diskSyncedSpec)

/-- ITS FALSE NEIGHBOUR: 'it returns false'. Refute it at one input. -/
def diskSyncedWrong : ChangeSpec := { name := "diskSynced", fn := fun _ => fun
  | [d1, d2, d3] => { results := [.lit (.bool false)], args := [d1, d2, d3] }
  | _ => none }
def DiskSyncedWrongFalsely : Prop := diskSyncedRow.holds Try.pinned (OpenSpec.ofChange diskSyncedWrong)

/-- 'coadjutorlaw04.DiskCopy': WHATEVER THE INPUT: true; the input reads as it did. -/
def diskCopySpec : ChangeSpec := { name := "diskCopy", fn := fun _ => fun
  | [d1, d2] => { results := [.lit (.bool true)], args := [d1, d2] }
  | _ => none }
def diskCopyRow : OpenClaim := { program := "ytpefegcdcojokaa", sum := "d50915540c6dbde4ef2005acc105a4071e1eaef6ffe4005d5542316607e24bc4", func := "coadjutor/coadjutorlaw04.DiskCopy", spec := "diskCopy", inPlace := ["internal/abi.NoEscape", "internal/bytealg.MakeNoZero"], unfollowed := true, recurses := true, apart := false }
def DiskCopySaid : Prop := diskCopyRow.holds Try.pinned (OpenSpec.ofChange diskCopySpec)

/-- ITS FALSE NEIGHBOUR: 'it returns false'. Refute it at one input. -/
def diskCopyWrong : ChangeSpec := { name := "diskCopy", fn := fun _ => fun
  | [d1, d2] => { results := [.lit (.bool false)], args := [d1, d2] }
  | _ => none }
def DiskCopyWrongFalsely : Prop := diskCopyRow.holds Try.pinned (OpenSpec.ofChange diskCopyWrong)

/-- 'coadjutorlaw04.DiskFuse': WHATEVER THE INPUT: true; the input reads as it did. -/
def diskFuseSpec : ChangeSpec := { name := "diskFuse", fn := fun _ => fun
  | [d1, d2] => { results := [.lit (.bool true)], args := [d1, d2] }
  | _ => none }
def diskFuseRow : OpenClaim := { program := "ytpefegcdcojokaa", sum := "d50915540c6dbde4ef2005acc105a4071e1eaef6ffe4005d5542316607e24bc4", func := "coadjutor/coadjutorlaw04.DiskFuse", spec := "diskFuse", inPlace := ["internal/abi.NoEscape", "internal/bytealg.MakeNoZero"], unfollowed := true, recurses := true, apart := false }
def DiskFuseSaid : Prop := diskFuseRow.holds Try.pinned (OpenSpec.ofChange diskFuseSpec)

/-- ITS FALSE NEIGHBOUR: 'it returns false'. Refute it at one input. -/
def diskFuseWrong : ChangeSpec := { name := "diskFuse", fn := fun _ => fun
  | [d1, d2] => { results := [.lit (.bool false)], args := [d1, d2] }
  | _ => none }
def DiskFuseWrongFalsely : Prop := diskFuseRow.holds Try.pinned (OpenSpec.ofChange diskFuseWrong)

/-- 'coadjutorlaw05.ZoneFill': WHATEVER THE INPUT: true; the input reads as it did. -/
def zoneFillSpec : ChangeSpec := { name := "zoneFill", fn := fun _ => fun
  | [d1, d2] => { results := [.lit (.bool true)], args := [d1, d2] }
  | _ => none }
def zoneFillRow : OpenClaim := { program := "ytpefegcdcojokaa", sum := "d50915540c6dbde4ef2005acc105a4071e1eaef6ffe4005d5542316607e24bc4", func := "coadjutor/coadjutorlaw05.ZoneFill", spec := "zoneFill", inPlace := ["internal/abi.NoEscape", "internal/bytealg.MakeNoZero"], unfollowed := true, recurses := true, apart := false }
def ZoneFillSaid : Prop := zoneFillRow.holds Try.pinned (OpenSpec.ofChange zoneFillSpec)

/-- ITS FALSE NEIGHBOUR: 'it returns false'. Refute it at one input. -/
def zoneFillWrong : ChangeSpec := { name := "zoneFill", fn := fun _ => fun
  | [d1, d2] => { results := [.lit (.bool false)], args := [d1, d2] }
  | _ => none }
def ZoneFillWrongFalsely : Prop := zoneFillRow.holds Try.pinned (OpenSpec.ofChange zoneFillWrong)

/-- 'coadjutorlaw05.ZoneApart': WHATEVER THE INPUT: true; the input reads as it did. -/
def zoneApartSpec : ChangeSpec := { name := "zoneApart", fn := fun _ => fun
  | [d1, d2] => { results := [.lit (.bool true)], args := [d1, d2] }
  | _ => none }
def zoneApartRow : OpenClaim := { program := "ytpefegcdcojokaa", sum := "d50915540c6dbde4ef2005acc105a4071e1eaef6ffe4005d5542316607e24bc4", func := "coadjutor/coadjutorlaw05.ZoneApart", spec := "zoneApart", inPlace := ["internal/abi.NoEscape", "internal/bytealg.MakeNoZero"], unfollowed := true, recurses := true, apart := false }
def ZoneApartSaid : Prop := zoneApartRow.holds Try.pinned (OpenSpec.ofChange zoneApartSpec)

/-- ITS FALSE NEIGHBOUR: 'it returns false'. Refute it at one input. -/
def zoneApartWrong : ChangeSpec := { name := "zoneApart", fn := fun _ => fun
  | [d1, d2] => { results := [.lit (.bool false)], args := [d1, d2] }
  | _ => none }
def ZoneApartWrongFalsely : Prop := zoneApartRow.holds Try.pinned (OpenSpec.ofChange zoneApartWrong)

/- THE SECOND FORM. 'bulk': how many values and letters a reading holds, each counted each time it is reached (what is shared counts as often as it is met; a slice's spare places count too). A statement '..UptoSaid' is the law's where the arguments, and the package variables that the reading takes, are together of bulk at most 1048576: NARROWER than '..Said'. Prove '..Said' where nothing that the law and all that it calls make is longer than what came in: it says more and counts as full. Else prove '..UptoSaid'. A law counts once. -/
mutual
def uptoBulk {H : Type} : DataW H → Nat
  | .lit (.string bytes) => bytes.length + 1
  | .lit _ => 1
  | .nil => 1
  | .ptr d => uptoBulk d + 1
  | .slice elems spare => uptoBulkAll elems + uptoBulkAll spare + 1
  | .agg parts => uptoBulkAll parts + 1
  | .iface _ d => uptoBulk d + 1
  | .map entries => uptoBulkEntries entries + 1
  | .held _ => 1
def uptoBulkAll {H : Type} : List (DataW H) → Nat
  | [] => 0
  | d :: r => uptoBulk d + uptoBulkAll r
def uptoBulkEntries {H : Type} : List (Lit × DataW H) → Nat
  | [] => 0
  | x :: r => uptoBulkEntry x + uptoBulkEntries r
def uptoBulkEntry {H : Type} : Lit × DataW H → Nat
  | (.string bytes, d) => bytes.length + uptoBulk d + 1
  | (_, d) => uptoBulk d + 1
 end
def uptoSmall : (H : Type) → List (DataW H) → Bool := fun _ ds => decide (uptoBulkAll ds ≤ 1048576)
def OpenSpec.upto (s : _root_.Go.ChangeSpec) : _root_.Go.OpenSpec := { _root_.Go.OpenSpec.ofChange s with cond := some uptoSmall }

/-- 'coadjutorlaw04.DiskSynced', WHERE WHAT IT READS IS OF BULK AT MOST 1048576: true; the input reads as it did. -/
def diskSyncedUptoRow : OpenClaim := { program := "ytpefegcdcojokaa", sum := "d50915540c6dbde4ef2005acc105a4071e1eaef6ffe4005d5542316607e24bc4", func := "coadjutor/coadjutorlaw04.DiskSynced", spec := "diskSynced", inPlace := ["internal/abi.NoEscape", "internal/bytealg.MakeNoZero"], unfollowed := true, recurses := true, apart := false, narrowed := true }
def DiskSyncedUptoSaid : Prop := diskSyncedUptoRow.holds Try.pinned (OpenSpec.upto diskSyncedSpec)

/-- 'coadjutorlaw04.DiskCopy', WHERE WHAT IT READS IS OF BULK AT MOST 1048576: true; the input reads as it did. -/
def diskCopyUptoRow : OpenClaim := { program := "ytpefegcdcojokaa", sum := "d50915540c6dbde4ef2005acc105a4071e1eaef6ffe4005d5542316607e24bc4", func := "coadjutor/coadjutorlaw04.DiskCopy", spec := "diskCopy", inPlace := ["internal/abi.NoEscape", "internal/bytealg.MakeNoZero"], unfollowed := true, recurses := true, apart := false, narrowed := true }
def DiskCopyUptoSaid : Prop := diskCopyUptoRow.holds Try.pinned (OpenSpec.upto diskCopySpec)

/-- 'coadjutorlaw04.DiskFuse', WHERE WHAT IT READS IS OF BULK AT MOST 1048576: true; the input reads as it did. -/
def diskFuseUptoRow : OpenClaim := { program := "ytpefegcdcojokaa", sum := "d50915540c6dbde4ef2005acc105a4071e1eaef6ffe4005d5542316607e24bc4", func := "coadjutor/coadjutorlaw04.DiskFuse", spec := "diskFuse", inPlace := ["internal/abi.NoEscape", "internal/bytealg.MakeNoZero"], unfollowed := true, recurses := true, apart := false, narrowed := true }
def DiskFuseUptoSaid : Prop := diskFuseUptoRow.holds Try.pinned (OpenSpec.upto diskFuseSpec)

/-- 'coadjutorlaw05.ZoneFill', WHERE WHAT IT READS IS OF BULK AT MOST 1048576: true; the input reads as it did. -/
def zoneFillUptoRow : OpenClaim := { program := "ytpefegcdcojokaa", sum := "d50915540c6dbde4ef2005acc105a4071e1eaef6ffe4005d5542316607e24bc4", func := "coadjutor/coadjutorlaw05.ZoneFill", spec := "zoneFill", inPlace := ["internal/abi.NoEscape", "internal/bytealg.MakeNoZero"], unfollowed := true, recurses := true, apart := false, narrowed := true }
def ZoneFillUptoSaid : Prop := zoneFillUptoRow.holds Try.pinned (OpenSpec.upto zoneFillSpec)

/-- 'coadjutorlaw05.ZoneApart', WHERE WHAT IT READS IS OF BULK AT MOST 1048576: true; the input reads as it did. -/
def zoneApartUptoRow : OpenClaim := { program := "ytpefegcdcojokaa", sum := "d50915540c6dbde4ef2005acc105a4071e1eaef6ffe4005d5542316607e24bc4", func := "coadjutor/coadjutorlaw05.ZoneApart", spec := "zoneApart", inPlace := ["internal/abi.NoEscape", "internal/bytealg.MakeNoZero"], unfollowed := true, recurses := true, apart := false, narrowed := true }
def ZoneApartUptoSaid : Prop := zoneApartUptoRow.holds Try.pinned (OpenSpec.upto zoneApartSpec)

end Rows
end Go.Proofs.Ytpefegcdcojokaa
