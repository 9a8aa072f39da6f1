/- For every world of the model: what the laws' own helpers of layer 18 answer; the conditions stand in each theorem. -/
import Derived.Test.YtbadkcnemcnhfaaGreatDoorGenC
import Derived.Test.YtbadkcnemcnhfaaGreatDoorStpL
import Derived.Test.YtbadkcnemcnhfaaGreatDoorVcGenL
set_option linter.unusedVariables false
set_option linter.unusedSimpArgs false
namespace Go.Proofs.YtbadkcnemcnhfaaGreatDoor.Gen
open Go Go.Proofs Go.Proofs.YtbadkcnemcnhfaaGreatDoor.V Go.Proofs.YtbadkcnemcnhfaaGreatDoor.Vc Go.Proofs.YtbadkcnemcnhfaaGreatDoor.Conf Go.Proofs.YtbadkcnemcnhfaaGreatDoor.Brain Go.Proofs.YtbadkcnemcnhfaaGreatDoor.Num Go.Proofs.YtbadkcnemcnhfaaGreatDoor.Stp Go.Proofs.YtbadkcnemcnhfaaGreatDoor.IntsT Go.RowKit

abbrev smallG (c : CfD) : Prop := c.dim ≤ 6 ∧ c.hidden ≤ 6 ∧ c.blocks ≤ 2 ∧ c.vocab ≤ 8 ∧ c.context ≤ 12
section
variable {w w' : World} {c : CfD} {wt : ByteArray} {F G : Nat → Prop} {sv : Value} {sc : List Int}
theorem Greedy_nil (w : World) (o : Option Addr) (n cc : Nat) (most : Int) : Calls Tryz.prog i_gen_Greedy #[.pointer none, .slice o n cc, .int .i64 most] w (Ret fun v w' => v = .tuple #[.slice none 0 0, .int .i64 2] ∧ Ch Non w w') := by
  refine gen_Greedy.calls_nil _ _ _ _ ?_
  unfold gen_Greedy.vc_nil
  have hs : Calls Tryz.prog i_gen_say #[.pointer none, .slice o n cc, .int .i64 most, .func (.func i_gen_Greedy_c1) #[] #[]] w (Ret fun v w' => v = .tuple #[.slice none 0 0, .int .i64 2] ∧ Ch Non w w') := by
    refine gen_say.calls_grn _ _ _ _ ?_
    unfold gen_say.vc_grn
    refine step_call (Check_nil w most o n cc) ?_
    rintro v w2 ⟨rfl, hc⟩
    exact ⟨_, rfl, iteT rfl ⟨rfl, hc⟩⟩
  refine step_call hs ?_
  rintro v w2 ⟨rfl, hc⟩
  exact ⟨_, _, _, _, rfl, rfl, hc⟩
theorem rNext_spec (hs : IV w sv sc F) (hl : sc.length ≤ 1000000) (draw : Int) : Calls Tryz.prog i_coadjutorref18_Next #[.int .i64 draw, sv] w (Ret fun v w' => v = .int .i64 (nextI draw sc) ∧ Ch Non w w') := by
  obtain ⟨o, cc, rfl, h1, h2, hr⟩ := hs
  refine coadjutorref18_Next.calls _ _ _ _ ?_
  unfold coadjutorref18_Next.vc
  refine step_call (Soft.rWeights_spec hr hl cc) ?_
  rintro v w1 ⟨A, C, rfl, hg⟩
  refine ⟨_, _, _, rfl, step_call (Soft.rChoose_spec hg.rd (by rw [weights_len]; exact hl) draw C) ?_⟩
  rintro v w2 ⟨rfl, rfl⟩
  refine ⟨_, rfl, ?_, hg.2⟩
  unfold nextI
  congr 1
  split <;> omega
def c18 : CfD := ⟨3, 2, 1, 1, 1, 4⟩
def w18 : ByteArray := ⟨(List.replicate 42 (0 : UInt8)).toArray⟩
set_option maxRecDepth 100000 in
theorem md18 : Md c18 w18 := ⟨by decide, by decide⟩
set_option maxRecDepth 100000 in
theorem conv18 {w w1 : World} {b : Nat} (e : w1 = w.alloc (.cells (zeroRow [(.int .u8 0)] (42 : Int).toNat).toArray 5 (0, 0))) (hb : b = w.heap.size) :
    (convert 64 9 (.slice (some ⟨b, 0, none⟩) ((42 : Int).toNat) ((42 : Int).toNat))).run Tryz.prog w1 = .ok (.string w18) w1 := by
  subst hb
  have hB := Blk.new e
  have hr : Rd w1 (some ⟨w.heap.size, 0, none⟩) ((List.replicate 42 (0 : UInt8)).map u8v) (· = w.heap.size) := hB.rd
  exact conv_out (src := 64) (dst := 9) (e := 5) (c := 42) hr (by kernel_rfl) (by kernel_rfl) (by kernel_rfl)
theorem say18a : sayP c18 w18 (drawT [65536, 131072, 0]) 3 [1] = [1, 2] := by kernel_rfl
theorem say18b : sayP c18 w18 (drawT []) 3 [1] = [] := by kernel_rfl
theorem next18a : nextI 1 [8, 0, 0] = 0 := by kernel_rfl
theorem next18b : nextI 65536 [8, 0, 0] = 1 := by kernel_rfl
theorem row_iv {w w1 : World} (l : List Int) {T : Nat} (e : w1 = w.alloc (.cells ((l.map (Value.int .i64)).toArray) T (0, 0))) (hl : l.length ≤ maxLen) : IV w1 (.slice (some ⟨w.heap.size, 0, none⟩) l.length l.length) l (· = w.heap.size) := by
  have hB := Blk.new e
  exact ⟨_, _, rfl, Nat.le_refl _, hl, hB.rd⟩
end
end Go.Proofs.YtbadkcnemcnhfaaGreatDoor.Gen
