/- For every world of the model: what the laws' own helpers of layer 18 answer; the conditions stand in each theorem. -/
import Derived.Test.YtfhnegfoglngoaaGreatGenC
import Derived.Test.YtfhnegfoglngoaaGreatStpL
import Derived.Test.YtfhnegfoglngoaaGreatVcGenL
set_option linter.unusedVariables false
set_option linter.unusedSimpArgs false
namespace Go.Proofs.YtfhnegfoglngoaaGreat.Gen
open Go Go.Proofs Go.Proofs.YtfhnegfoglngoaaGreat.V Go.Proofs.YtfhnegfoglngoaaGreat.Vc Go.Proofs.YtfhnegfoglngoaaGreat.Conf Go.Proofs.YtfhnegfoglngoaaGreat.Brain Go.Proofs.YtfhnegfoglngoaaGreat.Num Go.Proofs.YtfhnegfoglngoaaGreat.Stp Go.Proofs.YtfhnegfoglngoaaGreat.IntsT Go.RowKit

abbrev smallG (c : CfD) : Prop := c.dim ≤ 6 ∧ c.hidden ≤ 6 ∧ c.blocks ≤ 2 ∧ c.vocab ≤ 8 ∧ c.context ≤ 12
section
variable {w w' : World} {c : CfD} {wt : ByteArray} {F G : Nat → Prop} {sv : Value} {sc : List Int}
theorem small18_spec (w : World) (c : CfD) : Calls Tryz.prog i_coadjutorlaw18_small #[.agg (cfE c).toArray] w (Ret fun v w' => v = .bool (decide (smallG c)) ∧ Ch Non w w') := by
  refine coadjutorlaw18_small.calls _ _ _ _ _ _ ?_
  unfold coadjutorlaw18_small.vc
  intro w1 e1
  have hB : Blk w1 w.heap.size (cfE c) t_api_Config := Blk.new e1
  have hc : Ch Non w w1 := Ch.alloc e1
  refine ⟨_, hB.cell 1 rfl, fun h1 => ⟨_, hB.cell 4 rfl, fun h2 => ⟨_, hB.cell 3 rfl, fun h3 => ⟨_, hB.cell 0 rfl, fun h4 => ⟨_, hB.cell 5 rfl, ?_, hc⟩, fun h4 => ⟨?_, hc⟩⟩, fun h3 => ⟨?_, hc⟩⟩, fun h2 => ⟨?_, hc⟩⟩, fun h1 => ⟨?_, hc⟩⟩
  · have h1 := of_decide_eq_true h1
    have h2 := of_decide_eq_true h2
    have h3 := of_decide_eq_true h3
    have h4 := of_decide_eq_true h4
    congr 1
    exact decide_eq_decide.2 ⟨fun h => ⟨h1, h2, h3, h4, h⟩, fun h => h.2.2.2.2⟩
  · have h4 := of_decide_eq_false h4
    rw [decide_eq_false (fun h => h4 h.2.2.2.1)]
  · have h3 := of_decide_eq_false h3
    rw [decide_eq_false (fun h => h3 h.2.2.1)]
  · have h2 := of_decide_eq_false h2
    rw [decide_eq_false (fun h => h2 h.2.1)]
  · have h1 := of_decide_eq_false h1
    rw [decide_eq_false (fun h => h1 h.1)]
theorem Gen_nil (w : World) (o : Option Addr) (n cc : Nat) (most : Int) (o2 : Option Addr) (n2 c2 : Nat) : Calls Tryz.prog i_gen_Gen #[.pointer none, .slice o n cc, .int .i64 most, .slice o2 n2 c2] w (Ret fun v w' => v = .tuple #[.slice none 0 0, .int .i64 2] ∧ Ch Non w w') := by
  refine gen_Gen.calls_nil _ _ _ _ _ _ _ ?_
  unfold gen_Gen.vc_nil
  intro w1 e1
  have hs : Calls Tryz.prog i_gen_say #[.pointer none, .slice o n cc, .int .i64 most, .func (.func i_gen_Gen_c1) #[] #[.pointer (some ⟨w.heap.size, 0, none⟩)]] w1 (Ret fun v w' => v = .tuple #[.slice none 0 0, .int .i64 2] ∧ Ch Non w1 w') := by
    refine gen_say.calls_gnn _ _ _ _ _ ?_
    unfold gen_say.vc_gnn
    refine step_call (Check_nil w1 most o n cc) ?_
    rintro v w2 ⟨rfl, hc⟩
    exact ⟨_, rfl, iteT rfl ⟨rfl, hc⟩⟩
  refine step_call hs ?_
  rintro v w2 ⟨rfl, hc⟩
  exact ⟨_, _, _, _, rfl, rfl, (Ch.alloc e1).andN hc⟩
theorem Greedy_nil (w : World) (o : Option Addr) (n cc : Nat) (most : Int) : Calls Tryz.prog i_gen_Greedy #[.pointer none, .slice o n cc, .int .i64 most] w (Ret fun v w' => v = .tuple #[.slice none 0 0, .int .i64 2] ∧ Ch Non w w') := by
  refine gen_Greedy.calls_nil _ _ _ _ ?_
  unfold gen_Greedy.vc_nil
  have hs : Calls Tryz.prog i_gen_say #[.pointer none, .slice o n cc, .int .i64 most, .func (.func i_gen_Greedy_c1) #[] #[]] w (Ret fun v w' => v = .tuple #[.slice none 0 0, .int .i64 2] ∧ Ch Non w w') := by
    refine gen_say.calls_grn _ _ _ _ ?_
    unfold gen_say.vc_grn
    refine step_call (Check_nil w most o n cc) ?_
    rintro v w2 ⟨rfl, hc⟩
    exact ⟨_, rfl, iteT rfl ⟨rfl, hc⟩⟩
  refine step_call hs ?_
  rintro v w2 ⟨rfl, hc⟩
  exact ⟨_, _, _, _, rfl, rfl, hc⟩
theorem rNext_spec (hs : IV w sv sc F) (hl : sc.length ≤ 1000000) (draw : Int) : Calls Tryz.prog i_coadjutorref18_Next #[.int .i64 draw, sv] w (Ret fun v w' => v = .int .i64 (nextI draw sc) ∧ Ch Non w w') := by
  obtain ⟨o, cc, rfl, h1, h2, hr⟩ := hs
  refine coadjutorref18_Next.calls _ _ _ _ ?_
  unfold coadjutorref18_Next.vc
  refine step_call (Soft.rWeights_spec hr hl cc) ?_
  rintro v w1 ⟨A, C, rfl, hg⟩
  refine ⟨_, _, _, rfl, step_call (Soft.rChoose_spec hg.rd (by rw [weights_len]; exact hl) draw C) ?_⟩
  rintro v w2 ⟨rfl, rfl⟩
  refine ⟨_, rfl, ?_, hg.2⟩
  unfold nextI
  congr 1
  split <;> omega
def c18 : CfD := ⟨3, 2, 1, 1, 1, 4⟩
def w18 : ByteArray := ⟨(List.replicate 42 (0 : UInt8)).toArray⟩
set_option maxRecDepth 100000 in
theorem md18 : Md c18 w18 := ⟨by decide, by decide⟩
set_option maxRecDepth 100000 in
theorem conv18 {w w1 : World} {b : Nat} (e : w1 = w.alloc (.cells (zeroRow [(.int .u8 0)] (42 : Int).toNat).toArray 5 (0, 0))) (hb : b = w.heap.size) :
    (convert 59 9 (.slice (some ⟨b, 0, none⟩) ((42 : Int).toNat) ((42 : Int).toNat))).run Tryz.prog w1 = .ok (.string w18) w1 := by
  subst hb
  have hB := Blk.new e
  have hr : Rd w1 (some ⟨w.heap.size, 0, none⟩) ((List.replicate 42 (0 : UInt8)).map u8v) (· = w.heap.size) := hB.rd
  exact conv_out (src := 59) (dst := 9) (e := 5) (c := 42) hr (by kernel_rfl) (by kernel_rfl) (by kernel_rfl)
theorem say18a : sayP c18 w18 (drawT [65536, 131072, 0]) 3 [1] = [1, 2] := by kernel_rfl
theorem say18b : sayP c18 w18 (drawT []) 3 [1] = [] := by kernel_rfl
theorem next18a : nextI 1 [8, 0, 0] = 0 := by kernel_rfl
theorem next18b : nextI 65536 [8, 0, 0] = 1 := by kernel_rfl
theorem row_iv {w w1 : World} (l : List Int) {T : Nat} (e : w1 = w.alloc (.cells ((l.map (Value.int .i64)).toArray) T (0, 0))) (hl : l.length ≤ maxLen) : IV w1 (.slice (some ⟨w.heap.size, 0, none⟩) l.length l.length) l (· = w.heap.size) := by
  have hB := Blk.new e
  exact ⟨_, _, rfl, Nat.le_refl _, hl, hB.rd⟩
set_option maxRecDepth 100000 in
set_option maxHeartbeats 1000000 in
theorem awake18_spec (w : World) : Calls Tryz.prog i_coadjutorlaw18_awake #[] w (Ret fun v w' => v = .bool true ∧ Ch Non w w') := by
  refine coadjutorlaw18_awake.calls ?_
  unfold coadjutorlaw18_awake.vc
  intro w1 e1
  have hA := Blk.new e1
  refine ⟨⟨hA.ok 0 rfl, hA.ok 1 rfl, hA.ok 2 rfl, hA.ok 3 rfl, hA.ok 4 rfl, hA.ok 5 rfl⟩, fun w2 e2 => ?_⟩
  have e2' : w2 = w1.setCells w.heap.size 0 (cfE c18) := e2
  have hA2 := hA.all (cfE c18) rfl e2'
  have hc02 : Ch Non w w2 := (Ch.alloc (F := Non) e1).trans (Ch.sets (F := (· = w.heap.size)) e2' rfl) (fun i hi he => by omega)
  refine ⟨fun w' => Ch Non w2 w', fun w3 e3 => ⟨Ch.drew e3, _, _, _, _, _, _, ⟨fun w' k => (hA2.keepN k).cell 0 rfl, fun w' k => (hA2.keepN k).cell 1 rfl, fun w' k => (hA2.keepN k).cell 2 rfl, fun w' k => (hA2.keepN k).cell 3 rfl, fun w' k => (hA2.keepN k).cell 4 rfl, fun w' k => (hA2.keepN k).cell 5 rfl⟩, ⟨rfl, by omega, by omega⟩, fun w5 e5 => ?_⟩⟩
  have hc25 : Ch Non w2 w5 := (Ch.drew (F := Non) e3).andN (Ch.alloc e5)
  refine ⟨hc25, _, w5, conv18 e5 rfl, hc25, ?_⟩
  refine step_call (brOf_law w5 c18 w18) ?_
  rintro v w7 ⟨hc7, hy⟩
  obtain ⟨b, rfl, hb, hK⟩ := hy.resolve_right (fun h => h.1 md18)
  refine ⟨_, _, rfl, hc25.andN hc7, iteF rfl (iteF rfl ?_)⟩
  have hc07 := (hc02.andN hc25).andN hc7
  intro w8 e8 w9 e9
  have hI8 := row_iv (w1 := w8) [1] e8 (by decide)
  have hI9 := row_iv (w1 := w9) [65536, 131072, 0] e9 (by decide)
  have hc89 : Ch Non w8 w9 := Ch.alloc e9
  have hc79 : Ch Non w7 w9 := (Ch.alloc e8).andN hc89
  have ht1 : ∀ t ∈ ([1] : List Int), tokOk c18 t := fun t ht => by rw [List.mem_singleton] at ht; subst ht; exact ⟨by decide, by decide⟩
  refine step_call (Gen_spec (hK.keepN hc79) (hI8.keepN hc89) (by decide) 3 hI9) ?_
  rintro v w10 hR
  obtain ⟨u, rfl, hu⟩ := hR.yes (checkP_ok' (by simp) (by decide) (by decide) ht1 (by decide))
  rw [say18a] at hu
  have hu' := hu
  obtain ⟨ou, cu, rfl, _⟩ := hu
  have hc710 := hc79.andN hR.ch
  refine ⟨_, _, _, _, rfl, fun w11 e11 => ?_⟩
  have hI11 := row_iv (w1 := w11) [1] e11 (by decide)
  have hc1011 : Ch Non w10 w11 := Ch.alloc e11
  refine step_call (Gen_spec ((hK.keepN hc710).keepN hc1011) hI11 (by decide) 3 (IV.nil w11 Non)) ?_
  rintro v w12 hR2
  obtain ⟨u2, rfl, hu2⟩ := hR2.yes (checkP_ok' (by simp) (by decide) (by decide) ht1 (by decide))
  rw [say18b] at hu2
  obtain ⟨ou2, cu2, rfl, _⟩ := hu2
  have hc1012 := hc1011.andN hR2.ch
  refine ⟨_, _, _, _, rfl, fun w13 e13 => ?_⟩
  have hI13 := row_iv (w1 := w13) [1, 1] e13 (by decide)
  have hc1213 : Ch Non w12 w13 := Ch.alloc e13
  refine step_call (Gen_spec (((hK.keepN hc710).keepN hc1012).keepN hc1213) hI13 (by decide) 3 (IV.nil w13 Non)) ?_
  rintro v w14 hR3
  have hk3 : checkP c18 3 [1, 1] = 12 := by decide
  rw [hR3.no (by rw [hk3]; decide), hk3]
  have hc1014 := (hc1012.andN hc1213).andN hR3.ch
  refine ⟨_, _, _, _, rfl, iteT rfl (fun w15 e15 => ?_)⟩
  have hI15 := row_iv (w1 := w15) [1, 2] e15 (by decide)
  have hc1015 := hc1014.andN (Ch.alloc e15)
  refine step_call (ints18_spec (hu'.keepN hc1015) hI15) ?_
  rintro v w16 ⟨rfl, hc16⟩
  refine ⟨_, rfl, iteT (by decide) (iteT rfl (iteT rfl (iteT rfl (fun w17 e17 => ?_))))⟩
  have hI17 := row_iv (w1 := w17) [8, 0, 0] e17 (by decide)
  refine step_call (Next_spec hI17 (by decide) 1) ?_
  rintro v w18' ⟨rfl, hc18⟩
  rw [next18a]
  refine ⟨_, rfl, iteT rfl (fun w19 e19 => ?_)⟩
  have hI19 := row_iv (w1 := w19) [8, 0, 0] e19 (by decide)
  refine step_call (Next_spec hI19 (by decide) 65536) ?_
  rintro v w20 ⟨rfl, hc20⟩
  rw [next18b]
  exact ⟨_, rfl, rfl, (((hc07.andN hc710).andN hc1015).andN hc16).andN (((Ch.alloc e17).andN hc18).andN ((Ch.alloc e19).andN hc20))⟩
end
end Go.Proofs.YtfhnegfoglngoaaGreat.Gen
