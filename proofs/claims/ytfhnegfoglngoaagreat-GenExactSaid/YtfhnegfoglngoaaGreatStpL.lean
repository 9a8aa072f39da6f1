/- For every world of the model: what the laws' own helpers answer; the conditions stand in each theorem. -/
import Derived.Test.YtfhnegfoglngoaaGreatRun
import Derived.Test.YtfhnegfoglngoaaGreatStpN
import Derived.Test.YtfhnegfoglngoaaGreatPkB
import Derived.Test.YtfhnegfoglngoaaGreatVcStpL
set_option linter.unusedVariables false
set_option linter.unusedSimpArgs false
namespace Go.Proofs.YtfhnegfoglngoaaGreat.Stp
open Go Go.Proofs Go.Proofs.YtfhnegfoglngoaaGreat.V Go.Proofs.YtfhnegfoglngoaaGreat.Vc Go.Proofs.YtfhnegfoglngoaaGreat.Conf Go.Proofs.YtfhnegfoglngoaaGreat.Brain Go.Proofs.YtfhnegfoglngoaaGreat.Num Go.Proofs.YtfhnegfoglngoaaGreat.IntsT Go.RowKit

abbrev smallC (c : CfD) : Prop := c.dim ≤ 6 ∧ c.hidden ≤ 6 ∧ c.blocks ≤ 2 ∧ c.vocab ≤ 8
section
variable {w w' : World} {bb : Nat} {c : CfD} {wt : ByteArray} {F G : Nat → Prop}
theorem small17_spec (w : World) (c : CfD) : Calls Tryz.prog i_coadjutorlaw17_small #[.agg (cfE c).toArray] w (Ret fun v w' => v = .bool (decide (smallC c)) ∧ Ch Non w w') := by
  refine coadjutorlaw17_small.calls _ _ _ _ _ _ ?_
  unfold coadjutorlaw17_small.vc
  intro w1 e1
  have hB : Blk w1 w.heap.size (cfE c) t_api_Config := Blk.new e1
  have hc : Ch Non w w1 := Ch.alloc e1
  refine ⟨_, hB.cell 1 rfl, fun h1 => ⟨_, hB.cell 4 rfl, fun h2 => ⟨_, hB.cell 3 rfl, fun h3 => ⟨_, hB.cell 0 rfl, ?_, hc⟩, fun h3 => ⟨?_, hc⟩⟩, fun h2 => ⟨?_, hc⟩⟩, fun h1 => ⟨?_, hc⟩⟩
  · have h1 := of_decide_eq_true h1
    have h2 := of_decide_eq_true h2
    have h3 := of_decide_eq_true h3
    congr 1
    exact decide_eq_decide.2 ⟨fun h => ⟨h1, h2, h3, h⟩, fun h => h.2.2.2⟩
  · have h3 := of_decide_eq_false h3
    rw [decide_eq_false (fun h => h3 h.2.2.1)]
  · have h2 := of_decide_eq_false h2
    rw [decide_eq_false (fun h => h2 h.2.1)]
  · have h1 := of_decide_eq_false h1
    rw [decide_eq_false (fun h => h1 h.1)]
theorem str_size2 (l : List UInt8) : (ByteArray.mk l.toArray).size = l.length := by simp [ByteArray.size]
/-- What brain.Of answers: a model, or an error. -/
theorem brOf_law (w : World) (c : CfD) (wt : ByteArray) : Calls Tryz.prog i_brain_Of #[.agg (cfE c).toArray, .string wt] w (Ret fun v w' => Ch Non w w' ∧ ((∃ b, v = .tuple #[.pointer (some ⟨b, 0, none⟩), .int .i64 0] ∧ w.heap.size ≤ b ∧ BrK w' b c wt) ∨ (¬ Md c wt ∧ ∃ e : Int, v = .tuple #[.pointer none, .int .i64 e] ∧ e ≠ 0))) := by
  refine step_call (brOf_spec w c wt) ?_
  rintro v w' ⟨hc, h1, h2, h3⟩
  refine ⟨hc, ?_⟩
  by_cases ok : okC c
  · by_cases hs : (wt.size : Int) = allN c
    · obtain ⟨b, rfl, hb, hr⟩ := h1 ⟨ok, hs⟩
      exact .inl ⟨b, rfl, hb, hr, ok, hs⟩
    · exact .inr ⟨fun m => hs m.sz, 5, h2 ⟨ok, hs⟩, by decide⟩
  · exact .inr ⟨fun m => ok m.ok, 1, h3 ok, by decide⟩
def c17 : CfD := ⟨3, 2, 1, 1, 1, 2⟩
def w17 : ByteArray := ⟨(List.replicate 38 (0 : UInt8)).toArray⟩
set_option maxRecDepth 100000 in
theorem md17 : Md c17 w17 := ⟨by decide, by decide⟩
set_option maxRecDepth 100000 in
theorem conv17 {w w1 : World} {b : Nat} (e : w1 = w.alloc (.cells (zeroRow [(.int .u8 0)] (38 : Int).toNat).toArray 5 (0, 0))) (hb : b = w.heap.size) :
    (convert 59 9 (.slice (some ⟨b, 0, none⟩) ((38 : Int).toNat) ((38 : Int).toNat))).run Tryz.prog w1 = .ok (.string w17) w1 := by
  subst hb
  have hB := Blk.new e
  have hr : Rd w1 (some ⟨w.heap.size, 0, none⟩) ((List.replicate 38 (0 : UInt8)).map u8v) (· = w.heap.size) := hB.rd
  exact conv_out (src := 59) (dst := 9) (e := 5) (c := 38) hr (by kernel_rfl) (by kernel_rfl) (by kernel_rfl)
theorem stepL17 : stepL c17 w17 [] 1 = [0, 0, 0] := by kernel_rfl
theorem ents_of {p : Value × Value} {e : Ent} (h : EV w p e F) : ∃ (o1 : Option Addr) (c1 : Nat) (o2 : Option Addr) (c2 : Nat), p = (.slice o1 e.1.length c1, .slice o2 e.2.length c2) := by
  obtain ⟨a, b⟩ := p
  obtain ⟨⟨o1, c1, _, h1, _⟩, ⟨o2, c2, _, h2, _⟩⟩ := h
  exact ⟨o1, c1, o2, c2, by rw [show a = _ from h1, show b = _ from h2]⟩
set_option maxRecDepth 100000 in
set_option maxHeartbeats 1000000 in
theorem awake17_spec (w : World) : Calls Tryz.prog i_coadjutorlaw17_awake #[] w (Ret fun v w' => v = .bool true ∧ Ch Non w w') := by
  refine coadjutorlaw17_awake.calls ?_
  unfold coadjutorlaw17_awake.vc
  intro w1 e1
  have hA := Blk.new e1
  refine ⟨⟨hA.ok 0 rfl, hA.ok 1 rfl, hA.ok 2 rfl, hA.ok 3 rfl, hA.ok 4 rfl, hA.ok 5 rfl⟩, fun w2 e2 => ?_⟩
  have e2' : w2 = w1.setCells w.heap.size 0 (cfE c17) := e2
  have hA2 := hA.all (cfE c17) rfl e2'
  have hc02 : Ch Non w w2 := (Ch.alloc (F := Non) e1).trans (Ch.sets (F := (· = w.heap.size)) e2' rfl) (fun i hi he => by omega)
  refine ⟨fun w' => Ch Non w2 w', fun w3 e3 => ⟨Ch.drew e3, _, _, _, _, _, _, ⟨fun w' k => (hA2.keepN k).cell 0 rfl, fun w' k => (hA2.keepN k).cell 1 rfl, fun w' k => (hA2.keepN k).cell 2 rfl, fun w' k => (hA2.keepN k).cell 3 rfl, fun w' k => (hA2.keepN k).cell 4 rfl, fun w' k => (hA2.keepN k).cell 5 rfl⟩, ⟨rfl, by omega, by omega⟩, fun w5 e5 => ?_⟩⟩
  have hc25 : Ch Non w2 w5 := (Ch.drew (F := Non) e3).andN (Ch.alloc e5)
  refine ⟨hc25, _, w5, conv17 e5 rfl, hc25, ?_⟩
  refine step_call (brOf_law w5 c17 w17) ?_
  rintro v w7 ⟨hc7, hy⟩
  obtain ⟨b, rfl, hb, hK⟩ := hy.resolve_right (fun h => h.1 md17)
  refine ⟨_, _, rfl, hc25.andN hc7, iteF rfl (iteF rfl ?_)⟩
  have hc07 := (hc02.andN hc25).andN hc7
  refine step_call (Step_spec hK (PV.nil w7 Non) 1) ?_
  rintro v w8 hR
  have hg0 : ∀ e ∈ ([] : List Ent), goodE c17 e := fun e he => by cases he
  obtain ⟨p, u, rfl, hE, hL⟩ := hR.yes hg0 (by decide) (by decide)
  have hc8 := hR.ch
  have hge : goodE c17 (stepE c17 w17 [] 1) := (step_ok md17 hg0 (by decide) (t := 1) (by decide)).2
  rw [stepL17] at hL
  generalize stepE c17 w17 [] 1 = e at hE hge
  obtain ⟨o1, c1, o2, c2, rfl⟩ := ents_of hE
  have hL' := hL
  obtain ⟨ou, cu, rfl, _⟩ := hL
  refine ⟨_, _, _, _, _, _, _, _, _, _, rfl, fun w9 e9 => ?_⟩
  have hU := Blk.new e9
  refine ⟨⟨hU.ok 0 rfl, hU.ok 1 rfl⟩, fun w10 e10 => ?_⟩
  have e10' : w10 = w9.setCells w8.heap.size 0 [.slice o1 e.1.length c1, .slice o2 e.2.length c2] := e10
  have hU10 := hU.all [.slice o1 e.1.length c1, .slice o2 e.2.length c2] rfl e10'
  have hc810 : Ch Non w8 w10 := (Ch.alloc (F := Non) e9).trans (Ch.sets (F := (· = w8.heap.size)) e10' rfl) (fun i hi he => by omega)
  refine ⟨_, _, _, _, _, _, ⟨hU10.cell 0 rfl, hU10.cell 1 rfl⟩, _, _, _, _, _, _, ⟨hU10.cell 0 rfl, hU10.cell 1 rfl⟩, fun w11 e11 => ?_⟩
  have hU11 := hU10.keepN (Ch.alloc e11)
  have hXX : Blk w11 w10.heap.size ([((.slice o1 e.1.length c1, .slice o2 e.2.length c2) : Value × Value), (.slice o1 e.1.length c1, .slice o2 e.2.length c2)].map pairE).flatten t_step_Entry := Blk.new e11
  have hc811 := hc810.andN (Ch.alloc e11)
  have hE11 := (hE.keepN hc811).mono (G := fun _ => True) (fun _ _ _ => trivial)
  have hP : PV w11 (.slice (some ⟨w10.heap.size, 0, none⟩) 2 2) [e, e] (fun _ => True) := ⟨_, 2, [(.slice o1 e.1.length c1, .slice o2 e.2.length c2), (.slice o1 e.1.length c1, .slice o2 e.2.length c2)], rfl, Nat.le_refl 2, by decide, hXX.rd.mono (fun _ _ _ => trivial), .cons hE11 (.cons hE11 .nil)⟩
  have hK11 := hK.keepN (hc8.andN hc811)
  refine step_call (Step_spec hK11 hP 1) ?_
  rintro v w12 hR2
  have hc12 := hR2.ch
  rw [hR2.long (fun x hx => by simp at hx; subst hx; exact hge) (by decide) (by show ¬ ((2 : Nat) : Int) < 2; decide)]
  unfold nilE
  refine ⟨_, _, _, _, _, _, _, _, _, _, rfl, fun w13 e13 => ?_⟩
  have hU13 := Blk.new e13
  refine ⟨⟨hU13.ok 0 rfl, hU13.ok 1 rfl⟩, fun w14 e14 => ?_⟩
  have hc1214 : Ch Non w12 w14 := (Ch.alloc (F := Non) e13).trans (Ch.set2 (F := (· = w12.heap.size)) e14 rfl rfl) (fun i hi he => by omega)
  have hc1114 := hc12.andN hc1214
  refine step_call (Step_spec (hK11.keepN hc1114) (PV.nil w14 Non) 3) ?_
  rintro v w15 hR3
  have hc15 := hR3.ch
  rw [hR3.rng hg0 (by decide)]
  unfold nilE
  refine ⟨_, _, _, _, _, _, _, _, _, _, rfl, fun w16 e16 => ?_⟩
  have hU16 := Blk.new e16
  refine ⟨⟨hU16.ok 0 rfl, hU16.ok 1 rfl⟩, fun w17' e17 => ?_⟩
  have hc1517 : Ch Non w15 w17' := (Ch.alloc (F := Non) e16).trans (Ch.set2 (F := (· = w15.heap.size)) e17 rfl rfl) (fun i hi he => by omega)
  refine step_call (Step_nil w17' none 0 0 0) ?_
  rintro v w18 ⟨rfl, hc18⟩
  unfold nilE
  refine ⟨_, _, _, _, _, _, _, _, _, _, rfl, fun w19 e19 => ?_⟩
  have hU19 := Blk.new e19
  refine ⟨⟨hU19.ok 0 rfl, hU19.ok 1 rfl⟩, fun w20 e20 => iteT rfl ?_⟩
  have hc1820 : Ch Non w18 w20 := (Ch.alloc (F := Non) e19).trans (Ch.set2 (F := (· = w18.heap.size)) e20 rfl rfl) (fun i hi he => by omega)
  have hc1120 := ((hc1114.andN hc15).andN hc1517).andN (hc18.andN hc1820)
  intro w21 e21
  have hO : Blk w21 w20.heap.size (([0, 0, 0] : List Int).map (.int .i64)) t_int := Blk.new e21
  have hOiv : IV w21 (.slice (some ⟨w20.heap.size, 0, none⟩) 3 3) [0, 0, 0] (· = w20.heap.size) := ⟨_, 3, rfl, by decide, by decide, hO.rd⟩
  have hc1121 := hc1120.andN (Ch.alloc e21)
  have hc821 := hc811.andN hc1121
  refine step_call (ints17_spec (hL'.keepN hc821) hOiv) ?_
  rintro v w22 ⟨rfl, hc22⟩
  have hU22 := (hU11.keepN hc1121).keepN hc22
  refine ⟨_, rfl, iteT (by decide) ⟨_, _, _, _, _, _, ⟨hU22.cell 0 rfl, hU22.cell 1 rfl⟩, step_call (Good_spec (p := (.slice o1 e.1.length c1, .slice o2 e.2.length c2)) ((hK11.keepN hc1121).keepN hc22) ((hE11.keepN hc1121).keepN hc22)) ?_⟩⟩
  rintro v w23 ⟨bv, rfl, hbv, hc23⟩
  refine ⟨_, rfl, iteT (hbv.2 hge) (iteT rfl (iteT rfl ⟨rfl, ?_⟩))⟩
  exact (((hc07.andN hc8).andN hc811).andN hc1121).andN (hc22.andN hc23)
end
end Go.Proofs.YtfhnegfoglngoaaGreat.Stp
