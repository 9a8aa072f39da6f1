/- For every two models: whether they are the same; the words of a place; what awake answers; the conditions stand in each theorem. -/
import Derived.Shelf.Strconv.Itoa3
import Derived.Shelf.Lay
import Derived.Ground.NamesProg
import Derived.Test.YtbadkcnemcnhfaaGreatDoorLensE
import Derived.Test.YtbadkcnemcnhfaaGreatDoorVcItoa
import Derived.Test.YtbadkcnemcnhfaaGreatDoorVcLawL
set_option linter.unusedVariables false
set_option linter.unusedSimpArgs false
namespace Go.Proofs.YtbadkcnemcnhfaaGreatDoor.Lens
open Go Go.Proofs Go.Proofs.YtbadkcnemcnhfaaGreatDoor.V Go.Proofs.YtbadkcnemcnhfaaGreatDoor.Vc Go.Proofs.YtbadkcnemcnhfaaGreatDoor.Conf Go.Proofs.YtbadkcnemcnhfaaGreatDoor.Brain Go.Proofs.YtbadkcnemcnhfaaGreatDoor.Num Go.RowKit Go.Shelf

def cfL (c : CfD) : List Int := [c.vocab, c.dim, c.heads, c.blocks, c.hidden, c.context]
section
variable {w w' : World} {ba bb : Nat} {c d : CfD} {wa wb : ByteArray} {F G : Nat → Prop}
theorem confBytes_spec (w : World) (c : CfD) : Calls Tryz.prog i_conf_Shape_Bytes #[.agg (cfE c).toArray] w (Ret fun v w' => v = .string ⟨(Pen.numsL (cfL c)).toArray⟩ ∧ Ch Non w w') := by
  refine conf_Shape_Bytes.calls _ _ _ _ _ _ ?_
  unfold conf_Shape_Bytes.vc
  intro w1 e1 w2 e2
  have hC := Blk.new e1
  have hc1 : Ch Non w w1 := Ch.alloc e1
  have hc2 : Ch Non w1 w2 := Ch.alloc e2
  have hC2 := hC.keepN hc2
  have hP : Pen.PenT t_pen_Pen w2 w1.heap.size false [] (New w1 w2) := Bld.made e2 Pen.pen_type
  refine ⟨_, hC2.cell 0 rfl, _, hC2.cell 1 rfl, _, hC2.cell 2 rfl, _, hC2.cell 3 rfl, _, hC2.cell 4 rfl, _, hC2.cell 5 rfl, fun w3 e3 => ?_⟩
  have hI := Blk.new e3
  have hI' : Blk w3 w2.heap.size ((cfL c).map (.int .i64)) t_int := hI
  have hc3 : Ch Non w2 w3 := Ch.alloc e3
  have hs3 := hI.lt
  refine step_call (Pen.PenNum_spec (hP.keepN hc3) (fun i hi => by have := hi.2; omega) hI'.rd (fun i hi => ⟨by rw [hi]; exact hs3, fun k => by have := k.2; rw [hi] at this; omega⟩) (by show 0 + 4 * 6 < _; decide) 6) ?_
  rintro v w4 ⟨rfl, hP4, hc4⟩
  refine ⟨rfl, step_call (Pen.PenBytes_spec hP4 (by rw [List.nil_append, Pen.numsL_len]; show 4 * 6 < _; decide)) ?_⟩
  rintro v w5 ⟨rfl, _, hc5⟩
  refine ⟨_, rfl, by rw [List.nil_append], ?_⟩
  have hs1 := hc1.size
  exact (((hc1.andN hc2).andN hc3).trans hc4 (fun i hi k => by have := k.1; omega)).trans hc5 (fun i hi k => by
    have := ((hc1.andN hc2).andN hc3).size
    rcases k with k | k
    · have := k.1; omega
    · have := k.1; omega)
theorem Bytes_spec (h : BrK w ba c wa) (hsz : wa.size ≤ 1000000) : Calls Tryz.prog i_brain_Brain_Bytes #[.pointer (some ⟨ba, 0, none⟩)] w (Ret fun v w' => v = .string (⟨(Pen.numsL (cfL c)).toArray⟩ ++ wa) ∧ Ch Non w w') := by
  have hA : Blk w ba (cfE c ++ [.string wa]) t_brain_Brain := h.r
  refine brain_Brain_Bytes.calls _ ?_
  unfold brain_Brain_Bytes.vc
  refine ⟨fun w' => Ch Non w w', fun w1 e1 => ⟨Ch.drew e1, _, _, _, _, _, _, ⟨fun w' k => (hA.keepN k).cell 0 rfl, fun w' k => (hA.keepN k).cell 1 rfl, fun w' k => (hA.keepN k).cell 2 rfl, fun w' k => (hA.keepN k).cell 3 rfl, fun w' k => (hA.keepN k).cell 4 rfl, fun w' k => (hA.keepN k).cell 5 rfl⟩, _, fun w' k => (hA.keepN k).cell 6 rfl, step_call (confBytes_spec w1 c) ?_⟩⟩
  rintro v w4 ⟨rfl, hc4⟩
  have hc := (Ch.drew (F := Non) e1).andN hc4
  refine ⟨_, rfl, hc, ?_, rfl, hc⟩
  have hn : (ByteArray.mk (Pen.numsL (cfL c)).toArray).size = 24 := by
    show (Pen.numsL (cfL c)).toArray.size = 24
    rw [List.size_toArray, Pen.numsL_len]; rfl
  rw [hn]; omega
theorem Same_spec (h : BrK w ba c wa) (k : BrK w bb c wa) : Calls Tryz.prog i_brain_Same #[.pointer (some ⟨ba, 0, none⟩), .pointer (some ⟨bb, 0, none⟩)] w (Ret fun v w' => v = .bool true ∧ Ch Non w w') := by
  have hsz := size_le h
  refine brain_Same.calls _ _ ?_
  unfold brain_Same.vc
  refine step_call (Bytes_spec h (by omega)) ?_
  rintro v w1 ⟨rfl, hc1⟩
  refine ⟨_, rfl, step_call (Bytes_spec (k.keepN hc1) (by omega)) ?_⟩
  rintro v w2 ⟨rfl, hc2⟩
  exact ⟨_, rfl, by simp, hc1.andN hc2⟩
shelf_lay Lays.n171 Nm 171 at Tryz as laysItoa
theorem fItoa : laysItoa_ren.f 171 = 20 := by kernel_rfl
theorem Itoa_spec (w : World) {i : Nat} (hi : i < 100) : Calls Tryz.prog 20 #[.int .i64 i] w (Ret fun v w' => v = .string ⟨(Lib.decDigits i).toArray⟩ ∧ w' = w) := by
  have h := Any.strconv_Itoa_small laysItoa i hi w
  rw [fItoa] at h
  refine h.mono ?_
  rintro e w' ⟨rfl, rfl⟩
  exact ⟨rfl, rfl⟩
def wordsL : List ByteArray := [ByteArray.mk #[116, 111, 107, 101, 110], ByteArray.mk #[112, 108, 97, 99, 101], ByteArray.mk #[110, 111, 114, 109, 49], ByteArray.mk #[113, 117, 101, 114, 121], ByteArray.mk #[107, 101, 121], ByteArray.mk #[118, 97, 108, 117, 101], ByteArray.mk #[109, 105, 120], ByteArray.mk #[110, 111, 114, 109, 50], ByteArray.mk #[103, 97, 116, 101], ByteArray.mk #[117, 112], ByteArray.mk #[100, 111, 119, 110], ByteArray.mk #[108, 97, 115, 116]]
def nameS (p b : Nat) : ByteArray := if p < 2 ∨ p = 11 then wordsL.getD p ByteArray.empty else wordsL.getD p ByteArray.empty ++ ByteArray.mk #[32] ++ ⟨(Lib.decDigits b).toArray⟩
theorem words_len : ∀ p : Nat, p < 12 → (wordsL.getD p ByteArray.empty).size ≤ 5
  | 0, _ | 1, _ | 2, _ | 3, _ | 4, _ | 5, _ | 6, _ | 7, _ | 8, _ | 9, _ | 10, _ | 11, _ => by decide
  | n + 12, h => by omega
theorem Name_spec (w : World) {p b : Nat} (hp : p < 12) (hb : b < 100) (hd : (Lib.decDigits b).length ≤ 100) : Calls Tryz.prog i_lens_Place_Name #[.agg #[.int .i64 p, .int .i64 b]] w (Ret fun v w' => v = .string (nameS p b) ∧ Ch Non w w') := by
  refine lens_Place_Name.calls _ _ ?_
  unfold lens_Place_Name.vc
  intro w1 e1 w2 e2
  have hP := (Blk.new e1).keepN (Ch.alloc e2)
  have hW : Blk w2 w1.heap.size (wordsL.map .string) t_string := Blk.new e2
  have hc02 : Ch Non w w2 := (Ch.alloc e1).andN (Ch.alloc e2)
  have hwl := words_len p hp
  have hcw : ∀ w', Ch Non w2 w' → w'.cell? ((⟨w1.heap.size, 0, none⟩ : Addr).add ((p : Int).toNat * 1)) = some (.string (wordsL.getD p ByteArray.empty)) := fun w' k => by
    rw [add_at, Int.toNat_natCast]
    refine (hW.keepN k).cell _ ?_
    have hpw : p < wordsL.length := hp
    rw [show 0 + p * 1 = p by omega, List.getElem?_map, List.getD_eq_getElem?_getD, List.getElem?_eq_getElem hpw]
    rfl
  refine ⟨_, hP.cell 0 rfl, iteF (decide_eq_false (by omega)) ⟨_, hP.cell 0 rfl, iteF (decide_eq_false (by omega)) ⟨_, hP.cell 1 rfl, iteF (decide_eq_false (by omega)) ⟨_, hP.cell 0 rfl, step_call (isAlone_spec w2 p) ?_⟩⟩⟩⟩
  rintro v w3 ⟨rfl, rfl⟩
  unfold nameS
  refine ⟨_, rfl, fun ha => ?_, fun ha => ?_⟩
  · have ha := of_decide_eq_true ha
    rw [if_pos (by omega)]
    exact ⟨_, hP.cell 0 rfl, ⟨by omega, by omega⟩, _, hcw w3 (Ch.refl _ _), rfl, hc02⟩
  · have ha := of_decide_eq_false ha
    rw [if_neg (by omega)]
    refine ⟨fun w' => Ch Non w3 w', fun w4 e4 => ⟨Ch.drew e4, _, fun w' k => (hP.keepN k).cell 0 rfl, ⟨by omega, by omega⟩, _, fun w' k => hcw w' k, ?_, _, fun w' k => (hP.keepN k).cell 1 rfl, step_call (Itoa_spec w4 hb) ?_⟩⟩
    · show ((_ + 1 : Nat) : Int) ≤ _; omega
    rintro v w8 ⟨rfl, rfl⟩
    have hd4 : Ch Non w3 w8 := Ch.drew e4
    refine ⟨_, rfl, hd4, ?_, rfl, hc02.andN hd4⟩
    have h1 : (wordsL.getD p ByteArray.empty ++ ByteArray.mk #[32]).size = (wordsL.getD p ByteArray.empty).size + 1 := ByteArray.size_append
    have h2 : (ByteArray.mk (Lib.decDigits b).toArray).size = (Lib.decDigits b).length := by simp [ByteArray.size]
    rw [h1, h2]; omega
def c39 : CfD := ⟨3, 1, 1, 1, 1, 5⟩
theorem shape_spec (w : World) : Calls Tryz.prog i_coadjutorlaw39_shape #[] w (Ret fun v w' => v = .agg (cfE c39).toArray ∧ Ch Non w w') := by
  refine coadjutorlaw39_shape.calls ?_
  unfold coadjutorlaw39_shape.vc
  intro w1 e1
  have hA := Blk.new e1
  refine ⟨⟨hA.ok 0 rfl, hA.ok 1 rfl, hA.ok 2 rfl, hA.ok 3 rfl, hA.ok 4 rfl, hA.ok 5 rfl⟩, fun w2 e2 => ?_⟩
  have e2' : w2 = w1.setCells w.heap.size 0 (cfE c39) := e2
  have hA2 := hA.all (cfE c39) rfl e2'
  exact ⟨_, _, _, _, _, _, ⟨hA2.cell 0 rfl, hA2.cell 1 rfl, hA2.cell 2 rfl, hA2.cell 3 rfl, hA2.cell 4 rfl, hA2.cell 5 rfl⟩, rfl, (Ch.alloc (F := Non) e1).trans (Ch.sets (F := (· = w.heap.size)) e2' rfl) (fun i hi he => by omega)⟩
def wA39 : ByteArray := ByteArray.mk #[97, 97, 97, 97, 97, 97, 97, 97, 97, 97, 97, 97, 97, 97, 97, 97, 97, 97]
def wB39 : ByteArray := ByteArray.mk #[97, 97, 97, 97, 100, 97, 97, 97, 97, 97, 97, 97, 97, 97, 97, 97, 98, 97]
set_option maxRecDepth 100000 in
theorem ok39 : okC c39 := by decide
set_option maxRecDepth 100000 in
theorem szA39 : (wA39.size : Int) = allN c39 := by decide
set_option maxRecDepth 100000 in
theorem szB39 : (wB39.size : Int) = allN c39 := by decide
theorem ch39 : chL c39 wA39 wB39 = [(1, 0, 1, 3), (10, 0, 1, 1)] := by kernel_rfl
theorem sum39 : sumD (Vecs.numsB wA39) (Vecs.numsB wB39) = 4 := by kernel_rfl
theorem blend39 : blendL 1 1 (Vecs.numsB wA39) (Vecs.numsB wB39) = wB39.data.toList := by kernel_rfl
theorem name39 : nameS 10 0 = ByteArray.mk #[100, 111, 119, 110, 32, 48] := by kernel_rfl
theorem Of_spec (w : World) {c : CfD} {wt : ByteArray} (ok : okC c) (sz : (wt.size : Int) = allN c) : Calls Tryz.prog i_brain_Of #[.agg (cfE c).toArray, .string wt] w (Ret fun v w' => Ch Non w w' ∧ ∃ b, v = .tuple #[.pointer (some ⟨b, 0, none⟩), .int .i64 0] ∧ BrK w' b c wt) := by
  refine step_call (brOf_spec w c wt) ?_
  rintro v w' ⟨hc, h1, _, _⟩
  obtain ⟨b, rfl, hb, hr⟩ := h1 ⟨ok, sz⟩
  exact ⟨hc, b, rfl, hr, ok, sz⟩
set_option maxRecDepth 100000 in
theorem awake_spec (w : World) : Calls Tryz.prog i_coadjutorlaw39_awake #[] w (Ret fun v w' => v = .bool true ∧ Ch Non w w') := by
  refine coadjutorlaw39_awake.calls ?_
  unfold coadjutorlaw39_awake.vc
  refine step_call (shape_spec w) ?_
  rintro v w1 ⟨rfl, hc1⟩
  refine ⟨_, _, _, _, _, _, rfl, step_call (Of_spec w1 (wt := wA39) ok39 szA39) ?_⟩
  rintro v w2 ⟨hc2, a, rfl, hA⟩
  refine ⟨_, _, rfl, step_call (shape_spec w2) ?_⟩
  rintro v w3 ⟨rfl, hc3⟩
  refine ⟨_, _, _, _, _, _, rfl, step_call (Of_spec w3 (wt := wB39) ok39 szB39) ?_⟩
  rintro v w4 ⟨hc4, b, rfl, hB⟩
  have hA4 := (hA.keepN hc3).keepN hc4
  refine ⟨_, _, rfl, iteF rfl (iteF rfl (step_call (Changes_spec hA4 hB) ?_))⟩
  rintro v w5 ⟨hc5, _, hy⟩
  obtain ⟨o, cp, rfl, hr⟩ := hy rfl
  rw [ch39] at hr ⊢
  refine ⟨_, _, _, _, rfl, step_call (Distance_spec (hA4.keepN hc5) (hB.keepN hc5)) ?_⟩
  rintro v w6 ⟨hc6, _, hy⟩
  rw [hy rfl, sum39]
  have hc56 := hc5.andN hc6
  refine ⟨_, _, rfl, step_call (Blend_spec (hA4.keepN hc56) (hB.keepN hc56) 1 1) ?_⟩
  rintro v w7 ⟨hc7, _, hy⟩
  obtain ⟨z, rfl, hZ⟩ := hy rfl ⟨by omega, by omega, by omega, by omega⟩
  have hz : (ByteArray.mk (blendL 1 1 (Vecs.numsB wA39) (Vecs.numsB wB39)).toArray) = wB39 := by rw [blend39]
  rw [hz] at hZ
  have hr7 := (hr.keepN hc6).keepN hc7
  obtain ⟨ad, had, _, _, _⟩ := hr7 0 (.int .i64 1) rfl
  subst had
  have hcell : ∀ (j : Nat) (v : Value), (([(1, 0, 1, 3), (10, 0, 1, 1)] : List ChD).map chE).flatten[j]? = some v → w7.cell? (ad.add j) = some v := fun j v hv => by
    obtain ⟨ad2, had2, _, _, hc⟩ := hr7 j v hv
    injection had2 with had2
    subst had2
    exact hc
  have h0 := hcell 0 _ rfl
  rw [add_none] at h0
  refine ⟨_, _, rfl, iteT rfl (iteT rfl ⟨⟨by decide, by decide⟩, _, _, _, _, ⟨h0, hcell 1 _ rfl, hcell 2 _ rfl, hcell 3 _ rfl⟩, iteT rfl ⟨⟨by decide, by decide⟩, _, _, ⟨hcell 4 _ rfl, hcell 5 _ rfl⟩, ?_⟩⟩)⟩
  refine step_call (Name_spec w7 (p := 10) (b := 0) (by omega) (by omega) (of_decide_eq_true (by kernel_rfl))) ?_
  rintro v w8 ⟨rfl, hc8⟩
  rw [name39]
  refine ⟨_, rfl, iteT (by simp) (iteT rfl (iteT rfl (iteT rfl (step_call (Same_spec (((hB.keepN hc56).keepN hc7).keepN hc8) (hZ.keepN hc8)) ?_))))⟩
  rintro v w9 ⟨rfl, hc9⟩
  exact ⟨_, rfl, rfl, ((((((hc1.andN hc2).andN hc3).andN hc4).andN hc56).andN hc7).andN hc8).andN hc9⟩
end
end Go.Proofs.YtbadkcnemcnhfaaGreatDoor.Lens
