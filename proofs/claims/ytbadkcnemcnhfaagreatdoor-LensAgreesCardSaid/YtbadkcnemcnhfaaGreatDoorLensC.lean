/- For every two models: what lens's functions answer; the conditions stand in each theorem. -/
import Derived.Test.YtbadkcnemcnhfaaGreatDoorPkB
import Derived.Test.YtbadkcnemcnhfaaGreatDoorVcLens
set_option linter.unusedVariables false
set_option linter.unusedSimpArgs false
namespace Go.Proofs.YtbadkcnemcnhfaaGreatDoor.Lens
open Go Go.Proofs Go.Proofs.YtbadkcnemcnhfaaGreatDoor.V Go.Proofs.YtbadkcnemcnhfaaGreatDoor.Vc Go.Proofs.YtbadkcnemcnhfaaGreatDoor.Conf Go.Proofs.YtbadkcnemcnhfaaGreatDoor.Brain Go.Proofs.YtbadkcnemcnhfaaGreatDoor.Num Go.RowKit

/-- How far two weights are. -/
def apartI (a b : Int) : Int := if a < b then b - a else a - b
def sumD (xs ys : List Int) : Int := (List.zipWith apartI xs ys).sum
def isD (d : Int) : Int := if d > 0 then 1 else 0
def countD (xs ys : List Int) : Int := ((List.zipWith apartI xs ys).map isD).sum
def mostD (xs ys : List Int) : Int := (List.zipWith apartI xs ys).foldl max 0
def bytesOk (l : List Int) : Prop := ∀ x ∈ l, -128 ≤ x ∧ x ≤ 127
theorem apart_le {a b : Int} (ha : -128 ≤ a ∧ a ≤ 127) (hb : -128 ≤ b ∧ b ≤ 127) : 0 ≤ apartI a b ∧ apartI a b ≤ 255 := by unfold apartI; split <;> omega
section
variable {w w' : World} {ba bb : Nat} {c d : CfD} {wa wb : ByteArray} {xs ys : List Int} {F G : Nat → Prop}
theorem apart_spec (w : World) {a b : Int} (ha : -128 ≤ a ∧ a ≤ 127) (hb : -128 ≤ b ∧ b ≤ 127) : Calls Tryz.prog i_lens_apart #[.int .i8 a, .int .i8 b] w (Ret fun v w' => v = .int .i64 (apartI a b) ∧ w' = w) := by
  refine lens_apart.calls _ _ ?_
  unfold lens_apart.vc
  refine ⟨?_, rfl⟩
  rw [wrap_id (x := a) (by omega) (by omega), wrap_id (x := b) (by omega) (by omega)]
  unfold apartI
  congr 1
  split <;> split <;> (rw [wrap_id (by omega) (by omega)]) <;> omega
theorem isAlone_spec (w : World) (p : Int) : Calls Tryz.prog i_lens_isAlone #[.int .i64 p] w (Ret fun v w' => v = .bool (decide (p < 2 ∨ p = 11)) ∧ w' = w) := by
  refine lens_isAlone.calls _ ?_
  unfold lens_isAlone.vc
  refine ⟨fun h => ⟨by rw [decide_eq_true (.inl (of_decide_eq_true h))], rfl⟩, fun h => ⟨?_, rfl⟩⟩
  have h := of_decide_eq_false h
  congr 1
  by_cases e : p = 11
  · subst e; rfl
  · rw [decide_eq_false (fun k => by rcases k with k | k; exact h k; exact e k)]; simpa using e
theorem cfd_ext {c d : CfD} (h0 : c.vocab = d.vocab) (h1 : c.dim = d.dim) (h2 : c.heads = d.heads) (h3 : c.blocks = d.blocks) (h4 : c.hidden = d.hidden) (h5 : c.context = d.context) : c = d := by
  cases c; cases d; simp_all
def sameC (c d : CfD) : Bool := (c.vocab == d.vocab) && ((c.dim == d.dim) && ((c.heads == d.heads) && ((c.blocks == d.blocks) && ((c.hidden == d.hidden) && ((c.context == d.context) && true)))))
theorem sameC_iff : sameC c d = true ↔ c = d := by
  unfold sameC
  constructor
  · intro h
    simp only [Bool.and_eq_true, beq_iff_eq, and_true] at h
    exact cfd_ext h.1 h.2.1 h.2.2.1 h.2.2.2.1 h.2.2.2.2.1 h.2.2.2.2.2
  · rintro rfl; simp
theorem check_spec (h : BrK w ba c wa) (k : BrK w bb d wb) : Calls Tryz.prog i_lens_check #[.pointer (some ⟨ba, 0, none⟩), .pointer (some ⟨bb, 0, none⟩)] w (Ret fun v w' => v = .int .i64 (if sameC c d then 0 else 1) ∧ Ch Non w w') := by
  have hA : Blk w ba (cfE c ++ [.string wa]) t_brain_Brain := h.r
  have hB : Blk w bb (cfE d ++ [.string wb]) t_brain_Brain := k.r
  refine lens_check.calls _ _ ?_
  unfold lens_check.vc
  refine ⟨fun w' => Ch Non w w', fun w1 e1 => ⟨Ch.drew e1, _, _, _, _, _, _, ⟨fun w' k => (hA.keepN k).cell 0 rfl, fun w' k => (hA.keepN k).cell 1 rfl, fun w' k => (hA.keepN k).cell 2 rfl, fun w' k => (hA.keepN k).cell 3 rfl, fun w' k => (hA.keepN k).cell 4 rfl, fun w' k => (hA.keepN k).cell 5 rfl⟩, _, _, _, _, _, _, ⟨fun w' k => (hB.keepN k).cell 0 rfl, fun w' k => (hB.keepN k).cell 1 rfl, fun w' k => (hB.keepN k).cell 2 rfl, fun w' k => (hB.keepN k).cell 3 rfl, fun w' k => (hB.keepN k).cell 4 rfl, fun w' k => (hB.keepN k).cell 5 rfl⟩, fun hn => ⟨?_, Ch.drew e1⟩, fun hy => ⟨?_, Ch.drew e1⟩⟩⟩
  · have : sameC c d = false := by
      have hn : (!sameC c d) = true := hn
      revert hn; cases sameC c d <;> simp
    rw [this]; rfl
  · have : sameC c d = true := by
      have hy : (!sameC c d) = false := hy
      revert hy; cases sameC c d <;> simp
    rw [this]; rfl
/-- A row of weights. -/
def WV (w : World) (v : Value) (xs : List Int) (F : Nat → Prop) : Prop := ∃ (o : Option Addr) (cp : Nat), v = .slice o xs.length cp ∧ Rd w o (xs.map (.int .i8)) F
theorem size_le (h : BrK w ba c wa) : wa.size ≤ 8192 := by
  have h1 := h.sz
  have h2 := h.ok.2.2.2.2.2.2.2
  omega
theorem numsB_at (s : ByteArray) {j : Nat} (h : j < s.data.size) : (Vecs.numsB s)[j]? = some (IntKind.i8.wrap (bt s (j : Int))) := by
  unfold Vecs.numsB bt
  rw [List.getElem?_map, Array.getElem?_toList, Array.getElem?_eq_getElem h, Int.toNat_natCast]
  unfold Array.getD
  rw [dif_pos h]
  rfl
theorem weights_spec (h : BrK w ba c wa) : Calls Tryz.prog i_lens_weights #[.pointer (some ⟨ba, 0, none⟩)] w (Ret fun v w' => WV w' v (Vecs.numsB wa) (New w w') ∧ Ch Non w w') := by
  have hsz := size_le h
  refine lens_weights.calls _ ?_
  unfold lens_weights.vc
  refine step_call (Weights_spec h.r) ?_
  rintro v w1 ⟨rfl, rfl⟩
  refine ⟨_, rfl, ⟨rfl, by omega, by omega⟩, fun w2 e2 => ?_⟩
  rw [Int.toNat_natCast, zeroRow_rep] at e2
  have hZ2 := Blk.new e2
  have hc2 : Ch Non w1 w2 := Ch.alloc e2
  have hl2 := hZ2.lt
  obtain ⟨L, hL⟩ : ∃ L, Vecs.numsB wa = L := ⟨_, rfl⟩
  have hLl : L.length = wa.size := by rw [← hL, Vecs.numsB_len]
  rw [hL]
  refine ⟨fun i k w' => ∃ j : Nat, i = j ∧ j ≤ L.length ∧ k = L.length - j ∧ Blk w' w1.heap.size ((fillTo L 0 j).map (.int .i8)) t_int8 ∧ Ch (· = w1.heap.size) w2 w', ⟨_, 0, rfl, Nat.zero_le _, rfl, ?_, Ch.refl _ _⟩, ?_⟩
  · rw [fillTo_zero, hLl]; simpa using hZ2
  rintro jk i k w3 ⟨j, rfl, hj, rfl, hZ, hc⟩
  have hW : Ch Non w1 w3 := hc2.trans hc (fun i hi he => by omega)
  rw [Int.toNat_natCast]
  refine ⟨fun hlt => ?_, fun hge => ?_⟩
  · have hlt : j < L.length := by have := of_decide_eq_true hlt; omega
    have hjs : j < wa.data.size := by rw [show wa.data.size = wa.size from rfl]; omega
    have hval : IntKind.i8.wrap (bt wa (j : Int)) = L[j] := by
      have hv := numsB_at wa (j := j) hjs
      rw [hL, List.getElem?_eq_getElem hlt] at hv
      injection hv with hv
      exact hv.symm
    refine ⟨⟨by omega, by omega⟩, ⟨by omega, by omega⟩, ?_⟩
    rw [add_at, show 0 + (j : Int).toNat * 1 = j by omega, hval]
    refine ⟨hZ.ok j (v := .int .i8 ((fillTo L 0 j)[j]'(by rw [fillTo_len]; exact hlt))) (by rw [List.getElem?_map, List.getElem?_eq_getElem (by rw [fillTo_len]; exact hlt)]; rfl), fun w4 e4 => ⟨L.length - (j + 1), by omega, j + 1, by rw [wrap_id (by omega) (by omega)]; rfl, hlt, rfl, ?_, hc.same (Ch.set e4 rfl)⟩⟩
    have h4 := hZ.set e4
    rw [← List.map_set, fillTo_set hlt] at h4
    exact h4
  · have hje : j = L.length := by have := of_decide_eq_false hge; omega
    subst hje
    rw [fillTo_all] at hZ
    rw [← hLl]
    exact ⟨⟨_, _, rfl, hZ.rd.mono (fun i _ hi => ⟨by omega, by have := hc.size; omega⟩)⟩, hW⟩
theorem sumD_snoc (xs ys : List Int) {j : Nat} (h1 : j < xs.length) (h2 : j < ys.length) : sumD (xs.take (j + 1)) (ys.take (j + 1)) = sumD (xs.take j) (ys.take j) + apartI xs[j] ys[j] := by
  unfold sumD
  rw [take_snoc xs j h1, take_snoc ys j h2, List.zipWith_append (by rw [List.length_take, List.length_take]; omega), List.sum_append]
  simp
theorem sumD_le : ∀ (xs ys : List Int), bytesOk xs → bytesOk ys → 0 ≤ sumD xs ys ∧ sumD xs ys ≤ 255 * xs.length
  | [], _, _, _ => by simp [sumD]
  | _ :: _, [], _, _ => by simp [sumD]; omega
  | x :: xs, y :: ys, h1, h2 => by
    have h := sumD_le xs ys (fun z hz => h1 z (List.mem_cons_of_mem _ hz)) (fun z hz => h2 z (List.mem_cons_of_mem _ hz))
    have ha := apart_le (h1 x List.mem_cons_self) (h2 y List.mem_cons_self)
    have e : sumD (x :: xs) (y :: ys) = apartI x y + sumD xs ys := by unfold sumD; rw [List.zipWith_cons_cons, List.sum_cons]
    rw [e, List.length_cons]; omega
theorem Distance_spec (h : BrK w ba c wa) (k : BrK w bb d wb) : Calls Tryz.prog i_lens_Distance #[.pointer (some ⟨ba, 0, none⟩), .pointer (some ⟨bb, 0, none⟩)] w (Ret fun v w' => Ch Non w w' ∧ (c ≠ d → v = .tuple #[.int .i64 0, .int .i64 1]) ∧ (c = d → v = .tuple #[.int .i64 (sumD (Vecs.numsB wa) (Vecs.numsB wb)), .int .i64 0])) := by
  refine lens_Distance.calls _ _ ?_
  unfold lens_Distance.vc
  refine step_call (check_spec h k) ?_
  rintro v w1 ⟨rfl, hc1⟩
  by_cases hcd : c = d
  case neg =>
    have : sameC c d = false := by rw [← Bool.not_eq_true, sameC_iff]; exact hcd
    rw [this]
    exact ⟨_, rfl, fun _ => ⟨hc1, fun _ => rfl, fun e => absurd e hcd⟩, fun hf => by simp at hf⟩
  rw [sameC_iff.2 hcd]
  have hsa := size_le h
  have hsb := size_le k
  have hss : wa.size = wb.size := by have h1 := h.sz; have h2 := k.sz; subst hcd; omega
  refine ⟨_, rfl, iteF rfl (step_call (weights_spec (k.keepN hc1)) ?_)⟩
  rintro v w2 ⟨⟨ob, cb, rfl, hrb⟩, hc2⟩
  refine ⟨_, _, _, rfl, step_call (weights_spec ((h.keepN hc1).keepN hc2)) ?_⟩
  rintro v w3 ⟨⟨oa, ca, rfl, hra⟩, hc3⟩
  have hrb := hrb.keepN hc3
  have ha8 := numsB_8 wa
  have hb8 := numsB_8 wb
  have hla : (Vecs.numsB wa).length = wa.size := Vecs.numsB_len wa
  have hlb : (Vecs.numsB wb).length = wb.size := Vecs.numsB_len wb
  have hc13 := (hc1.andN hc2).andN hc3
  generalize Vecs.numsB wa = A at *
  generalize Vecs.numsB wb = B at *
  refine ⟨_, _, _, rfl, fun s i k w' => Ch Non w3 w' ∧ ∃ j : Nat, i = j ∧ j ≤ A.length ∧ k = A.length - j ∧ s = sumD (A.take j) (B.take j), ⟨_, Ch.refl _ _, 0, rfl, Nat.zero_le _, rfl, rfl⟩, ?_⟩
  rintro jk s i k w4 ⟨hc4, j, rfl, hj, rfl, rfl⟩
  refine ⟨fun hlt => ?_, fun hge => ?_⟩
  · have hlt : j < A.length := by have := of_decide_eq_true hlt; omega
    have hlt2 : j < B.length := by omega
    have hs := sumD_le (A.take j) (B.take j) (fun x hx => ha8 x (List.mem_of_mem_take hx)) (fun x hx => hb8 x (List.mem_of_mem_take hx))
    have ha := ha8 _ (List.getElem_mem hlt)
    have hb := hb8 _ (List.getElem_mem hlt2)
    have hap := apart_le ha hb
    rw [List.length_take] at hs
    refine ⟨⟨by omega, by omega⟩, (hra.keepN hc4).at (j := (j : Int).toNat * 1) (v := .int .i8 A[j]) (by simp [hlt]) fun p hp => ⟨_, hp, ⟨by omega, by omega⟩, (hrb.keepN hc4).at (j := (j : Int).toNat * 1) (v := .int .i8 B[j]) (by simp [hlt2]) fun p2 hp2 => ⟨_, hp2, step_call (apart_spec w4 ha hb) ?_⟩⟩⟩
    rintro v w5 ⟨rfl, rfl⟩
    exact ⟨_, rfl, A.length - (j + 1), by omega, hc4, j + 1, by rw [wrap_id (by omega) (by omega)]; rfl, hlt, rfl, by rw [sumD_snoc A B hlt hlt2, wrap_id (by omega) (by omega)]⟩
  · have hje : j = A.length := by have := of_decide_eq_false hge; omega
    subst hje
    refine ⟨hc13.andN hc4, fun e => absurd hcd e, fun _ => ?_⟩
    rw [List.take_length, List.take_of_length_le (by omega)]
end
end Go.Proofs.YtbadkcnemcnhfaaGreatDoor.Lens
