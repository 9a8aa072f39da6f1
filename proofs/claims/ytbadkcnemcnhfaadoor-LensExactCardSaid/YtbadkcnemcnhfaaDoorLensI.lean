/- For every two models: what the document's functions of layer 39 answer; the conditions stand in each theorem. -/
import Derived.Test.YtbadkcnemcnhfaaDoorLensH
import Derived.Test.YtbadkcnemcnhfaaDoorRefM
import Derived.Test.YtbadkcnemcnhfaaDoorVcLawX
set_option linter.unusedVariables false
set_option linter.unusedSimpArgs false
namespace Go.Proofs.YtbadkcnemcnhfaaDoor.Lens
open Go Go.Proofs Go.Proofs.YtbadkcnemcnhfaaDoor.V Go.Proofs.YtbadkcnemcnhfaaDoor.Vc Go.Proofs.YtbadkcnemcnhfaaDoor.Conf Go.Proofs.YtbadkcnemcnhfaaDoor.Brain Go.Proofs.YtbadkcnemcnhfaaDoor.Num Go.Proofs.YtbadkcnemcnhfaaDoor.RefM Go.RowKit

section
variable {w w' : World} {c d : CfD} {wa wb : ByteArray} {F G : Nat → Prop}
theorem weight_spec (w : World) {x : Int} (hx : 0 ≤ x ∧ x < 256) : Calls Tryd.prog i_coadjutorref39_weight #[.int .u8 x] w (Ret fun v w' => v = .int .i64 (IntKind.i8.wrap x) ∧ w' = w) := by
  have hw : IntKind.i8.wrap x = if x < 128 then x else x - 256 := by
    unfold IntKind.wrap
    simp [IntKind.bits, IntKind.signed]
    split <;> (try split) <;> omega
  refine coadjutorref39_weight.calls _ ?_
  unfold coadjutorref39_weight.vc
  rw [hw, wrap_id (x := x) (by omega) (by omega), wrap_id (x := x - 256) (by omega) (by omega)]
  exact ⟨dT fun h => ⟨by rw [if_neg (by omega)], rfl⟩, dF fun h => ⟨by rw [if_pos (by omega)], rfl⟩⟩
theorem far_spec (w : World) {a b : Int} (ha : -128 ≤ a ∧ a ≤ 127) (hb : -128 ≤ b ∧ b ≤ 127) : Calls Tryd.prog i_coadjutorref39_far #[.int .i64 a, .int .i64 b] w (Ret fun v w' => v = .int .i64 (apartI a b) ∧ w' = w) := by
  refine coadjutorref39_far.calls _ _ ?_
  unfold coadjutorref39_far.vc apartI
  rw [wrap_id (x := b - a) (by omega) (by omega), wrap_id (x := a - b) (by omega) (by omega)]
  exact ⟨dT fun h => ⟨by rw [if_pos h], rfl⟩, dF fun h => ⟨by rw [if_neg h], rfl⟩⟩
theorem numsB_bt' (s : ByteArray) {i : Nat} (h : i < s.size) : ∃ hi : i < (Vecs.numsB s).length, IntKind.i8.wrap (bt s (i : Int)) = (Vecs.numsB s)[i] := ⟨by rw [Vecs.numsB_len]; exact h, (numsB_bt s _).symm⟩
theorem rDistance_spec (w : World) (hl : wa.size = wb.size) (hm : wa.size ≤ 100000) : Calls Tryd.prog i_coadjutorref39_Distance #[mdE c wa, mdE d wb] w (Ret fun v w' => v = .int .i64 (sumD (Vecs.numsB wa) (Vecs.numsB wb)) ∧ Ch Non w w') := by
  refine coadjutorref39_Distance.calls _ _ _ _ _ _ _ _ _ _ _ _ _ _ ?_
  unfold coadjutorref39_Distance.vc
  intro w1 e1 w2 e2
  have hA := (Blk.new e1).keepN (Ch.alloc e2)
  have hB := Blk.new e2
  have hc02 : Ch Non w w2 := (Ch.alloc e1).andN (Ch.alloc e2)
  have hla := Vecs.numsB_len wa
  have hlb := Vecs.numsB_len wb
  have ha8 := numsB_8 wa
  have hb8 := numsB_8 wb
  refine ⟨fun s i k w' => Ch Non w2 w' ∧ ∃ j : Nat, i = j ∧ j ≤ wa.size ∧ k = wa.size - j ∧ s = sumD ((Vecs.numsB wa).take j) ((Vecs.numsB wb).take j), ⟨_, Ch.refl _ _, 0, rfl, Nat.zero_le _, rfl, rfl⟩, ?_⟩
  rintro jk s i k w3 ⟨hc3, j, rfl, hj, rfl, rfl⟩
  have hA3 := hA.keepN hc3
  have hB3 := hB.keepN hc3
  refine ⟨_, hA3.cell 6 rfl, dT fun hlt => ?_, dF fun hge => ?_⟩
  · have hlt : j < wa.size := by omega
    obtain ⟨h1, e1'⟩ := numsB_bt' wa hlt
    obtain ⟨h2, e2'⟩ := numsB_bt' wb (i := j) (by omega)
    have hs := sumD_le ((Vecs.numsB wa).take j) ((Vecs.numsB wb).take j) (fun x hx => ha8 x (List.mem_of_mem_take hx)) (fun x hx => hb8 x (List.mem_of_mem_take hx))
    rw [List.length_take] at hs
    have hap := apart_le (ha8 _ (List.getElem_mem h1)) (hb8 _ (List.getElem_mem h2))
    refine ⟨fun w' => Ch Non w3 w', fun w4 e4 => ⟨Ch.drew e4, _, fun w' k => (hA3.keepN k).cell 6 rfl, ⟨by omega, by omega⟩, _, fun w' k => (hB3.keepN k).cell 6 rfl, ⟨by omega, by omega⟩, step_call (weight_spec w4 (bt_lt _ _)) ?_⟩⟩
    rintro v w7 ⟨rfl, rfl⟩
    refine ⟨_, rfl, Ch.drew e4, step_call (weight_spec w7 (bt_lt _ _)) ?_⟩
    rintro v w8 ⟨rfl, rfl⟩
    rw [e1', e2']
    refine ⟨_, rfl, Ch.drew e4, step_call (far_spec w8 (ha8 _ (List.getElem_mem h1)) (hb8 _ (List.getElem_mem h2))) ?_⟩
    rintro v w9 ⟨rfl, rfl⟩
    exact ⟨_, rfl, Ch.drew e4, wa.size - (j + 1), by omega, hc3.andN (Ch.drew e4), j + 1, by rw [wrap_id (by omega) (by omega)]; rfl, hlt, rfl, by rw [sumD_snoc _ _ h1 h2, wrap_id (by omega) (by omega)]⟩
  · have hje : j = wa.size := by omega
    subst hje
    rw [List.take_of_length_le (by omega), List.take_of_length_le (by omega)]
    exact ⟨rfl, hc02.andN hc3⟩
theorem rPart_spec (w : World) {f n : Nat} (ha : f + n ≤ wa.size) (hb : f + n ≤ wb.size) (hm : wa.size ≤ 100000) : Calls Tryd.prog i_coadjutorref39_Part #[mdE c wa, mdE d wb, .int .i64 f, .int .i64 n] w (Ret fun v w' => v = .tuple #[.int .i64 (countD (segOf (Vecs.numsB wa) ((f : Int), (n : Int))) (segOf (Vecs.numsB wb) ((f : Int), (n : Int)))), .int .i64 (mostD (segOf (Vecs.numsB wa) ((f : Int), (n : Int))) (segOf (Vecs.numsB wb) ((f : Int), (n : Int))))] ∧ Ch Non w w') := by
  refine coadjutorref39_Part.calls _ _ _ _ _ _ _ _ _ _ _ _ _ _ _ _ ?_
  unfold coadjutorref39_Part.vc
  intro w1 e1 w2 e2
  have hA := (Blk.new e1).keepN (Ch.alloc e2)
  have hB := Blk.new e2
  have hc02 : Ch Non w w2 := (Ch.alloc e1).andN (Ch.alloc e2)
  have hla := Vecs.numsB_len wa
  have hlb := Vecs.numsB_len wb
  have seg : ∀ (s : ByteArray), f + n ≤ s.size → (segOf (Vecs.numsB s) ((f : Int), (n : Int))).length = n ∧ bytesOk (segOf (Vecs.numsB s) ((f : Int), (n : Int))) ∧ ∀ (j : Nat) (hj : j < (segOf (Vecs.numsB s) ((f : Int), (n : Int))).length), IntKind.i8.wrap (bt s ((f + j : Nat) : Int)) = (segOf (Vecs.numsB s) ((f : Int), (n : Int)))[j] := fun s hs => by
    have hl := Vecs.numsB_len s
    have hlen : (segOf (Vecs.numsB s) ((f : Int), (n : Int))).length = n := by
      unfold segOf
      show (((Vecs.numsB s).drop (f : Int).toNat).take (n : Int).toNat).length = n
      rw [Int.toNat_natCast, Int.toNat_natCast, List.length_take, List.length_drop]; omega
    refine ⟨hlen, fun x hx => numsB_8 s x (List.mem_of_mem_drop (List.mem_of_mem_take hx)), fun j hj => ?_⟩
    obtain ⟨h1, e⟩ := numsB_bt' s (i := f + j) (by omega)
    have hx : (segOf (Vecs.numsB s) ((f : Int), (n : Int)))[j]? = some ((Vecs.numsB s)[f + j]) := by
      unfold segOf
      show (((Vecs.numsB s).drop (f : Int).toNat).take (n : Int).toNat)[j]? = _
      rw [Int.toNat_natCast, Int.toNat_natCast, List.getElem?_take, if_pos (by omega), List.getElem?_drop, List.getElem?_eq_getElem h1]
    rw [List.getElem?_eq_getElem hj] at hx
    injection hx with hx
    rw [hx, e]
  obtain ⟨la, ba, va⟩ := seg wa ha
  obtain ⟨lb, bb, vb⟩ := seg wb hb
  generalize segOf (Vecs.numsB wa) ((f : Int), (n : Int)) = A at la ba va ⊢
  generalize segOf (Vecs.numsB wb) ((f : Int), (n : Int)) = B at lb bb vb ⊢
  refine ⟨fun cnt most i k w' => Ch Non w2 w' ∧ ∃ j : Nat, i = ((f + j : Nat) : Int) ∧ j ≤ n ∧ k = n - j ∧ cnt = countD (A.take j) (B.take j) ∧ most = mostD (A.take j) (B.take j), ⟨_, Ch.refl _ _, 0, rfl, Nat.zero_le _, rfl, rfl, rfl⟩, ?_⟩
  rintro jk cnt most i k w3 ⟨hc3, j, rfl, hj, rfl, rfl, rfl⟩
  have hA3 := hA.keepN hc3
  have hB3 := hB.keepN hc3
  rw [wrap_id (x := (f : Int) + n) (by omega) (by omega)]
  refine ⟨dT fun hlt => ?_, dF fun hge => ?_⟩
  · have hlt : j < n := by omega
    have h1 : j < A.length := by omega
    have h2 : j < B.length := by omega
    have e1' := va j h1
    have e2' := vb j h2
    have hcl := countD_le (A.take j) (B.take j)
    rw [List.length_take] at hcl
    have hap := apart_le (ba _ (List.getElem_mem h1)) (bb _ (List.getElem_mem h2))
    have hmg := mostD_ge (A.take j) (B.take j)
    refine ⟨fun w' => Ch Non w3 w', fun w4 e4 => ⟨Ch.drew e4, _, fun w' k => (hA3.keepN k).cell 6 rfl, ⟨by omega, by omega⟩, _, fun w' k => (hB3.keepN k).cell 6 rfl, ⟨by omega, by omega⟩, step_call (weight_spec w4 (bt_lt _ _)) ?_⟩⟩
    rintro v w7 ⟨rfl, rfl⟩
    refine ⟨_, rfl, Ch.drew e4, step_call (weight_spec w7 (bt_lt _ _)) ?_⟩
    rintro v w8 ⟨rfl, rfl⟩
    rw [e1', e2']
    refine ⟨_, rfl, Ch.drew e4, step_call (far_spec w8 (ba _ (List.getElem_mem h1)) (bb _ (List.getElem_mem h2))) ?_⟩
    rintro v w9 ⟨rfl, rfl⟩
    have hcs := countD_snoc A B h1 h2
    have hms := mostD_snoc A B h1 h2
    have em : (if apartI A[j] B[j] > mostD (A.take j) (B.take j) then apartI A[j] B[j] else mostD (A.take j) (B.take j)) = mostD (A.take (j + 1)) (B.take (j + 1)) := by rw [hms]; split <;> omega
    refine ⟨_, rfl, Ch.drew e4, dT fun hp => ?_, dF fun hp => ?_⟩
    · exact ⟨n - (j + 1), by omega, hc3.andN (Ch.drew e4), j + 1, by rw [wrap_id (by omega) (by omega)]; omega, hlt, rfl, by rw [hcs, wrap_id (by omega) (by omega)]; unfold isD; rw [if_pos hp], em⟩
    · exact ⟨n - (j + 1), by omega, hc3.andN (Ch.drew e4), j + 1, by rw [wrap_id (by omega) (by omega)]; omega, hlt, rfl, by rw [hcs]; unfold isD; rw [if_neg hp]; omega, em⟩
  · have hje : j = n := by omega
    subst hje
    rw [List.take_of_length_le (by omega), List.take_of_length_le (by omega)]
    exact ⟨rfl, hc02.andN hc3⟩
theorem rBlend_spec (w : World) (hl : wa.size = wb.size) (hm : wa.size ≤ 100000) {num den : Int} (hk : okND num den) : Calls Tryd.prog i_coadjutorref39_Blend #[mdE c wa, mdE d wb, .int .i64 num, .int .i64 den] w (Ret fun v w' => v = .string ⟨(blendL num den (Vecs.numsB wa) (Vecs.numsB wb)).toArray⟩ ∧ Ch Non w w') := by
  have hk' := hk
  obtain ⟨k1, k2, k3, k4⟩ := hk
  refine coadjutorref39_Blend.calls _ _ _ _ _ _ _ _ _ _ _ _ _ _ _ _ ?_
  unfold coadjutorref39_Blend.vc
  intro w1 e1 w2 e2 w3 e3
  have hA := (Blk.new e1).keepN (Ch.alloc e2)
  have hB := Blk.new e2
  have hc02 : Ch Non w w2 := (Ch.alloc e1).andN (Ch.alloc e2)
  have g0 : Gr Non w2 w3 t_uint8 1 (some ⟨w2.heap.size, 0, none⟩) 0 0 [] := Gr.made0 (Ch.refl _ _) e3
  have hla := Vecs.numsB_len wa
  have hlb := Vecs.numsB_len wb
  have ha8 := numsB_8 wa
  have hb8 := numsB_8 wb
  obtain ⟨L, hL⟩ : ∃ L, blendL num den (Vecs.numsB wa) (Vecs.numsB wb) = L := ⟨_, rfl⟩
  have hLl : L.length = wa.size := by rw [← hL]; unfold blendL; rw [List.length_zipWith]; omega
  rw [hL]
  refine ⟨fun o n cp i k w' => ∃ j : Nat, i = j ∧ n = j ∧ j ≤ L.length ∧ k = L.length - j ∧ Gr Non w2 w' t_uint8 1 o j cp ((L.take j).map u8v), ⟨_, 0, rfl, rfl, Nat.zero_le _, rfl, g0⟩, ?_⟩
  rintro jk o n cp i k w4 ⟨j, rfl, rfl, hj, rfl, hg⟩
  have hA4 := hA.keepN hg.2
  have hB4 := hB.keepN hg.2
  refine ⟨_, hA4.cell 6 rfl, dT fun hlt => ?_, dF fun hge => ?_⟩
  · have hlt : n < L.length := by omega
    obtain ⟨h1, e1'⟩ := numsB_bt' wa (i := n) (by omega)
    obtain ⟨h2, e2'⟩ := numsB_bt' wb (i := n) (by omega)
    have hv := blend_val hk' (ha8 _ (List.getElem_mem h1)) (hb8 _ (List.getElem_mem h2))
    have hLj : L[n] = blendI num den (Vecs.numsB wa)[n] (Vecs.numsB wb)[n] := by
      have := blendL_at num den (A := Vecs.numsB wa) (B := Vecs.numsB wb) (by omega) h1
      rw [hL, List.getElem?_eq_getElem hlt] at this
      injection this
    refine ⟨_, hA4.cell 6 rfl, ⟨by omega, by omega⟩, step_call (weight_spec w4 (bt_lt _ _)) ?_⟩
    rintro v w5 ⟨rfl, rfl⟩
    refine ⟨_, rfl, _, hB4.cell 6 rfl, ⟨by omega, by omega⟩, step_call (weight_spec w5 (bt_lt _ _)) ?_⟩
    rintro v w6 ⟨rfl, rfl⟩
    rw [e1', e2']
    have h8a := ha8 _ (List.getElem_mem h1)
    have h8b := hb8 _ (List.getElem_mem h2)
    generalize (Vecs.numsB wa)[n] = a at hv hLj h8a
    generalize (Vecs.numsB wb)[n] = b at hv hLj h8b
    rw [wrap_id (x := a) (by omega) (by omega), wrap_id (x := b) (by omega) (by omega)] at hv
    refine ⟨_, rfl, by omega, fun w7 e7 => ?_⟩
    rw [hv, ← hLj] at e7
    obtain ⟨o', c', w8, hr, hg8, _⟩ := hg.next el_S_uint8 t_S_uint8 hlt (by omega) e7 rfl rfl (by omega)
    exact ⟨o', _, c', w8, hr, L.length - (n + 1), by omega, n + 1, by rw [wrap_id (by omega) (by omega)]; rfl, rfl, hlt, rfl, hg8⟩
  · have hje : n = L.length := by omega
    subst hje
    rw [List.take_length] at hg
    have hout := conv_out (P := Tryd.prog) (src := 51) (dst := 9) (e := 5) (c := cp) hg.rd (by kernel_rfl) (by kernel_rfl) (by kernel_rfl)
    exact ⟨_, _, hout, rfl, hc02.andN hg.2⟩
end
end Go.Proofs.YtbadkcnemcnhfaaDoor.Lens
